/- Contracts and lemmas: PolA, TruA, TruB, TruC, DigD, DigE, DigF, RdgA, Itm, EncA, EncB. -/
import Derived.Maps.OwnSet
import Derived.Deep.AppendLies
import Derived.Test.YtchcllcbknfikaaGreatDoorTv2
set_option linter.unusedVariables false
set_option linter.unusedSimpArgs false
set_option maxRecDepth 100000
set_option maxHeartbeats 25600000
namespace Go.Proofs.YtchcllcbknfikaaGreatDoor
open Go.RowKit rQ
theorem Bb {a q v : Int} (h0 : 0 ≤ a) (h : a % q = v) : a.tmod q = v := by rw [Int.tmod_eq_emod_of_nonneg h0]; exact h
theorem Dr (q a b v : Int) (hv : Hid ((a - b + q) % q = v)) (h1 : 1 ≤ q) (h2 : q < 2305843009213693952) (a0 : 0 ≤ a) (a1 : a < q) (b0 : 0 ≤ b) (b1 : b < q) (w : World) :
  Calls Tryz.prog 94 #[.int .i64 q, .int .i64 a, .int .i64 b] w (Rt w (.int .i64 v)) := by
 have d1 : IntKind.i64.wrap (a - b) = a - b := IntWalk.i64_in _ (by omega)
 have d2 : IntKind.i64.wrap (a - b + q) = a - b + q := IntWalk.i64_in _ (by omega)
 have e1 : wrap64 (a - b) = a - b := IntWalk.wrap64_in _ (by omega)
 have e2 : wrap64 (a - b + q) = a - b + q := IntWalk.wrap64_in _ (by omega)
 have htm : (a - b + q).tmod q = v := Bb (by omega) hv.out
 have v0 : 0 ≤ v := by rw [← hv.out]; exact Int.emod_nonneg _ (by omega)
 have v1 : v < q := by rw [← hv.out]; exact Int.emod_lt_of_pos _ (by omega)
 have hwt : IntKind.i64.wrap v = v := IntWalk.i64_in _ (by omega)
 have hQn : ¬ (q = 0) := by omega
 have hQz : ((q : Int) == 0) = false := by simp; omega
 go_in
 go_wp2
 go_ret
 exact ⟨rfl, Below.refl _ _⟩
theorem vG (q a b v : Int) (hv : Hid (a * b % q = v)) (h2 : q < 2305843009213693952) (a0 : 0 ≤ a) (a1 : a < q) (b0 : 0 ≤ b) (b1 : b < q) (w : World) :
  Calls Tryz.prog 93 #[.int .i64 q, .int .i64 a, .int .i64 b] w (Rt w (.int .i64 v)) := by
 go_in
 go_wp2_with fail
 refine (xx a b q v hv h2 a0 a1 b0 b1 _).mono ?_
 rintro e w' ⟨rfl, n3, rfl⟩
 have hbq := ay (Below.refl w.heap.size w) n3
 go_wp2
 go_ret
 exact ⟨rfl, hbq⟩
theorem Li (q a v : Int) (hv : Hid (uL a q = v)) (h1 : 2 ≤ q) (h2 : q < 2305843009213693952) (a0 : 0 ≤ a) (a1 : a < q) (w : World) :
  Calls Tryz.prog 95 #[.int .i64 q, .int .i64 a] w fun e' w' => e' = .returned (.int .i64 v) ∧ 0 ≤ v ∧ v < q ∧ Below w.heap.size w w' := by
 go_in
 go_wp2_with fail
 refine (Kk a q h1 h2 a0 a1 _).mono ?_
 rintro e w' ⟨x, r, rfl, hx, n3, rfl⟩
 obtain rfl : x = v := (DW hx).symm.trans hv.out
 have x0 := hx.1
 have x1 := hx.2.1
 have hbq := ay (Below.refl w.heap.size w) n3
 clear hx
 go_wp2
 go_ret
 exact ⟨rfl, x0, x1, hbq⟩
theorem FP (q : Int) (h2 : q < 2305843009213693952) (hp : Hid (nC q = true)) (w : World) (hv : Hid (Vars w)) :
  Calls Tryz.prog 116 #[.int .i64 q] w (Rt w (.bool true)) := by
 have d1 : decide (q < 2305843009213693952) = true := by simp; omega
 go_in
 go_wp2_with fail
 refine (lq q (by omega) true hp.out _ hv.out).mono ?_
 rintro e w' ⟨rfl, n3, rfl⟩
 have hbq := ay (Below.refl w.heap.size w) n3
 go_wp2
 go_ret
 exact ⟨rfl, hbq⟩
theorem KC (q : Int) (a : Nat) (W : World) (hx : Hid (W.cell? ⟨a, 0, none⟩ = some (.int .i64 q))) :
  Says 157 #[.pointer (some ⟨a, 0, none⟩)] (fun x => !gW q x) W := fun x w1 hb => by
 show Calls Tryz.prog 157 #[.int .i64 x, .pointer (some ⟨a, 0, none⟩)] w1 fun e w' => e = .returned (.bool (!gW q x)) ∧ Below w1.heap.size w1 w'
 have c0 := cell_below hx.out hb
 by_cases h0 : x < 0
 ·
  have e : gW q x = false := by simp [gW]; omega
  rw [e]
  have d0 : decide (x < 0) = true := by simp; omega
  clear hb e
  go_in
  go_wp2
  go_ret
  exact ⟨rfl, Below.refl _ _⟩
 ·
  have d0 : decide (x < 0) = false := by simp; omega
  obtain ⟨t, ht⟩ : ∃ t, decide (q ≤ x) = t := ⟨_, rfl⟩
  have e : gW q x = !t := by
   rw [← ht, gW, decide_eq_true (show (0 : Int) ≤ x by omega), Bool.true_and, ← decide_not]
   exact decide_eq_decide.2 (by omega)
  rw [e, Bool.not_not]
  clear hb e
  go_in
  go_wp2
  go_ret
  exact ⟨by first | rfl | rw [ht], Below.refl _ _⟩
theorem uy (q : Int) (A : Option Addr) (xs : List Int) (n c : Nat) (r : Bool) (hr : Hid (xs.all (gW q) = r)) (hn : Hid (xs.length = n)) (hbig : Hid (n < 1000000)) (w : World) (hs : Hid (Sl w A xs)) :
  Calls Tryz.prog 102 #[.int .i64 q, .slice A n c] w (Rt w (.bool r)) := by
 have HX0 : Hid ((w.alloc (.cells #[.int .i64 q] 3)).cell? ⟨w.heap.size, 0, none⟩ = some (.int .i64 q)) := aa (ak (heap_alloc_new _ _) 0)
 have Io := aa (hs.out.below (af w (.cells #[.int .i64 q] 3)))
 have TY := aa (KC q w.heap.size _ HX0)
 have HP : Hid ((xs.any fun x => !gW q x) = !r) := aa (by rw [q8, hr.out])
 clear hs
 go_in
 go_wp2_with fail
 refine (TA (.pointer (some ⟨w.heap.size, 0, none⟩)) (fun x => !gW q x) (!r) A xs n c HP hn hbig _ Io TY).mono ?_
 rintro e w1 ⟨rfl, hb0⟩
 have hb1 := ag (af _ _) hb0
 clear hb0
 go_wp2
 go_ret
 exact ⟨by simp, hb1⟩
theorem LZ (A : Option Addr) (xs : List Int) (n c : Nat) (v : Int) (hn : Hid (xs.length = n)) (hbig : n < 1000000) (hno : Hid (∀ k, k < n → v ≠ xs.getD k 0)) (w : World) (hs : Hid (Sl w A xs)) :
  Calls Tryz.prog 183 #[.slice A n c, .int .i64 v] w (Rt w (.int .i64 (-1))) := by
 go_in
 go_wp2
 go_loopw [8] (fun i wr => ∃ k : Nat, k ≤ n ∧ i = .int .i64 k ∧ Hid (Below w.heap.size w wr)) (fun i _ => n - (intOf i).toNat)
 case atStart => exact ⟨0, by omega, rfl, aa (Below.refl _ _)⟩
 case round =>
  obtain ⟨k, hk, rfl, au⟩ := hrel
  by_cases hlt : k < n
  ·
   have hkl : k < xs.length := by rw [hn.out]; exact hlt
   obtain ⟨b, o, hA, hi0⟩ := hs.out.below au.out k hkl
   subst hA
   have hne := hno.out k hlt
   obtain ⟨x, hx⟩ : ∃ x, xs.getD k 0 = x := ⟨_, rfl⟩
   rw [hx] at hi0 hne
   have hnq : (v == x) = false := by simpa using hne
   clear hx hkl hne
   go_wp2
   go_roundw
   case rel => exact ⟨k + 1, by omega, by go_num, au⟩
   case measure => simp [intOf]; omega
  ·
   obtain rfl : k = n := by omega
   go_wp2
   go_ret
   exact ⟨rfl, au.out⟩
theorem Ej (A : Option Addr) (xs : List Int) (n c : Nat) (v : Int) (hn : Hid (xs.length = n)) (hbig : n < 1000000) (hno : Hid (∀ k, k < n → v ≠ xs.getD k 0)) (w : World) (hs : Hid (Sl w A xs)) :
  Calls Tryz.prog 147 #[.slice A n c, .int .i64 v] w (Rt w (.bool false)) := by
 go_in
 go_wp2_with fail
 refine (LZ A xs n c v hn hbig hno _ hs).mono ?_
 rintro e w1 ⟨rfl, hb0⟩
 go_wp2
 go_ret
 exact ⟨rfl, hb0⟩
theorem Be {w : World} {A : Option Addr} {xs : List Int} (h : Sl w A xs) (k : Nat) : Sl w A (xs.take k) := fun j hj => by
 have hj2 : j < k ∧ j < xs.length := by rw [List.length_take] at hj; omega
 obtain ⟨b, o, h1, h2⟩ := h j hj2.2
 refine ⟨b, o, h1, ?_⟩
 rw [h2, List.getD_eq_getElem?_getD, List.getD_eq_getElem?_getD, List.getElem?_take_of_lt hj2.1]
def jU (xs : List Int) : Prop := ∀ i j, i < xs.length → j < i → xs.getD i 0 ≠ xs.getD j 0
theorem Jf (q : Int) (A : Option Addr) (xs : List Int) (n c : Nat) (O : Option Addr) (os : List Int) (m d : Nat) (h2 : q < 2305843009213693952) (hp : Hid (nC q = true)) (hn : Hid (xs.length = n)) (hbig : n ≤ 100) (hcap : n ≤ c) (hm : Hid (os.length = m)) (hmb : m ≤ 100)
  (hx : Hid (xs.all (gW q) = true)) (ho : Hid (os.all (gW q) = true)) (hnt : Hid (jU xs)) (w : World) (hv : Hid (Vars w)) (hs : Hid (Sl w A xs)) (hO : Hid (Sl w O os)) :
  Calls Tryz.prog 92 #[.int .i64 q, .slice A n c, .slice O m d] w (Rt w (.int .i64 0)) := by
 have d1 : decide ((100 : Int) < (n : Int)) = false := by simp; omega
 go_in
 go_wp2_with fail
 refine (FP q h2 hp _ hv).mono ?_
 rintro e w1 ⟨rfl, hb0⟩
 have HB1 := aa hb0
 clear hb0
 go_wp2_with fail
 refine (uy q A xs n c true hx hn (aa (by omega)) _ (aa (hs.out.below HB1.out))).mono ?_
 rintro e w2 ⟨rfl, hb0⟩
 have HB2 := aa (ag HB1.out hb0)
 clear hb0
 go_wp2_with fail
 refine (uy q O os m d true ho hm (aa (by omega)) _ (aa (hO.out.below HB2.out))).mono ?_
 rintro e w3 ⟨rfl, hb0⟩
 have HB3 := aa (ag HB2.out hb0)
 clear hb0
 go_wp2
 go_loopw [31] (fun i wr => ∃ k : Nat, k ≤ n ∧ i = .int .i64 k ∧ Hid (Below w.heap.size w wr)) (fun i _ => n - (intOf i).toNat)
 case atStart => exact ⟨0, by omega, rfl, HB3⟩
 case round =>
  obtain ⟨k, hk, rfl, au⟩ := hrel
  by_cases hlt : k < n
  ·
   have hkl : k < xs.length := by rw [hn.out]; exact hlt
   have T_ := aa (hs.out.below au.out)
   obtain ⟨b, o, hA, hi0⟩ := T_.out k hkl
   subst hA
   have hkc : k ≤ c := by omega
   have HT := aa (Be T_.out k)
   have QY : Hid ((xs.take k).length = k) := aa (by rw [List.length_take]; omega)
   have Qe : Hid (∀ j, j < k → xs.getD k 0 ≠ (xs.take k).getD j 0) := aa (fun j hj => by
    have := hnt.out k j hkl hj
    rwa [List.getD_eq_getElem?_getD (l := xs.take k), List.getElem?_take_of_lt hj, ← List.getD_eq_getElem?_getD])
   obtain ⟨x, hx9⟩ : ∃ x, xs.getD k 0 = x := ⟨_, rfl⟩
   rw [hx9] at hi0 Qe
   clear hx9 hkl
   go_wp2_with fail
   refine (Ej (some ⟨b, o, none⟩) (xs.take k) k c x QY (by omega) Qe _ HT).mono ?_
   rintro e w4 ⟨rfl, hb0⟩
   have jF := aa (ag au.out hb0)
   clear hb0
   go_wp2
   go_roundw
   case rel => exact ⟨k + 1, by omega, by go_num, jF⟩
   case measure => simp [intOf]; omega
  ·
   obtain rfl : k = n := by omega
   go_wp2
   go_ret
   exact ⟨rfl, au.out⟩
def rT (q : Int) (xs : List Int) (i : Nat) (x : Int) : Nat → Int
 | 0 => 1
 | m + 1 => if m = i then rT q xs i x m else rT q xs i x m * ((x - xs.getD m 0 + q) % q) % q
theorem mg {q : Int} (hq : 2 ≤ q) (xs : List Int) (i : Nat) (x : Int) : ∀ m, 0 ≤ rT q xs i x m ∧ rT q xs i x m < q
 | 0 => ⟨by rw [rT]; omega, by rw [rT]; omega⟩
 | m + 1 => by
  rw [rT]
  split
  · exact mg hq xs i x m
  · exact ⟨Int.emod_nonneg _ (by omega), Int.emod_lt_of_pos _ (by omega)⟩
noncomputable def vk (q : Int) (xs : List Int) (t : Int) (i : Nat) : Int := rT q xs i t xs.length * uL (rT q xs i (xs.getD i 0) xs.length) q % q
noncomputable def CK (q : Int) (xs : List Int) (t : Int) (k : Nat) : List Int := (List.range k).map (vk q xs t)
theorem fJ (q : Int) (xs : List Int) (t : Int) (k : Nat) : (CK q xs t k).length = k := by simp [CK]
theorem CJ (q : Int) (xs : List Int) (t : Int) (k : Nat) : CK q xs t (k + 1) = CK q xs t k ++ [vk q xs t k] := by simp [CK, List.range_succ]
theorem GN (q : Int) (xs : List Int) (t : Int) (k i : Nat) (h : i < k) : (CK q xs t k).getD i 0 = vk q xs t i := by
 rw [CK, List.getD_eq_getElem?_getD, List.getElem?_map, List.getElem?_range h]; rfl
theorem x_ {q : Int} (hq : 2 ≤ q) (xs : List Int) (t : Int) (i : Nat) : 0 ≤ vk q xs t i ∧ vk q xs t i < q := ⟨Int.emod_nonneg _ (by omega), Int.emod_lt_of_pos _ (by omega)⟩
theorem C9 (x y q : Int) : x + q - y = x - y + q := by omega
theorem DV {q : Int} (hq : 2 ≤ q) : (1 : Int).tmod q = 1 := by rw [Int.tmod_eq_emod_of_nonneg (by omega)]; exact Int.emod_eq_of_lt (by omega) (by omega)
def W9 (q : Int) (xs : List Int) (t : Int) (n : Nat) (w : World) (e : Ending) (w' : World) : Prop := ∃ v, e = .returned (.tuple #[v, .int .i64 0]) ∧ fT w' w.heap.size v (CK q xs t n) ∧ Below w.heap.size w w'
theorem CP (q : Int) (A : Option Addr) (xs : List Int) (n c : Nat) (t : Int) (h2 : q < 2305843009213693952) (hp : Hid (nC q = true)) (hn : Hid (xs.length = n)) (hbig : n ≤ 100) (hx : Hid (xs.all (gW q) = true)) (t0 : 0 ≤ t) (t1 : t < q) (hcap : n ≤ c) (hnt : Hid (jU xs)) (w : World) (hv : Hid (Vars w)) (hs : Hid (Sl w A xs)) :
  Calls Tryz.prog 34 #[.int .i64 q, .slice A n c, .int .i64 t] w (W9 q xs t n w) := by
 obtain ⟨i0, hi, hz0, hz1, hz2⟩ := info_parts lQ
 have q2 := xJ hp.out
 have hq := af w (.cells #[.int .i64 t] 3)
 have HO := aa (gF (tL w 3 t))
 have HVa := aa (hv.out.below hq)
 have HSa := aa (hs.out.below hq)
 have U9 : Hid ([t].all (gW q) = true) := aa (GX t0 t1)
 have HBa := aa hq
 clear hq hv hs
 go_in
 go_wp2_with fail
 refine (Jf q A xs n c (some ⟨w.heap.size, 0, none⟩) [t] 1 1 h2 hp hn hbig hcap (aa rfl) (by omega) hx U9 hnt _ HVa HSa HO).mono ?_
 rintro e W ⟨rfl, hb0⟩
 have rY := aa (ag HBa.out hb0)
 have EI := aa (HSa.out.below hb0)
 have HZW := aa rY.out.size
 clear hb0 HO HVa HSa
 go_wp2
 go_loopw [9, 26] (fun v i wr => ∃ k : Nat, k ≤ n ∧ i = .int .i64 k ∧ Hid (fT wr W.heap.size v (CK q xs t k)) ∧ Hid (Below W.heap.size W wr)) (fun _ i _ => n - (intOf i).toNat)
 case atStart => exact ⟨0, by omega, rfl, aa (yN _ _), aa (Below.refl _ _)⟩
 case round =>
  obtain ⟨k, hk, rfl, HOr, au⟩ := hrel
  by_cases hlt : k < n
  ·
   have hkl : k < xs.length := by rw [hn.out]; exact hlt
   obtain ⟨b, o, hA, hi0⟩ := EI.out.below au.out k hkl
   subst hA
   have hm1 := ig hx.out hkl
   obtain ⟨xk, hxk⟩ : ∃ x, xs.getD k 0 = x := ⟨_, rfl⟩
   rw [hxk] at hi0 hm1
   have k0 := qG hm1
   have k1 := sP hm1
   have YD := aa hxk
   have hQn : ¬ (q = 0) := by omega
   have hQz : ((q : Int) == 0) = false := by simp; omega
   have h1m := DV q2
   clear hxk hm1 hkl
   go_wp2
   go_quiet (fail)
   go_wp2
   clear hi0
   go_loopw [12, 13, 37] (fun a u j wz => ∃ m : Nat, m ≤ n ∧ j = .int .i64 m ∧ a = .int .i64 (rT q xs k t m) ∧ u = .int .i64 (rT q xs k xk m) ∧ Hid (Below wr.heap.size wr wz)) (fun _ _ j _ => n - (intOf j).toNat)
   case atStart => exact ⟨0, by omega, rfl, rfl, rfl, aa (by first | exact Below.refl _ _ | exact (Below.refl _ _).drew | exact ay (Below.refl _ _) _)⟩
   case round =>
    obtain ⟨m, hm, rfl, rfl, rfl, qC⟩ := hrel
    obtain ⟨a0, a1⟩ := mg q2 xs k t m
    obtain ⟨u0, u1⟩ := mg q2 xs k xk m
    by_cases hlm : m < n
    ·
     have hml : m < xs.length := by rw [hn.out]; exact hlm
     obtain ⟨b2, o2, hA2, hi1⟩ := EI.out.below (ag au.out qC.out) m hml
     cases hA2
     have hm2 := ig hx.out hml
     have sa : rT q xs k t (m + 1) = if m = k then rT q xs k t m else rT q xs k t m * ((t - xs.getD m 0 + q) % q) % q := rfl
     have su : rT q xs k xk (m + 1) = if m = k then rT q xs k xk m else rT q xs k xk m * ((xk - xs.getD m 0 + q) % q) % q := rfl
     obtain ⟨y, hy⟩ : ∃ x, xs.getD m 0 = x := ⟨_, rfl⟩
     rw [hy] at hi1 hm2 sa su
     have y0 := qG hm2
     have y1 := sP hm2
     obtain ⟨av, Jv⟩ : ∃ x, rT q xs k t m = x := ⟨_, rfl⟩
     obtain ⟨uv, huv⟩ : ∃ x, rT q xs k xk m = x := ⟨_, rfl⟩
     rw [Jv] at a0 a1 sa ⊢
     rw [huv] at u0 u1 su ⊢
     clear hy hm2 hml Jv huv
     by_cases hmk : m = k
     ·
      have dn : ((m : Int) != (k : Int)) = false := by simp [hmk]
      rw [if_pos hmk] at sa su
      have SA := aa sa
      have SU := aa su
      have HMK := aa hmk
      clear sa su hmk
      go_wp2
      go_roundw
      case rel => exact ⟨m + 1, by omega, by go_num, by rw [SA.out], by rw [SU.out], qC⟩
      case measure => simp [intOf]; omega
     ·
      have dn : ((m : Int) != (k : Int)) = true := by simp; omega
      rw [if_neg hmk] at sa su
      obtain ⟨s1, hs1⟩ : ∃ x, (t - y + q) % q = x := ⟨_, rfl⟩
      obtain ⟨s2, hs2⟩ : ∃ x, (xk - y + q) % q = x := ⟨_, rfl⟩
      rw [hs1] at sa
      rw [hs2] at su
      obtain ⟨p1, hp1⟩ : ∃ x, av * s1 % q = x := ⟨_, rfl⟩
      obtain ⟨p2, hp2⟩ : ∃ x, uv * s2 % q = x := ⟨_, rfl⟩
      rw [hp1] at sa
      rw [hp2] at su
      have z1 : 0 ≤ s1 := by rw [← hs1]; exact Int.emod_nonneg _ (by omega)
      have z2 : s1 < q := by rw [← hs1]; exact Int.emod_lt_of_pos _ (by omega)
      have z3 : 0 ≤ s2 := by rw [← hs2]; exact Int.emod_nonneg _ (by omega)
      have z4 : s2 < q := by rw [← hs2]; exact Int.emod_lt_of_pos _ (by omega)
      have SA := aa sa
      have SU := aa su
      have H1 := aa hs1
      have H2 := aa hs2
      have H3 := aa hp1
      have H4 := aa hp2
      clear sa su hs1 hs2 hp1 hp2 hmk
      go_wp2_with fail
      refine (Dr q t y s1 H1 (by omega) h2 t0 t1 y0 y1 _).mono ?_
      rintro e wy1 ⟨rfl, g1⟩
      have G1 := aa g1
      clear g1
      go_wp2_with fail
      refine (vG q av s1 p1 H3 h2 a0 a1 z1 z2 _).mono ?_
      rintro e wy2 ⟨rfl, g2⟩
      have G2 := aa g2
      clear g2
      go_wp2_with fail
      refine (Dr q xk y s2 H2 (by omega) h2 k0 k1 y0 y1 _).mono ?_
      rintro e wy3 ⟨rfl, g3⟩
      have G3 := aa g3
      clear g3
      go_wp2_with fail
      refine (vG q uv s2 p2 H4 h2 u0 u1 z3 z4 _).mono ?_
      rintro e wy4 ⟨rfl, g4⟩
      have G4 := aa g4
      clear g4
      have HB2 := aa (ag (ag (ag (ag qC.out G1.out) G2.out) G3.out) G4.out)
      go_wp2
      go_roundw
      case rel => exact ⟨m + 1, by omega, by go_num, by rw [SA.out], by rw [SU.out], HB2⟩
      case measure => simp [intOf]; omega
    ·
     obtain rfl : m = n := by omega
     have hlen := hn.out
     obtain ⟨av, Jv⟩ : ∃ x, rT q xs k t m = x := ⟨_, rfl⟩
     obtain ⟨uv, huv⟩ : ∃ x, rT q xs k xk m = x := ⟨_, rfl⟩
     obtain ⟨iv, hiv⟩ : ∃ x, uL uv q = x := ⟨_, rfl⟩
     obtain ⟨wv, hwv⟩ : ∃ x, av * iv % q = x := ⟨_, rfl⟩
     have HWI : Hid (vk q xs t k = wv) := aa (by rw [vk, hlen, YD.out, Jv, huv, hiv, hwv])
     rw [Jv] at a0 a1 ⊢
     rw [huv] at u0 u1 ⊢
     have HIV := aa hiv
     have P9 := aa hwv
     have JO := aa (HOr.out.keep qC.out)
     have X7 := aa (ag au.out qC.out)
     clear hlen Jv huv hiv hwv qC au HOr
     go_wp2_with fail
     refine (Li q uv iv HIV q2 h2 u0 u1 _).mono ?_
     rintro e y1 ⟨rfl, v0, v1, g1⟩
     have zm := aa (JO.out.keep g1)
     have HB1 := aa (ag X7.out g1)
     clear g1 JO X7
     go_wp2_with fail
     refine (vG q av iv wv P9 h2 a0 a1 v0 v1 _).mono ?_
     rintro e y2 ⟨rfl, g1⟩
     have qA := aa (zm.out.keep g1)
     have HB2 := aa (ag HB1.out g1)
     clear g1 zm HB1
     have hown : y2.ownsRow W.heap.size 3 1 u9 k ((CK q xs t k).map (Value.int .i64)) := by
      have h3 := qA.out
      unfold fT at h3
      rwa [fJ] at h3
     have hbs := HB2.out.size
     go_wp2_with (at_builtin; refine wpList_append_own _ rfl _ _ 24 rfl W.heap.size 3 i0 (.int .i64 0) 1 8 Tryz.underlying24 hi hz0 hz1 hz2 rfl (by decide) _ _ _ rfl (hown.alloc _) ⟨y2.heap.size, 0, none⟩ 1 1 [.int .i64 wv] rfl rfl (cell_one_new _ _ _) (ints_oneCell .i64 [wv]) (by unfold maxLen; omega) (by omega) (by simp; omega) ?_; intro v' y3 hown1 hgrow1 _)
     have lU : Hid (fT y3 W.heap.size v' (CK q xs t (k + 1))) := aa (by
      rw [CJ, HWI.out]
      exact fT.app (fJ q xs t k).symm hown1)
     have HB3 : Hid (Below W.heap.size W y3) := aa (qA.out.below HB2.out hbs hgrow1)
     clear hown hown1 hgrow1 qA HB2
     go_roundw
     case rel => exact ⟨k + 1, by omega, by go_num, lU, HB3⟩
     case measure => simp [intOf]; omega
  ·
   obtain rfl : k = n := by omega
   have hF := ag rY.out au.out
   have hO := (HOr.out).mono HZW.out
   have HF := aa hF
   have Um := aa hO
   clear hF hO HOr au
   go_wp2
   go_ret2
   exact ⟨_, rfl, Um.out, HF.out⟩
theorem Sz {a q v : Int} (hq : 2 ≤ q) (h : uL a q = v) : 0 ≤ v ∧ v < q := by
 rw [← h]
 unfold uL
 split
 · rename_i he; exact ⟨(Classical.choose_spec he).1, (Classical.choose_spec he).2.1⟩
 · omega
def TN (q : Int) (xs : List Int) (t : Int) (n : Nat) (w : World) (e : Ending) (w' : World) : Prop := ∃ v, e = .returned v ∧ fT w' w.heap.size v (CK q xs t n) ∧ Below w.heap.size w w'
theorem Bf (q : Int) (A : Option Addr) (xs : List Int) (n c : Nat) (t : Int) (h2 : q < 2305843009213693952) (hp : Hid (nC q = true)) (hn : Hid (xs.length = n)) (hbig : n ≤ 100) (hx : Hid (xs.all (gW q) = true)) (t0 : 0 ≤ t) (t1 : t < q) (w : World) (hs : Hid (Sl w A xs)) :
  Calls Tryz.prog 54 #[.int .i64 q, .slice A n c, .int .i64 t] w (TN q xs t n w) := by
 obtain ⟨i0, hi, hz0, hz1, hz2⟩ := info_parts lQ
 have q2 := xJ hp.out
 go_in
 go_wp2
 go_loopw [7, 8] (fun v i wr => ∃ k : Nat, k ≤ n ∧ i = .int .i64 k ∧ Hid (fT wr w.heap.size v (CK q xs t k)) ∧ Hid (Below w.heap.size w wr)) (fun _ i _ => n - (intOf i).toNat)
 case atStart => exact ⟨0, by omega, rfl, aa (yN _ _), aa (Below.refl _ _)⟩
 case round =>
  obtain ⟨k, hk, rfl, HOr, au⟩ := hrel
  by_cases hlt : k < n
  ·
   have hkl : k < xs.length := by rw [hn.out]; exact hlt
   have hm1 := ig hx.out hkl
   obtain ⟨xk, hxk⟩ : ∃ x, xs.getD k 0 = x := ⟨_, rfl⟩
   rw [hxk] at hm1
   have k0 := qG hm1
   have k1 := sP hm1
   have YD := aa hxk
   have hQn : ¬ (q = 0) := by omega
   have hQz : ((q : Int) == 0) = false := by simp; omega
   clear hxk hm1
   go_wp2
   go_loopw [9, 10, 11] (fun a u j wz => ∃ m : Nat, m ≤ n ∧ j = .int .i64 m ∧ a = .int .i64 (rT q xs k t m) ∧ u = .int .i64 (rT q xs k xk m) ∧ Hid (Below wr.heap.size wr wz)) (fun _ _ j _ => n - (intOf j).toNat)
   case atStart => exact ⟨0, by omega, rfl, rfl, rfl, aa (Below.refl _ _)⟩
   case round =>
    obtain ⟨m, hm, rfl, rfl, rfl, qC⟩ := hrel
    obtain ⟨a0, a1⟩ := mg q2 xs k t m
    obtain ⟨u0, u1⟩ := mg q2 xs k xk m
    by_cases hlm : m < n
    ·
     have hml : m < xs.length := by rw [hn.out]; exact hlm
     have TW := aa (hs.out.below (ag au.out qC.out))
     obtain ⟨b2, o2, hA2, hi1⟩ := TW.out m hml
     obtain ⟨b3, o3, hA3, hi0⟩ := TW.out k hkl
     subst hA2
     cases hA3
     rw [YD.out] at hi0
     have hm2 := ig hx.out hml
     have sa : rT q xs k t (m + 1) = if m = k then rT q xs k t m else rT q xs k t m * ((t - xs.getD m 0 + q) % q) % q := rfl
     have su : rT q xs k xk (m + 1) = if m = k then rT q xs k xk m else rT q xs k xk m * ((xk - xs.getD m 0 + q) % q) % q := rfl
     obtain ⟨y, hy⟩ : ∃ x, xs.getD m 0 = x := ⟨_, rfl⟩
     rw [hy] at hi1 hm2 sa su
     have y0 := qG hm2
     have y1 := sP hm2
     obtain ⟨av, Jv⟩ : ∃ x, rT q xs k t m = x := ⟨_, rfl⟩
     obtain ⟨uv, huv⟩ : ∃ x, rT q xs k xk m = x := ⟨_, rfl⟩
     rw [Jv] at a0 a1 sa ⊢
     rw [huv] at u0 u1 su ⊢
     clear hy hm2 hml Jv huv
     by_cases hmk : m = k
     ·
      have dn : ((m : Int) != (k : Int)) = false := by simp [hmk]
      rw [if_pos hmk] at sa su
      have SA := aa sa
      have SU := aa su
      have HMK := aa hmk
      clear sa su hmk hi0 hi1
      go_wp2
      go_roundw
      case rel => exact ⟨m + 1, by omega, by go_num, by rw [SA.out], by rw [SU.out], qC⟩
      case measure => simp [intOf]; omega
     ·
      have dn : ((m : Int) != (k : Int)) = true := by simp; omega
      rw [if_neg hmk] at sa su
      obtain ⟨s1, hs1⟩ : ∃ x, (t - y + q) % q = x := ⟨_, rfl⟩
      obtain ⟨s2, hs2⟩ : ∃ x, (xk - y + q) % q = x := ⟨_, rfl⟩
      rw [hs1] at sa
      rw [hs2] at su
      obtain ⟨p1, hp1⟩ : ∃ x, av * s1 % q = x := ⟨_, rfl⟩
      obtain ⟨p2, hp2⟩ : ∃ x, uv * s2 % q = x := ⟨_, rfl⟩
      rw [hp1] at sa
      rw [hp2] at su
      have z1 : 0 ≤ s1 := by rw [← hs1]; exact Int.emod_nonneg _ (by omega)
      have z2 : s1 < q := by rw [← hs1]; exact Int.emod_lt_of_pos _ (by omega)
      have z3 : 0 ≤ s2 := by rw [← hs2]; exact Int.emod_nonneg _ (by omega)
      have z4 : s2 < q := by rw [← hs2]; exact Int.emod_lt_of_pos _ (by omega)
      have r1 : (t + q - y).tmod q = s1 := Bb (by omega) (by rw [C9]; exact hs1)
      have r2 : (xk + q - y).tmod q = s2 := Bb (by omega) (by rw [C9]; exact hs2)
      have c1 : IntKind.i64.wrap (t + q) = t + q := IntWalk.i64_in _ (by omega)
      have c2 : IntKind.i64.wrap (t + q - y) = t + q - y := IntWalk.i64_in _ (by omega)
      have c3 : IntKind.i64.wrap (xk + q) = xk + q := IntWalk.i64_in _ (by omega)
      have c4 : IntKind.i64.wrap (xk + q - y) = xk + q - y := IntWalk.i64_in _ (by omega)
      have e1 : wrap64 (t + q) = t + q := IntWalk.wrap64_in _ (by omega)
      have e2 : wrap64 (t + q - y) = t + q - y := IntWalk.wrap64_in _ (by omega)
      have e3 : wrap64 (xk + q) = xk + q := IntWalk.wrap64_in _ (by omega)
      have e4 : wrap64 (xk + q - y) = xk + q - y := IntWalk.wrap64_in _ (by omega)
      have f1 : IntKind.i64.wrap s1 = s1 := IntWalk.i64_in _ (by omega)
      have f2 : IntKind.i64.wrap s2 = s2 := IntWalk.i64_in _ (by omega)
      have SA := aa sa
      have SU := aa su
      have H3 := aa hp1
      have H4 := aa hp2
      clear sa su hs1 hs2 hp1 hp2 hmk
      go_wp2_with fail
      refine (fB av s1 q p1 H3 h2 a0 a1 z1 z2 _).mono ?_
      rintro e wy ⟨rfl, rfl⟩
      go_wp2
      go_quiet ((go_at_call 45; exact mq (fB uv s2 q p2 H4 h2 u0 u1 z3 z4 _)))
      have HB2 := aa (ay qC.out nq)
      go_wp2
      go_roundw
      case rel => exact ⟨m + 1, by omega, by go_num, by rw [SA.out], by rw [SU.out], HB2⟩
      case measure => simp [intOf]; omega
    ·
     obtain rfl : m = n := by omega
     have hlen := hn.out
     obtain ⟨av, Jv⟩ : ∃ x, rT q xs k t m = x := ⟨_, rfl⟩
     obtain ⟨uv, huv⟩ : ∃ x, rT q xs k xk m = x := ⟨_, rfl⟩
     obtain ⟨iv, hiv⟩ : ∃ x, uL uv q = x := ⟨_, rfl⟩
     obtain ⟨wv, hwv⟩ : ∃ x, av * iv % q = x := ⟨_, rfl⟩
     have HWI : Hid (vk q xs t k = wv) := aa (by rw [vk, hlen, YD.out, Jv, huv, hiv, hwv])
     rw [Jv] at a0 a1 ⊢
     rw [huv] at u0 u1 ⊢
     have HIV := aa hiv
     have P9 := aa hwv
     have JO := aa (HOr.out.keep qC.out)
     have X7 := aa (ag au.out qC.out)
     obtain ⟨v0, v1⟩ := Sz (a := uv) q2 hiv
     clear hlen Jv huv hiv hwv qC au HOr
     go_wp2_with fail
     refine (K6 uv q iv _ HIV (aa rfl) q2 h2 u0 u1 _).mono ?_
     rintro e y1 ⟨rfl, n1, hy1⟩
     have g1 : Below wr.heap.size wr y1 := by rw [hy1]; exact ay (Below.refl _ _) n1
     have zm := aa (JO.out.keep g1)
     have HB1 := aa (ag X7.out g1)
     clear g1 JO X7 hy1
     go_wp2_with fail
     refine (fB av iv q wv P9 h2 a0 a1 v0 v1 _).mono ?_
     rintro e y2 ⟨rfl, hy2⟩
     subst hy2
     have hown : y1.ownsRow w.heap.size 3 1 u7 k ((CK q xs t k).map (Value.int .i64)) := by
      have h3 := zm.out
      unfold fT at h3
      rwa [fJ] at h3
     have hbs := HB1.out.size
     go_wp2_with (at_builtin; refine wpList_append_own _ rfl _ _ 24 rfl w.heap.size 3 i0 (.int .i64 0) 1 8 Tryz.underlying24 hi hz0 hz1 hz2 rfl (by decide) _ _ _ rfl (hown.alloc _) ⟨y1.heap.size, 0, none⟩ 1 1 [.int .i64 wv] rfl rfl (cell_one_new _ _ _) (ints_oneCell .i64 [wv]) (by unfold maxLen; omega) (by omega) (by simp; omega) ?_; intro v' y3 hown1 hgrow1 _)
     have lU : Hid (fT y3 w.heap.size v' (CK q xs t (k + 1))) := aa (by
      rw [CJ, HWI.out]
      exact fT.app (fJ q xs t k).symm hown1)
     have HB3 : Hid (Below w.heap.size w y3) := aa (zm.out.below HB1.out hbs hgrow1)
     clear hown hown1 hgrow1 zm HB1
     go_roundw
     case rel => exact ⟨k + 1, by omega, by go_num, lU, HB3⟩
     case measure => simp [intOf]; omega
  ·
   obtain rfl : k = n := by omega
   go_wp2
   go_ret
   exact ⟨_, rfl, HOr.out, au.out⟩
abbrev lM (need : Int) (Cs : Option Addr) (cn cc : Nat) (Ks : Option Addr) (kn kc : Nat) : Value := .agg #[.int .i64 need, .slice Cs cn cc, .slice Ks kn kc]
abbrev rR (need : Int) (Cs : Option Addr) (cn cc : Nat) (Ks : Option Addr) (kn kc : Nat) : Obj := .cells #[.int .i64 need, .slice Cs cn cc, .slice Ks kn kc] 26
def pG (Q need : Int) (n : Nat) : Bool := decide (1 ≤ n) && (decide (n ≤ 8) && (decide ((n : Int) < Q) && (decide (1 ≤ need) && decide (need ≤ n))))
def ER (Q i : Int) : Nat → Int
 | 0 => 1
 | k + 1 => ER Q i k * i % Q
def FN (P Q : Int) (cs : List Int) (i : Int) : Nat → Int
 | 0 => 1
 | k + 1 => FN P Q cs i k * pw (cs.getD k 0) (ER Q i k % Q) P % P
def EP (P Q : Int) (cs : List Int) : Nat → List Int → Bool
 | _, [] => true
 | i, y :: t => (y == FN P Q cs ((i : Int) + 1) cs.length) && EP P Q cs (i + 1) t
theorem DL {P Q : Int} {cs ks : List Int} {k : Nat} (hk : k < ks.length) : EP P Q cs k (ks.drop k) = ((ks.getD k 0 == FN P Q cs ((k : Int) + 1) cs.length) && EP P Q cs (k + 1) (ks.drop (k + 1))) := by
 rw [List.drop_eq_getElem_cons hk, EP, List.getD_eq_getElem?_getD, List.getElem?_eq_getElem hk]; rfl
theorem y8 {Q i : Int} (hQ : 2 ≤ Q) : ∀ k, 0 ≤ ER Q i k ∧ ER Q i k < Q
 | 0 => ⟨by rw [ER]; omega, by rw [ER]; omega⟩
 | k + 1 => ⟨Int.emod_nonneg _ (by omega), Int.emod_lt_of_pos _ (by omega)⟩
theorem xI {P Q : Int} {cs : List Int} {i : Int} (hP : 2 ≤ P) (hQ : 1 ≤ Q) (h : cs.all (aG P Q) = true) : ∀ k, k ≤ cs.length → aG P Q (FN P Q cs i k) = true
 | 0, _ => Bv hP
 | k + 1, hk => xH hP hQ (xI hP hQ h k (by omega)) (vM hP hQ (Int.emod_nonneg _ (by omega)) (ig h (by omega)))
theorem iE {Q need : Int} {n : Nat} (h : pG Q need n = true) : 1 ≤ n ∧ n ≤ 8 ∧ (n : Int) < Q ∧ 1 ≤ need ∧ need ≤ n := by
 unfold pG at h
 simpa using h
theorem rC {w : World} {A : Option Addr} {xs : List Int} (h : Sl w A xs) (hp : 0 < xs.length) : ∃ b o, A = some ⟨b, o, none⟩ := by
 obtain ⟨b, o, h1, _⟩ := h 0 hp
 exact ⟨b, o, h1⟩
def tY (P Q G need : Int) (cs ks : List Int) : Bool := aV P Q G && (pG Q need ks.length && (decide ((cs.length : Int) = need) && (!(cs.getD 0 0 == 1) && (cs.all (aG P Q) && EP P Q cs 0 ks))))
theorem m_ (P Q G need : Int) (n : Nat) (r : Bool) (hr : Hid (pG Q need n = r)) (w : World) :
  Calls Tryz.prog 47 #[gv P Q G, .int .i64 need, .int .i64 n] w (Rt w (.bool r)) := by
 have HX := aa (aW w P Q G)
 obtain ⟨c0, c1, c2⟩ := HX.out
 have hb := af w (bq P Q G)
 have hr1 := hr.out
 unfold pG at hr1
 by_cases h0 : 1 ≤ n
 ·
  have d0 : decide ((1 : Int) ≤ (n : Int)) = true := by simp; omega
  by_cases h1 : n ≤ 8
  ·
   have d1 : decide ((n : Int) ≤ 8) = true := by simp; omega
   by_cases h2 : (n : Int) < Q
   ·
    have d2 : decide ((n : Int) < Q) = true := by simp; omega
    by_cases h3 : 1 ≤ need
    ·
     have d3 : decide ((1 : Int) ≤ need) = true := by simp; omega
     by_cases h4 : need ≤ n
     ·
      have d4 : decide (need ≤ (n : Int)) = true := by simp; omega
      obtain rfl : r = true := by rw [← hr1]; simp; omega
      go_in
      go_wp2
      go_ret
      exact ⟨rfl, hb⟩
     ·
      have d4 : decide (need ≤ (n : Int)) = false := by simp; omega
      obtain rfl : r = false := by rw [← hr1]; simp; omega
      go_in
      go_wp2
      go_ret
      exact ⟨rfl, hb⟩
    ·
     have d3 : decide ((1 : Int) ≤ need) = false := by simp; omega
     obtain rfl : r = false := by rw [← hr1]; simp; omega
     go_in
     go_wp2
     go_ret
     exact ⟨rfl, hb⟩
   ·
    have d2 : decide ((n : Int) < Q) = false := by simp; omega
    obtain rfl : r = false := by rw [← hr1]; simp; omega
    go_in
    go_wp2
    go_ret
    exact ⟨rfl, hb⟩
  ·
   have d1 : decide ((n : Int) ≤ 8) = false := by simp; omega
   obtain rfl : r = false := by rw [← hr1]; simp; omega
   go_in
   go_wp2
   go_ret
   exact ⟨rfl, hb⟩
 ·
  have d0 : decide ((1 : Int) ≤ (n : Int)) = false := by simp; omega
  obtain rfl : r = false := by rw [← hr1]; simp; omega
  go_in
  go_wp2
  go_ret
  exact ⟨rfl, hb⟩
theorem Hu (P Q G : Int) (bC oC : Nat) (cs : List Int) (cn cc : Nat) (hbig : cn < 1000000) (idx K : Int) (iU : Hid (aV P Q G = true)) (hn : Hid (cs.length = cn)) (hm : Hid (cs.all (aG P Q) = true)) (i0 : 0 ≤ idx) (i1 : idx < Q) (hK : Hid (FN P Q cs idx cs.length = K)) (w : World) (hv : Hid (Vars w)) (hC : Hid (Sl w (some ⟨bC, oC, none⟩) cs)) :
  Calls Tryz.prog 49 #[gv P Q G, .slice (some ⟨bC, oC, none⟩) cn cc, .int .i64 idx] w (Rt w (.int .i64 K)) := by
 obtain ⟨hp2, hp, hq3, Av⟩ := bH iU.out
 have hQ : Q < 9223372036854775808 := by omega
 have hq : Q < 2305843009213693952 := by omega
 obtain ⟨w0, HW, ai, kC⟩ := st1 (bq P Q G) p8 w
 have kV := mkV ai hv
 have nL := mkS ai hC
 have ah := bS w0
 clear hv hC
 go_in
 go_wp2_with fail
 rw [HW.out]
 have zc := kC.out _ ah
 go_wp2
 clear zc
 go_loopw [7, 8, 15] (fun y e i wr => ∃ k : Nat, k ≤ cn ∧ i = .int .i64 k ∧ y = .int .i64 (FN P Q cs idx k) ∧ e = .int .i64 (ER Q idx k) ∧ Hid (Below w0.heap.size w0 wr)) (fun _ _ i _ => cn - (intOf i).toNat)
 case atStart => exact ⟨0, by omega, rfl, rfl, rfl, ah⟩
 case round =>
  obtain ⟨k, hk, rfl, rfl, rfl, au⟩ := hrel
  have hkm := xI (i := idx) hp2 (by omega) hm.out k (by rw [hn.out]; exact hk)
  obtain ⟨e0, e1⟩ := y8 (i := idx) (show 2 ≤ Q by omega) k
  by_cases hlt : k < cn
  ·
   have hkl : k < cs.length := by rw [hn.out]; exact hlt
   obtain ⟨b, o, hA, hi⟩ := (nL.out _ au).out k hkl
   cases hA
   have hcm := ig hm.out hkl
   have sk : FN P Q cs idx (k + 1) = FN P Q cs idx k * pw (cs.getD k 0) (ER Q idx k % Q) P % P := rfl
   have se : ER Q idx (k + 1) = ER Q idx k * idx % Q := rfl
   obtain ⟨x, hx⟩ : ∃ x, cs.getD k 0 = x := ⟨_, rfl⟩
   obtain ⟨a, ha⟩ : ∃ x, FN P Q cs idx k = x := ⟨_, rfl⟩
   obtain ⟨e, he⟩ : ∃ x, ER Q idx k = x := ⟨_, rfl⟩
   obtain ⟨v, J3⟩ : ∃ x', pw x (e % Q) P = x' := ⟨_, rfl⟩
   obtain ⟨u, hu⟩ : ∃ x', a * v % P = x' := ⟨_, rfl⟩
   obtain ⟨f, hf⟩ : ∃ x', e * idx % Q = x' := ⟨_, rfl⟩
   rw [hx] at hi hcm sk
   rw [ha] at hkm sk ⊢
   rw [he] at e0 e1 sk se ⊢
   rw [J3, hu] at sk
   rw [hf] at se
   have ck1 : Hid (jE P Q G [x] = 0) := aa (rH iU.out (by simp [hcm]))
   have mv : aG P Q v = true := by rw [← J3]; exact vM hp2 (by omega) (Int.emod_nonneg _ (by omega)) hcm
   have ck2 : Hid (jE P Q G [a, v] = 0) := aa (rH iU.out (by simp [hkm, mv]))
   have HV9 := aa J3
   have HU := aa hu
   have HF := aa hf
   have SK := aa sk
   have SE := aa se
   clear hx ha he J3 hu hf sk se hcm hkm mv hkl
   have zc := kC.out _ au
   go_wp2_with fail
   clear zc
   refine eB kC au (Hz P Q G x e v ck1 HV9 (by omega) (by omega) _ (kV.out _ au)) fun w1 aD zc => ?_
   go_wp2_with fail
   clear zc
   refine eB kC aD (BM P Q G a v u ck2 HU hQ _ (kV.out _ aD)) fun w2 aN zc => ?_
   go_wp2_with fail
   refine (xx e idx Q f HF hq e0 e1 i0 i1 _).mono ?_
   rintro e9 w9 ⟨rfl, n9, rfl⟩
   have CG := aa (ay aN.out n9)
   go_wp2
   go_roundw
   case rel => exact ⟨k + 1, by omega, by go_num, by rw [SK.out], by rw [SE.out], CG⟩
   case measure => simp [intOf]; omega
  ·
   obtain rfl : k = cn := by omega
   have hkv := hK.out
   rw [hn.out] at hkv
   rw [hkv]
   clear hkv hkm e0 e1
   go_wp2
   go_ret
   exact ⟨rfl, fe ai au⟩
theorem Vo (P Q G need : Int) (Cs : Option Addr) (cn cc : Nat) (Ks : Option Addr) (kn kc : Nat) (iU : Hid (aV P Q G = false)) (hQ : Q < 9223372036854775808) (w : World) (hv : Hid (Vars w)) :
  Calls Tryz.prog 13 #[gv P Q G, lM need Cs cn cc Ks kn kc] w (Rt w (.bool false)) := by
 obtain ⟨w0, HW, ai, kC⟩ := st2 (bq P Q G) gq (rR need Cs cn cc Ks kn kc) p8 w
 have kV := mkV ai hv
 have ah := bS w0
 clear hv
 go_in
 go_wp2_with fail
 rw [HW.out]
 have zc := kC.out _ ah
 go_wp2_with fail
 clear zc
 refine eB kC ah (dB P Q G false iU hQ _ (kV.out _ ah)) fun w1 aD zc => ?_
 go_wp2
 go_ret
 exact ⟨rfl, fe ai aD⟩
theorem Vn (P Q G need : Int) (Cs : Option Addr) (cn cc : Nat) (Ks : Option Addr) (kn kc : Nat) (iU : Hid (aV P Q G = true)) (HN : Hid (pG Q need kn = false)) (hQ : Q < 9223372036854775808) (w : World) (hv : Hid (Vars w)) :
  Calls Tryz.prog 13 #[gv P Q G, lM need Cs cn cc Ks kn kc] w (Rt w (.bool false)) := by
 obtain ⟨w0, HW, ai, kC⟩ := st2 (bq P Q G) gq (rR need Cs cn cc Ks kn kc) p8 w
 have kV := mkV ai hv
 have ah := bS w0
 clear hv
 go_in
 go_wp2_with fail
 rw [HW.out]
 have zc := kC.out _ ah
 go_wp2_with fail
 clear zc
 refine eB kC ah (dB P Q G true iU hQ _ (kV.out _ ah)) fun w1 aD zc => ?_
 go_wp2_with fail
 clear zc
 refine eB kC aD (m_ P Q G need kn false HN _) fun w2 aN zc => ?_
 go_wp2
 go_ret
 exact ⟨rfl, fe ai aN⟩
theorem Vm (P Q G need : Int) (Cs : Option Addr) (cn cc : Nat) (Ks : Option Addr) (kn kc : Nat) (iU : Hid (aV P Q G = true)) (HN : Hid (pG Q need kn = true)) (hne : ¬ ((cn : Int) = need)) (hQ : Q < 9223372036854775808) (w : World) (hv : Hid (Vars w)) :
  Calls Tryz.prog 13 #[gv P Q G, lM need Cs cn cc Ks kn kc] w (Rt w (.bool false)) := by
 have dn : ((cn : Int) != need) = true := by simpa using hne
 obtain ⟨w0, HW, ai, kC⟩ := st2 (bq P Q G) gq (rR need Cs cn cc Ks kn kc) p8 w
 have kV := mkV ai hv
 have ah := bS w0
 clear hv
 go_in
 go_wp2_with fail
 rw [HW.out]
 have zc := kC.out _ ah
 go_wp2_with fail
 clear zc
 refine eB kC ah (dB P Q G true iU hQ _ (kV.out _ ah)) fun w1 aD zc => ?_
 go_wp2_with fail
 clear zc
 refine eB kC aD (m_ P Q G need kn true HN _) fun w2 aN zc => ?_
 go_wp2
 go_ret
 exact ⟨rfl, fe ai aN⟩
theorem Vl (P Q G need : Int) (bC oC : Nat) (cs : List Int) (cn cc : Nat) (bK oK : Nat) (ks : List Int) (kn kc : Nat) (hcn : Hid (cs.length = cn)) (hkn : Hid (ks.length = kn)) (iU : Hid (aV P Q G = true)) (HN : Hid (pG Q need kn = true)) (hne : Hid ((cn : Int) = need)) (hpos : 0 < cn) (Na : Int) (tQ : Hid (cs.getD 0 0 = Na)) (h1 : (Na == 1) = true) (hQ : Q < 9223372036854775808) (w : World) (hv : Hid (Vars w)) (hC : Hid (Sl w (some ⟨bC, oC, none⟩) cs)) (hK : Hid (Sl w (some ⟨bK, oK, none⟩) ks)) :
  Calls Tryz.prog 13 #[gv P Q G, lM need (some ⟨bC, oC, none⟩) cn cc (some ⟨bK, oK, none⟩) kn kc] w (Rt w (.bool false)) := by
 have dn : ((cn : Int) != need) = false := by simpa using hne.out
 obtain ⟨w0, HW, ai, kC⟩ := st2 (bq P Q G) gq (rR need (some ⟨bC, oC, none⟩) cn cc (some ⟨bK, oK, none⟩) kn kc) p8 w
 have kV := mkV ai hv
 have nL := mkS ai hC
 have rU := mkS ai hK
 have ah := bS w0
 clear hv hC hK
 go_in
 go_wp2_with fail
 rw [HW.out]
 have zc := kC.out _ ah
 go_wp2_with fail
 clear zc
 refine eB kC ah (dB P Q G true iU hQ _ (kV.out _ ah)) fun w1 aD zc => ?_
 obtain ⟨b9, o9, Mw, hi9⟩ := (nL.out _ aD).out 0 (by rw [hcn.out]; exact hpos)
 cases Mw
 rw [tQ.out, Nat.add_zero] at hi9
 have HI9 := aa hi9
 clear hi9
 go_wp2_with fail
 clear zc
 refine eB kC aD (m_ P Q G need kn true HN _) fun w2 aN zc => ?_
 obtain ⟨b9, o9, Mw, hi9⟩ := (nL.out _ aN).out 0 (by rw [hcn.out]; exact hpos)
 cases Mw
 rw [tQ.out, Nat.add_zero] at hi9
 clear HI9
 go_wp2
 go_ret
 exact ⟨rfl, fe ai aN⟩
theorem Vk (P Q G need : Int) (bC oC : Nat) (cs : List Int) (cn cc : Nat) (bK oK : Nat) (ks : List Int) (kn kc : Nat) (hcn : Hid (cs.length = cn)) (hkn : Hid (ks.length = kn)) (iU : Hid (aV P Q G = true)) (HN : Hid (pG Q need kn = true)) (hne : Hid ((cn : Int) = need)) (hpos : 0 < cn) (Na : Int) (tQ : Hid (cs.getD 0 0 = Na)) (h1 : (Na == 1) = false) (r : Bool) (hr : Hid ((cs.all (aG P Q) && EP P Q cs 0 ks) = r)) (hQ : Q < 9223372036854775808) (w : World) (hv : Hid (Vars w)) (hC : Hid (Sl w (some ⟨bC, oC, none⟩) cs)) (hK : Hid (Sl w (some ⟨bK, oK, none⟩) ks)) :
  Calls Tryz.prog 13 #[gv P Q G, lM need (some ⟨bC, oC, none⟩) cn cc (some ⟨bK, oK, none⟩) kn kc] w (Rt w (.bool r)) := by
 have dn : ((cn : Int) != need) = false := by simpa using hne.out
 obtain ⟨n1, n2, n3, n4, n5⟩ := iE HN.out
 have zJ : cn < 1000000 := by have := hne.out; omega
 obtain ⟨w0, HW, ai, kC⟩ := st2 (bq P Q G) gq (rR need (some ⟨bC, oC, none⟩) cn cc (some ⟨bK, oK, none⟩) kn kc) p8 w
 have kV := mkV ai hv
 have nL := mkS ai hC
 have rU := mkS ai hK
 have ah := bS w0
 clear hv hC hK
 go_in
 go_wp2_with fail
 rw [HW.out]
 have zc := kC.out _ ah
 go_wp2_with fail
 clear zc
 refine eB kC ah (dB P Q G true iU hQ _ (kV.out _ ah)) fun w1 aD zc => ?_
 obtain ⟨b9, o9, Mw, hi9⟩ := (nL.out _ aD).out 0 (by rw [hcn.out]; exact hpos)
 cases Mw
 rw [tQ.out, Nat.add_zero] at hi9
 have HI9 := aa hi9
 clear hi9
 go_wp2_with fail
 clear zc
 refine eB kC aD (m_ P Q G need kn true HN _) fun w2 aN zc => ?_
 obtain ⟨b9, o9, Mw, hi9⟩ := (nL.out _ aN).out 0 (by rw [hcn.out]; exact hpos)
 cases Mw
 rw [tQ.out, Nat.add_zero] at hi9
 clear HI9
 go_wp2
 clear zc
 clear hi9
 go_loopw [40] (fun i wr => ∃ k : Nat, k ≤ cn ∧ i = .int .i64 k ∧ Hid (cs.all (aG P Q) = (cs.drop k).all (aG P Q)) ∧ Hid (Below w0.heap.size w0 wr)) (fun i _ => cn - (intOf i).toNat)
 case atStart => exact ⟨0, by omega, rfl, aa rfl, aN⟩
 case round =>
  obtain ⟨k, hk, rfl, HR, au⟩ := hrel
  by_cases hlt : k < cn
  ·
   have hkl : k < cs.length := by rw [hcn.out]; exact hlt
   obtain ⟨b, o, hA, hi⟩ := (nL.out _ au).out k hkl
   cases hA
   cases DY : aG P Q (cs.getD k 0) with
   | true =>
    have HS : Hid (cs.all (aG P Q) = (cs.drop (k + 1)).all (aG P Q)) := aa (HR.out.trans (jT hkl DY))
    obtain ⟨x, hx⟩ : ∃ x, cs.getD k 0 = x := ⟨_, rfl⟩
    rw [hx] at hi DY
    have HM := aa DY
    clear hx DY HR hkl
    have zc := kC.out _ au
    go_wp2_with fail
    clear zc
    refine eB kC au (dU P Q G x true (aa (by rw [uT, iU.out, HM.out]; rfl)) hQ _ (kV.out _ au)) fun w3 bu zc => ?_
    go_wp2
    go_roundw
    case rel => exact ⟨k + 1, by omega, by go_num, HS, bu⟩
    case measure => simp [intOf]; omega
   | false =>
    obtain rfl : r = false := by rw [← hr.out, HR.out, lT hkl DY]; rfl
    obtain ⟨x, hx⟩ : ∃ x, cs.getD k 0 = x := ⟨_, rfl⟩
    rw [hx] at hi DY
    have HM := aa DY
    clear hx DY HR hkl
    have zc := kC.out _ au
    go_wp2_with fail
    clear zc
    refine eB kC au (dU P Q G x false (aa (by rw [uT, iU.out, HM.out]; rfl)) hQ _ (kV.out _ au)) fun w3 bu zc => ?_
    go_wp2
    go_ret
    exact ⟨rfl, fe ai bu⟩
  ·
   obtain rfl : k = cn := by omega
   have oM : Hid (cs.all (aG P Q) = true) := aa (by rw [HR.out, ← hcn.out]; simp)
   have HR2 : Hid (EP P Q cs 0 ks = r) := aa (by rw [← hr.out, oM.out]; rfl)
   clear HR
   have zc := kC.out _ au
   go_wp2
   clear zc
   go_loopw [52] (fun i wr => ∃ j : Nat, j ≤ kn ∧ i = .int .i64 j ∧ Hid (EP P Q cs j (ks.drop j) = r) ∧ Hid (Below w0.heap.size w0 wr)) (fun i _ => kn - (intOf i).toNat)
   case atStart => exact ⟨0, by omega, rfl, HR2, au⟩
   case round =>
    obtain ⟨j, hj, rfl, Nu, xW⟩ := hrel
    by_cases wY : j < kn
    ·
     have hjl : j < ks.length := by rw [hkn.out]; exact wY
     obtain ⟨b, o, hA, hi⟩ := (rU.out _ xW).out j hjl
     cases hA
     have hst := DL (P := P) (Q := Q) (cs := cs) hjl
     obtain ⟨y, hy⟩ : ∃ x, ks.getD j 0 = x := ⟨_, rfl⟩
     obtain ⟨K, Tj⟩ : ∃ x, FN P Q cs ((j : Int) + 1) cs.length = x := ⟨_, rfl⟩
     rw [hy] at hi hst
     rw [Tj] at hst
     have U4 := aa Tj
     have dw : IntKind.i64.wrap ((j : Int) + 1) = (j : Int) + 1 := IntWalk.i64_in _ (by omega)
     have WB : wrap64 ((j : Int) + 1) = (j : Int) + 1 := IntWalk.wrap64_in _ (by omega)
     clear hy Tj
     cases hyk : (y == K) with
     | true =>
      have HRn : Hid (EP P Q cs (j + 1) (ks.drop (j + 1)) = r) := aa (by rw [← Nu.out, hst, hyk]; rfl)
      have Z8 : (y != K) = false := by simpa using hyk
      clear hst Nu hjl hyk
      have zc := kC.out _ xW
      go_wp2_with fail
      clear zc
      refine eB kC xW (Hu P Q G bC oC cs k cc zJ ((j : Int) + 1) K iU hcn oM (by omega) (by omega) U4 _ (kV.out _ xW) (nL.out _ xW)) fun w3 bu zc => ?_
      go_wp2
      go_roundw
      case rel => exact ⟨j + 1, by omega, by go_num, HRn, bu⟩
      case measure => simp [intOf]; omega
     | false =>
      obtain rfl : r = false := by rw [← Nu.out, hst, hyk]; rfl
      have Z8 : (y != K) = true := by simpa using hyk
      clear hst Nu hjl hyk
      have zc := kC.out _ xW
      go_wp2_with fail
      clear zc
      refine eB kC xW (Hu P Q G bC oC cs k cc zJ ((j : Int) + 1) K iU hcn oM (by omega) (by omega) U4 _ (kV.out _ xW) (nL.out _ xW)) fun w3 bu zc => ?_
      go_wp2
      go_ret
      exact ⟨rfl, fe ai bu⟩
    ·
     obtain rfl : j = kn := by omega
     obtain rfl : r = true := by rw [← Nu.out, ← hkn.out, List.drop_length]; rfl
     clear Nu
     have zc := kC.out _ xW
     go_wp2
     go_ret
     exact ⟨rfl, fe ai xW⟩
theorem mX (P Q G need : Int) (Cs : Option Addr) (cs : List Int) (cn cc : Nat) (Ks : Option Addr) (ks : List Int) (kn kc : Nat) (hcn : Hid (cs.length = cn)) (hkn : Hid (ks.length = kn)) (r : Bool) (hr : Hid (tY P Q G need cs ks = r)) (hQ : Q < 9223372036854775808) (w : World) (hv : Hid (Vars w)) (hC : Hid (Sl w Cs cs)) (hK : Hid (Sl w Ks ks)) :
  Calls Tryz.prog 13 #[gv P Q G, lM need Cs cn cc Ks kn kc] w (Rt w (.bool r)) := by
 have hr1 := hr.out
 unfold tY at hr1
 rw [hkn.out, hcn.out] at hr1
 cases h1 : aV P Q G with
 | false =>
  obtain rfl : r = false := by rw [← hr1, h1]; rfl
  exact Vo P Q G need Cs cn cc Ks kn kc (aa h1) hQ w hv
 | true =>
  cases h2 : pG Q need kn with
  | false =>
   obtain rfl : r = false := by rw [← hr1, h1, h2]; rfl
   exact Vn P Q G need Cs cn cc Ks kn kc (aa h1) (aa h2) hQ w hv
  | true =>
   by_cases h3 : (cn : Int) = need
   ·
    obtain ⟨n1, n2, n3, n4, n5⟩ := iE h2
    have hpos : 0 < cn := by omega
    obtain ⟨bC, oC, rfl⟩ := rC hC.out (by rw [hcn.out]; exact hpos)
    obtain ⟨bK, oK, rfl⟩ := rC hK.out (by rw [hkn.out]; exact n1)
    cases h4 : (cs.getD 0 0 == 1) with
    | true =>
     obtain rfl : r = false := by rw [← hr1, h1, h2, decide_eq_true h3, h4]; rfl
     exact Vl P Q G need bC oC cs cn cc bK oK ks kn kc hcn hkn (aa h1) (aa h2) (aa h3) hpos _ (aa rfl) h4 hQ w hv hC hK
    | false => exact Vk P Q G need bC oC cs cn cc bK oK ks kn kc hcn hkn (aa h1) (aa h2) (aa h3) hpos _ (aa rfl) h4 r (aa (by rw [← hr1, h1, h2, decide_eq_true h3, h4]; rfl)) hQ w hv hC hK
   ·
    obtain rfl : r = false := by rw [← hr1, h1, h2, decide_eq_false h3]; rfl
    exact Vm P Q G need Cs cn cc Ks kn kc (aa h1) (aa h2) h3 hQ w hv
theorem n_ (P Q G need : Int) (n : Nat) (r : Bool) (hr : Hid (pG Q need n = r)) (w : World) :
  Calls Tryz.prog 41 #[gv P Q G, .int .i64 need, .int .i64 n] w (Rt w (.bool r)) := by
 have HX := aa (aW w P Q G)
 obtain ⟨c0, c1, c2⟩ := HX.out
 have hb := af w (bq P Q G)
 have hr1 := hr.out
 unfold pG at hr1
 by_cases h0 : 1 ≤ n
 ·
  have d0 : decide ((1 : Int) ≤ (n : Int)) = true := by simp; omega
  by_cases h1 : n ≤ 8
  ·
   have d1 : decide ((n : Int) ≤ 8) = true := by simp; omega
   by_cases h2 : (n : Int) < Q
   ·
    have d2 : decide ((n : Int) < Q) = true := by simp; omega
    by_cases h3 : 1 ≤ need
    ·
     have d3 : decide ((1 : Int) ≤ need) = true := by simp; omega
     by_cases h4 : need ≤ n
     ·
      have d4 : decide (need ≤ (n : Int)) = true := by simp; omega
      obtain rfl : r = true := by rw [← hr1]; simp; omega
      go_in
      go_wp2
      go_ret
      exact ⟨rfl, hb⟩
     ·
      have d4 : decide (need ≤ (n : Int)) = false := by simp; omega
      obtain rfl : r = false := by rw [← hr1]; simp; omega
      go_in
      go_wp2
      go_ret
      exact ⟨rfl, hb⟩
    ·
     have d3 : decide ((1 : Int) ≤ need) = false := by simp; omega
     obtain rfl : r = false := by rw [← hr1]; simp; omega
     go_in
     go_wp2
     go_ret
     exact ⟨rfl, hb⟩
   ·
    have d2 : decide ((n : Int) < Q) = false := by simp; omega
    obtain rfl : r = false := by rw [← hr1]; simp; omega
    go_in
    go_wp2
    go_ret
    exact ⟨rfl, hb⟩
  ·
   have d1 : decide ((n : Int) ≤ 8) = false := by simp; omega
   obtain rfl : r = false := by rw [← hr1]; simp; omega
   go_in
   go_wp2
   go_ret
   exact ⟨rfl, hb⟩
 ·
  have d0 : decide ((1 : Int) ≤ (n : Int)) = false := by simp; omega
  obtain rfl : r = false := by rw [← hr1]; simp; omega
  go_in
  go_wp2
  go_ret
  exact ⟨rfl, hb⟩
theorem Ht {P Q : Int} {cs : List Int} (hP : 2 ≤ P) (hQ : 1 ≤ Q) (h : cs.all (aG P Q) = true) : ∀ (ks : List Int) (i : Nat), EP P Q cs i ks = true → ks.all (aG P Q) = true
 | [], _, _ => rfl
 | y :: t, i, hk => by
  rw [EP] at hk
  simp only [Bool.and_eq_true, beq_iff_eq] at hk
  rw [List.all_cons, Ht hP hQ h t (i + 1) hk.2, hk.1, xI hP hQ h _ (Nat.le_refl _)]; rfl
theorem fP (P Q G : Int) (A : Option Addr) (xs : List Int) (n c : Nat) (r : Bool) (hr : Hid (xs.all (aG P Q) = r)) (hn : Hid (xs.length = n)) (hbig : n < 1000000) (h1 : P < 2305843009213693952) (Cy : 0 ≤ Q) (hQ : Q < 9223372036854775808) (w : World) (Yt : Hid (Sl w A xs)) :
  Calls Tryz.prog 42 #[gv P Q G, .slice A n c] w (Rt w (.bool r)) := by
 obtain ⟨w0, HW, ai, kC⟩ := st1 (bq P Q G) p8 w
 have nL := mkS ai Yt
 have ah := bS w0
 clear Yt
 go_in
 go_wp2_with fail
 rw [HW.out]
 have zc := kC.out _ ah
 go_wp2
 clear zc
 go_loopw [5] (fun i wr => ∃ k : Nat, k ≤ n ∧ i = .int .i64 k ∧ Hid (xs.all (aG P Q) = (xs.drop k).all (aG P Q)) ∧ Hid (Below w0.heap.size w0 wr)) (fun i _ => n - (intOf i).toNat)
 case atStart => exact ⟨0, by omega, rfl, aa rfl, ah⟩
 case round =>
  obtain ⟨k, hk, rfl, HR, au⟩ := hrel
  by_cases hlt : k < n
  ·
   have hkl : k < xs.length := by rw [hn.out]; exact hlt
   obtain ⟨b, o, hA, hi⟩ := (nL.out _ au).out k hkl
   subst hA
   cases DY : aG P Q (xs.getD k 0) with
   | true =>
    have HS : Hid (xs.all (aG P Q) = (xs.drop (k + 1)).all (aG P Q)) := aa (HR.out.trans (jT hkl DY))
    obtain ⟨x, hx⟩ : ∃ x, xs.getD k 0 = x := ⟨_, rfl⟩
    rw [hx] at hi DY
    have kI := Yj (p := ⟨b, o + k, none⟩) (v := .int .i64 x) hi
    have HM := aa DY
    clear hx DY HR hkl hi
    have lW := bS wr
    have zc := kC.out _ au
    have rZ := kI.out _ lW
    go_wp2_with fail
    clear zc rZ
    have hS1 := aa (show ∀ u1 u2 : World, (Hid (Below w0.heap.size w0 u1) ∧ Hid (Below wr.heap.size wr u1)) → Below u1.heap.size u1 u2 → ((u2.cell? ⟨w.heap.size, 0, none⟩ = some (.int .i64 P) ∧ u2.cell? ⟨w.heap.size, 1, none⟩ = some (.int .i64 Q) ∧ u2.cell? ⟨w.heap.size, 2, none⟩ = some (.int .i64 G)) ∧ (u2.cell? ⟨b, o + k, none⟩ = some (.int .i64 x)) ∧ Hid (Below w0.heap.size w0 u2) ∧ Hid (Below wr.heap.size wr u2)) from fun u1 u2 h1 h2 => by
     obtain ⟨q0, q1⟩ := h1
     have r0 := bY q0 h2
     have r1 := bY q1 h2
     exact ⟨kC.out _ r0, kI.out _ r1, r0, r1⟩)
    have HR1 := aa (show Hid (Below w0.heap.size w0 wr) ∧ Hid (Below wr.heap.size wr wr) from ⟨au, lW⟩)
    go_region_held3 (fun w' => (w'.cell? ⟨w.heap.size, 0, none⟩ = some (.int .i64 P) ∧ w'.cell? ⟨w.heap.size, 1, none⟩ = some (.int .i64 Q) ∧ w'.cell? ⟨w.heap.size, 2, none⟩ = some (.int .i64 G)) ∧ (w'.cell? ⟨b, o + k, none⟩ = some (.int .i64 x)) ∧ Hid (Below w0.heap.size w0 w') ∧ Hid (Below wr.heap.size wr w'))
     (first | exact hS1.out _ _ HR1.out ((Below.refl _ _).drew) | (exact hS1.out _ _ (by go_split_ands; exact ⟨(by assumption), (by assumption)⟩) bM) | go_keep)
     ((first
      | (go_at_call 103; (with_reducible refine (aP P Q G x true HM h1 Cy hQ _).mono ?_); rintro e wA ⟨rfl, bM⟩)))
    rename_i hHeld
    obtain ⟨-, -, EJ, NB⟩ := hHeld
    clear hS1 HR1
    have zc := kC.out _ EJ
    have rZ := kI.out _ NB
    go_wp2
    go_roundw
    case rel => exact ⟨k + 1, by omega, by go_num, HS, EJ⟩
    case measure => simp only [intOf]; omega
   | false =>
    obtain rfl : r = false := by rw [← hr.out, HR.out]; exact lT hkl DY
    obtain ⟨x, hx⟩ : ∃ x, xs.getD k 0 = x := ⟨_, rfl⟩
    rw [hx] at hi DY
    have kI := Yj (p := ⟨b, o + k, none⟩) (v := .int .i64 x) hi
    have HM := aa DY
    clear hx DY HR hkl hi
    have lW := bS wr
    have zc := kC.out _ au
    have rZ := kI.out _ lW
    go_wp2_with fail
    clear zc rZ
    have hS1 := aa (show ∀ u1 u2 : World, (Hid (Below w0.heap.size w0 u1) ∧ Hid (Below wr.heap.size wr u1)) → Below u1.heap.size u1 u2 → ((u2.cell? ⟨w.heap.size, 0, none⟩ = some (.int .i64 P) ∧ u2.cell? ⟨w.heap.size, 1, none⟩ = some (.int .i64 Q) ∧ u2.cell? ⟨w.heap.size, 2, none⟩ = some (.int .i64 G)) ∧ (u2.cell? ⟨b, o + k, none⟩ = some (.int .i64 x)) ∧ Hid (Below w0.heap.size w0 u2) ∧ Hid (Below wr.heap.size wr u2)) from fun u1 u2 h1 h2 => by
     obtain ⟨q0, q1⟩ := h1
     have r0 := bY q0 h2
     have r1 := bY q1 h2
     exact ⟨kC.out _ r0, kI.out _ r1, r0, r1⟩)
    have HR1 := aa (show Hid (Below w0.heap.size w0 wr) ∧ Hid (Below wr.heap.size wr wr) from ⟨au, lW⟩)
    go_region_held3 (fun w' => (w'.cell? ⟨w.heap.size, 0, none⟩ = some (.int .i64 P) ∧ w'.cell? ⟨w.heap.size, 1, none⟩ = some (.int .i64 Q) ∧ w'.cell? ⟨w.heap.size, 2, none⟩ = some (.int .i64 G)) ∧ (w'.cell? ⟨b, o + k, none⟩ = some (.int .i64 x)) ∧ Hid (Below w0.heap.size w0 w') ∧ Hid (Below wr.heap.size wr w'))
     (first | exact hS1.out _ _ HR1.out ((Below.refl _ _).drew) | (exact hS1.out _ _ (by go_split_ands; exact ⟨(by assumption), (by assumption)⟩) bM) | go_keep)
     ((first
      | (go_at_call 103; (with_reducible refine (aP P Q G x false HM h1 Cy hQ _).mono ?_); rintro e wA ⟨rfl, bM⟩)))
    rename_i hHeld
    obtain ⟨-, -, EJ, NB⟩ := hHeld
    clear hS1 HR1
    have zc := kC.out _ EJ
    have rZ := kI.out _ NB
    go_wp2
    go_ret
    exact ⟨rfl, fe ai EJ⟩
  ·
   obtain rfl : k = n := by omega
   obtain rfl : r = true := by rw [← hr.out, HR.out, ← hn.out]; simp
   clear HR
   have zc := kC.out _ au
   go_wp2
   go_ret
   exact ⟨rfl, fe ai au⟩
theorem RS (P Q G need : Int) (Cs : Option Addr) (cn cc : Nat) (Ks : Option Addr) (kn kc : Nat) (iU : Hid (aV P Q G = false)) (hQ : Q < 9223372036854775808) (w : World) :
  Calls Tryz.prog 12 #[gv P Q G, lM need Cs cn cc Ks kn kc] w (Rt w (.bool false)) := by
 obtain ⟨w0, HW, ai, kC⟩ := st2 (bq P Q G) gq (rR need Cs cn cc Ks kn kc) p8 w
 have ah := bS w0
 go_in
 go_wp2_with fail
 rw [HW.out]
 have zc := kC.out _ ah
 go_wp2_with fail
 clear zc
 refine eB kC ah (bT P Q G false iU hQ _) fun w1 aD zc => ?_
 go_wp2
 go_ret
 exact ⟨rfl, fe ai aD⟩
theorem RQ (P Q G need : Int) (Cs : Option Addr) (cn cc : Nat) (Ks : Option Addr) (kn kc : Nat) (iU : Hid (aV P Q G = true)) (HN : Hid (pG Q need kn = false)) (hQ : Q < 9223372036854775808) (w : World) :
  Calls Tryz.prog 12 #[gv P Q G, lM need Cs cn cc Ks kn kc] w (Rt w (.bool false)) := by
 obtain ⟨w0, HW, ai, kC⟩ := st2 (bq P Q G) gq (rR need Cs cn cc Ks kn kc) p8 w
 have ah := bS w0
 go_in
 go_wp2_with fail
 rw [HW.out]
 have zc := kC.out _ ah
 go_wp2_with fail
 clear zc
 refine eB kC ah (bT P Q G true iU hQ _) fun w1 aD zc => ?_
 go_wp2_with fail
 clear zc
 refine eB kC aD (n_ P Q G need kn false HN _) fun w2 aN zc => ?_
 go_wp2
 go_ret
 exact ⟨rfl, fe ai aN⟩
theorem RP (P Q G need : Int) (Cs : Option Addr) (cn cc : Nat) (Ks : Option Addr) (kn kc : Nat) (iU : Hid (aV P Q G = true)) (HN : Hid (pG Q need kn = true)) (hne : ¬ ((cn : Int) = need)) (hQ : Q < 9223372036854775808) (w : World) :
  Calls Tryz.prog 12 #[gv P Q G, lM need Cs cn cc Ks kn kc] w (Rt w (.bool false)) := by
 have dn : ((cn : Int) != need) = true := by simpa using hne
 obtain ⟨w0, HW, ai, kC⟩ := st2 (bq P Q G) gq (rR need Cs cn cc Ks kn kc) p8 w
 have ah := bS w0
 go_in
 go_wp2_with fail
 rw [HW.out]
 have zc := kC.out _ ah
 go_wp2_with fail
 clear zc
 refine eB kC ah (bT P Q G true iU hQ _) fun w1 aD zc => ?_
 go_wp2_with fail
 clear zc
 refine eB kC aD (n_ P Q G need kn true HN _) fun w2 aN zc => ?_
 go_wp2
 go_ret
 exact ⟨rfl, fe ai aN⟩
theorem RO (P Q G need : Int) (bC oC : Nat) (cs : List Int) (cn cc : Nat) (bK oK : Nat) (ks : List Int) (kn kc : Nat) (hcn : Hid (cs.length = cn)) (hkn : Hid (ks.length = kn)) (iU : Hid (aV P Q G = true)) (HN : Hid (pG Q need kn = true)) (hne : Hid ((cn : Int) = need)) (hpos : 0 < cn) (hall : Hid (cs.all (aG P Q) = false)) (hQ : Q < 9223372036854775808) (w : World) (hC : Hid (Sl w (some ⟨bC, oC, none⟩) cs)) (hK : Hid (Sl w (some ⟨bK, oK, none⟩) ks)) :
  Calls Tryz.prog 12 #[gv P Q G, lM need (some ⟨bC, oC, none⟩) cn cc (some ⟨bK, oK, none⟩) kn kc] w (Rt w (.bool false)) := by
 have dn : ((cn : Int) != need) = false := by simpa using hne.out
 obtain ⟨hp2, hp, hq3, Av⟩ := bH iU.out
 obtain ⟨n1, n2, n3, n4, n5⟩ := iE HN.out
 have zJ : cn < 1000000 := by have := hne.out; omega
 obtain ⟨w0, HW, ai, kC⟩ := st2 (bq P Q G) gq (rR need (some ⟨bC, oC, none⟩) cn cc (some ⟨bK, oK, none⟩) kn kc) p8 w
 have nL := mkS ai hC
 have rU := mkS ai hK
 have ah := bS w0
 clear hC hK
 go_in
 go_wp2_with fail
 rw [HW.out]
 have zc := kC.out _ ah
 go_wp2_with fail
 clear zc
 refine eB kC ah (bT P Q G true iU hQ _) fun w1 aD zc => ?_
 go_wp2_with fail
 clear zc
 refine eB kC aD (n_ P Q G need kn true HN _) fun w2 aN zc => ?_
 go_wp2_with fail
 clear zc
 refine eB kC aN (fP P Q G (some ⟨bC, oC, none⟩) cs cn cc false hall hcn zJ hp (by omega) hQ _ (nL.out _ aN)) fun w3 bu zc => ?_
 go_wp2
 go_ret
 exact ⟨rfl, fe ai bu⟩
theorem RN (P Q G need : Int) (bC oC : Nat) (cs : List Int) (cn cc : Nat) (bK oK : Nat) (ks : List Int) (kn kc : Nat) (hcn : Hid (cs.length = cn)) (hkn : Hid (ks.length = kn)) (iU : Hid (aV P Q G = true)) (HN : Hid (pG Q need kn = true)) (hne : Hid ((cn : Int) = need)) (hpos : 0 < cn) (hall : Hid (cs.all (aG P Q) = true)) (Ml : Hid (ks.all (aG P Q) = false)) (hQ : Q < 9223372036854775808) (w : World) (hC : Hid (Sl w (some ⟨bC, oC, none⟩) cs)) (hK : Hid (Sl w (some ⟨bK, oK, none⟩) ks)) :
  Calls Tryz.prog 12 #[gv P Q G, lM need (some ⟨bC, oC, none⟩) cn cc (some ⟨bK, oK, none⟩) kn kc] w (Rt w (.bool false)) := by
 have dn : ((cn : Int) != need) = false := by simpa using hne.out
 obtain ⟨hp2, hp, hq3, Av⟩ := bH iU.out
 obtain ⟨n1, n2, n3, n4, n5⟩ := iE HN.out
 have zJ : cn < 1000000 := by have := hne.out; omega
 obtain ⟨w0, HW, ai, kC⟩ := st2 (bq P Q G) gq (rR need (some ⟨bC, oC, none⟩) cn cc (some ⟨bK, oK, none⟩) kn kc) p8 w
 have nL := mkS ai hC
 have rU := mkS ai hK
 have ah := bS w0
 clear hC hK
 go_in
 go_wp2_with fail
 rw [HW.out]
 have zc := kC.out _ ah
 go_wp2_with fail
 clear zc
 refine eB kC ah (bT P Q G true iU hQ _) fun w1 aD zc => ?_
 go_wp2_with fail
 clear zc
 refine eB kC aD (n_ P Q G need kn true HN _) fun w2 aN zc => ?_
 go_wp2_with fail
 clear zc
 refine eB kC aN (fP P Q G (some ⟨bC, oC, none⟩) cs cn cc true hall hcn zJ hp (by omega) hQ _ (nL.out _ aN)) fun w3 bu zc => ?_
 go_wp2_with fail
 clear zc
 refine eB kC bu (fP P Q G (some ⟨bK, oK, none⟩) ks kn kc false Ml hkn (by omega) hp (by omega) hQ _ (rU.out _ bu)) fun w4 dm zc => ?_
 go_wp2
 go_ret
 exact ⟨rfl, fe ai dm⟩
theorem RL (P Q G need : Int) (bC oC : Nat) (cs : List Int) (cn cc : Nat) (bK oK : Nat) (ks : List Int) (kn kc : Nat) (hcn : Hid (cs.length = cn)) (hkn : Hid (ks.length = kn)) (iU : Hid (aV P Q G = true)) (HN : Hid (pG Q need kn = true)) (hne : Hid ((cn : Int) = need)) (hpos : 0 < cn) (hall : Hid (cs.all (aG P Q) = true)) (Ml : Hid (ks.all (aG P Q) = true)) (Na : Int) (tQ : Hid (cs.getD 0 0 = Na)) (h1 : (Na == 1) = true) (hQ : Q < 9223372036854775808) (w : World) (hC : Hid (Sl w (some ⟨bC, oC, none⟩) cs)) (hK : Hid (Sl w (some ⟨bK, oK, none⟩) ks)) :
  Calls Tryz.prog 12 #[gv P Q G, lM need (some ⟨bC, oC, none⟩) cn cc (some ⟨bK, oK, none⟩) kn kc] w (Rt w (.bool false)) := by
 have dn : ((cn : Int) != need) = false := by simpa using hne.out
 obtain ⟨hp2, hp, hq3, Av⟩ := bH iU.out
 obtain ⟨n1, n2, n3, n4, n5⟩ := iE HN.out
 have zJ : cn < 1000000 := by have := hne.out; omega
 obtain ⟨w0, HW, ai, kC⟩ := st2 (bq P Q G) gq (rR need (some ⟨bC, oC, none⟩) cn cc (some ⟨bK, oK, none⟩) kn kc) p8 w
 have nL := mkS ai hC
 have rU := mkS ai hK
 have ah := bS w0
 clear hC hK
 go_in
 go_wp2_with fail
 rw [HW.out]
 have zc := kC.out _ ah
 go_wp2_with fail
 clear zc
 refine eB kC ah (bT P Q G true iU hQ _) fun w1 aD zc => ?_
 go_wp2_with fail
 clear zc
 refine eB kC aD (n_ P Q G need kn true HN _) fun w2 aN zc => ?_
 go_wp2_with fail
 clear zc
 refine eB kC aN (fP P Q G (some ⟨bC, oC, none⟩) cs cn cc true hall hcn zJ hp (by omega) hQ _ (nL.out _ aN)) fun w3 bu zc => ?_
 go_wp2_with fail
 clear zc
 refine eB kC bu (fP P Q G (some ⟨bK, oK, none⟩) ks kn kc true Ml hkn (by omega) hp (by omega) hQ _ (rU.out _ bu)) fun w4 dm zc => ?_
 obtain ⟨b9, o9, Mw, hi9⟩ := (nL.out _ dm).out 0 (by rw [hcn.out]; exact hpos)
 cases Mw
 rw [tQ.out, Nat.add_zero] at hi9
 go_wp2
 go_ret
 exact ⟨rfl, fe ai dm⟩
theorem uR {j n : Nat} (h : j < n) (h8 : n ≤ 8) : IntKind.i64.wrap ((j : Int) + 1 - 1) = (j : Int) ∧ IntKind.i64.wrap (j : Int) = (j : Int) ∧ IntKind.i64.wrap ((j : Int) + 1 + 1) = (j : Int) + 1 + 1 ∧ wrap64 ((j : Int) + 1 - 1) = (j : Int) ∧ wrap64 ((j : Int) + 1 + 1) = (j : Int) + 1 + 1 :=
 ⟨by rw [Int.add_sub_cancel]; exact IntWalk.i64_in _ (by omega), IntWalk.i64_in _ (by omega), IntWalk.i64_in _ (by omega), by rw [Int.add_sub_cancel]; exact IntWalk.wrap64_in _ (by omega), IntWalk.wrap64_in _ (by omega)⟩
theorem Gp (j : Nat) : ((j : Int) + 1 + 1) = ((j + 1 : Nat) : Int) + 1 := by omega
theorem Si {j n : Nat} (h : j < n) : n + 1 - ((j : Int) + 1 + 1).toNat < n + 1 - ((j : Int) + 1).toNat := by omega
theorem wJ {a b : Int} : (a != b) = (b != a) := by rw [bne, bne, BEq.comm]
theorem RJ (P Q G need : Int) (bC oC : Nat) (cs : List Int) (cn cc : Nat) (bK oK : Nat) (ks : List Int) (kn kc : Nat) (hcn : Hid (cs.length = cn)) (hkn : Hid (ks.length = kn)) (iU : Hid (aV P Q G = true)) (HN : Hid (pG Q need kn = true)) (hne : Hid ((cn : Int) = need)) (hpos : 0 < cn) (hall : Hid (cs.all (aG P Q) = true)) (Ml : Hid (ks.all (aG P Q) = true)) (Na : Int) (tQ : Hid (cs.getD 0 0 = Na)) (h1 : (Na == 1) = false) (r : Bool) (hr : Hid (EP P Q cs 0 (ks.drop 0) = r)) (hQ : Q < 9223372036854775808) (w : World) (hC : Hid (Sl w (some ⟨bC, oC, none⟩) cs)) (hK : Hid (Sl w (some ⟨bK, oK, none⟩) ks)) :
  Calls Tryz.prog 12 #[gv P Q G, lM need (some ⟨bC, oC, none⟩) cn cc (some ⟨bK, oK, none⟩) kn kc] w (Rt w (.bool r)) := by
 have dn : ((cn : Int) != need) = false := by simpa using hne.out
 obtain ⟨hp2, hp, hq3, Av⟩ := bH iU.out
 obtain ⟨n1, n2, n3, n4, n5⟩ := iE HN.out
 have zJ : cn < 1000000 := by have := hne.out; omega
 obtain ⟨w0, HW, ai, kC⟩ := st2 (bq P Q G) gq (rR need (some ⟨bC, oC, none⟩) cn cc (some ⟨bK, oK, none⟩) kn kc) p8 w
 have nL := mkS ai hC
 have rU := mkS ai hK
 have ah := bS w0
 clear hC hK
 go_in
 go_wp2_with fail
 rw [HW.out]
 have zc := kC.out _ ah
 go_wp2_with fail
 clear zc
 refine eB kC ah (bT P Q G true iU hQ _) fun w1 aD zc => ?_
 go_wp2_with fail
 clear zc
 refine eB kC aD (n_ P Q G need kn true HN _) fun w2 aN zc => ?_
 go_wp2_with fail
 clear zc
 refine eB kC aN (fP P Q G (some ⟨bC, oC, none⟩) cs cn cc true hall hcn zJ hp (by omega) hQ _ (nL.out _ aN)) fun w3 bu zc => ?_
 go_wp2_with fail
 clear zc
 refine eB kC bu (fP P Q G (some ⟨bK, oK, none⟩) ks kn kc true Ml hkn (by omega) hp (by omega) hQ _ (rU.out _ bu)) fun w4 dm zc => ?_
 obtain ⟨b9, o9, Mw, hi9⟩ := (nL.out _ dm).out 0 (by rw [hcn.out]; exact hpos)
 cases Mw
 rw [tQ.out, Nat.add_zero] at hi9
 go_wp2
 clear zc
 clear hi9
 go_loopw [5] (fun i wr => ∃ j : Nat, j ≤ kn ∧ i = .int .i64 ((j : Int) + 1) ∧ Hid (EP P Q cs j (ks.drop j) = r) ∧ Hid (Below w0.heap.size w0 wr)) (fun i _ => kn + 1 - (intOf i).toNat)
 case atStart => exact ⟨0, by omega, rfl, hr, dm⟩
 case round =>
  obtain ⟨j, hj, rfl, Nu, xW⟩ := hrel
  by_cases wY : j < kn
  ·
   have hjl : j < ks.length := by rw [hkn.out]; exact wY
   have hst := DL (P := P) (Q := Q) (cs := cs) hjl
   obtain ⟨y, hy⟩ : ∃ x, ks.getD j 0 = x := ⟨_, rfl⟩
   obtain ⟨K, Tj⟩ : ∃ x, FN P Q cs ((j : Int) + 1) cs.length = x := ⟨_, rfl⟩
   rw [hy, Tj] at hst
   have U4 := aa Tj
   have HY := aa hy
   have HST := aa hst
   have dle : decide ((j : Int) + 1 ≤ (kn : Int)) = true := by simp; omega
   have i1 : (j : Int) + 1 < Q := by omega
   clear hy Tj hst
   have zc := kC.out _ xW
   go_wp2
   clear zc
   go_loopw [6, 7, 8] (fun a e i wz => ∃ k : Nat, k ≤ cn ∧ i = .int .i64 k ∧ a = .int .i64 (FN P Q cs ((j : Int) + 1) k) ∧ e = .int .i64 (ER Q ((j : Int) + 1) k) ∧ Hid (Below w0.heap.size w0 wz)) (fun _ _ i _ => cn - (intOf i).toNat)
   case atStart => exact ⟨0, by omega, rfl, rfl, rfl, xW⟩
   case round =>
    obtain ⟨k, hk, rfl, rfl, rfl, au⟩ := hrel
    have hkm := xI (i := (j : Int) + 1) hp2 (by omega) hall.out k (by rw [hcn.out]; exact hk)
    obtain ⟨e0, e1⟩ := y8 (i := (j : Int) + 1) (show 2 ≤ Q by omega) k
    by_cases hlt : k < cn
    ·
     have hkl : k < cs.length := by rw [hcn.out]; exact hlt
     obtain ⟨b, o, hA, hi⟩ := (nL.out _ au).out k hkl
     cases hA
     have hcm := ig hall.out hkl
     have sk : FN P Q cs ((j : Int) + 1) (k + 1) = FN P Q cs ((j : Int) + 1) k * pw (cs.getD k 0) (ER Q ((j : Int) + 1) k % Q) P % P := rfl
     have se : ER Q ((j : Int) + 1) (k + 1) = ER Q ((j : Int) + 1) k * ((j : Int) + 1) % Q := rfl
     obtain ⟨x, hx⟩ : ∃ x, cs.getD k 0 = x := ⟨_, rfl⟩
     obtain ⟨a, ha⟩ : ∃ x, FN P Q cs ((j : Int) + 1) k = x := ⟨_, rfl⟩
     obtain ⟨e, he⟩ : ∃ x, ER Q ((j : Int) + 1) k = x := ⟨_, rfl⟩
     obtain ⟨v, J3⟩ : ∃ x', pw x (e % Q) P = x' := ⟨_, rfl⟩
     obtain ⟨u, hu⟩ : ∃ x', a * v % P = x' := ⟨_, rfl⟩
     obtain ⟨f, hf⟩ : ∃ x', e * ((j : Int) + 1) % Q = x' := ⟨_, rfl⟩
     rw [hx] at hi hcm sk
     rw [ha] at hkm sk ⊢
     rw [he] at e0 e1 sk se ⊢
     rw [J3, hu] at sk
     rw [hf] at se
     have x0 := fE hcm
     have x1 := fF hcm
     have a0 := fE hkm
     have a1 := fF hkm
     obtain ⟨v0, v1⟩ : 0 ≤ v ∧ v < P := by rw [← J3]; exact vW _ _ _ (by omega)
     have HV9 := aa J3
     have HU := aa hu
     have HF := aa hf
     have SK := aa sk
     have SE := aa se
     have kI := Yj (p := ⟨bC, oC + k, none⟩) (v := .int .i64 x) hi
     clear hx ha he J3 hu hf sk se hcm hkm hkl hi
     have dx := bS wr
     have zc := kC.out _ au
     have rZ := kI.out _ dx
     go_wp2_with fail
     clear zc rZ
     have hS5 := aa (show ∀ u1 u2 : World, (Hid (Below w0.heap.size w0 u1) ∧ Hid (Below wr.heap.size wr u1)) → Below u1.heap.size u1 u2 → ((u2.cell? ⟨w.heap.size, 0, none⟩ = some (.int .i64 P) ∧ u2.cell? ⟨w.heap.size, 1, none⟩ = some (.int .i64 Q) ∧ u2.cell? ⟨w.heap.size, 2, none⟩ = some (.int .i64 G) ∧ u2.cell? ⟨w.heap.size + 1, 0, none⟩ = some (.int .i64 need) ∧ u2.cell? ⟨w.heap.size + 1, 1, none⟩ = some (.slice (some ⟨bC, oC, none⟩) cn cc) ∧ u2.cell? ⟨w.heap.size + 1, 2, none⟩ = some (.slice (some ⟨bK, oK, none⟩) kn kc)) ∧ (u2.cell? ⟨bC, oC + k, none⟩ = some (.int .i64 x)) ∧ Hid (Below w0.heap.size w0 u2) ∧ Hid (Below wr.heap.size wr u2)) from fun u1 u2 h1 h2 => by
      obtain ⟨q0, q1⟩ := h1
      have r0 := bY q0 h2
      have r1 := bY q1 h2
      exact ⟨kC.out _ r0, kI.out _ r1, r0, r1⟩)
     have tO := aa (show Hid (Below w0.heap.size w0 wr) ∧ Hid (Below wr.heap.size wr wr) from ⟨au, dx⟩)
     go_region_held3 (fun w' => (w'.cell? ⟨w.heap.size, 0, none⟩ = some (.int .i64 P) ∧ w'.cell? ⟨w.heap.size, 1, none⟩ = some (.int .i64 Q) ∧ w'.cell? ⟨w.heap.size, 2, none⟩ = some (.int .i64 G) ∧ w'.cell? ⟨w.heap.size + 1, 0, none⟩ = some (.int .i64 need) ∧ w'.cell? ⟨w.heap.size + 1, 1, none⟩ = some (.slice (some ⟨bC, oC, none⟩) cn cc) ∧ w'.cell? ⟨w.heap.size + 1, 2, none⟩ = some (.slice (some ⟨bK, oK, none⟩) kn kc)) ∧ (w'.cell? ⟨bC, oC + k, none⟩ = some (.int .i64 x)) ∧ Hid (Below w0.heap.size w0 w') ∧ Hid (Below wr.heap.size wr w'))
      (first | exact hS5.out _ _ tO.out ((Below.refl _ _).drew) | (exact hS5.out _ _ (by go_split_ands; exact ⟨(by assumption), (by assumption)⟩) bM) | go_keep)
      ((first
       | (go_at_call 44; (with_reducible refine (yE P Q G x e v HV9 (by omega) hp (by omega) (by omega) (by omega) x1 (by omega) (by omega) _).mono ?_); rintro e wA ⟨rfl, bM⟩)
       | (go_at_call 43; (with_reducible refine (Ag P Q G a v u HU hp (by omega) a1 v0 v1 _).mono ?_); rintro e wA ⟨rfl, bM⟩)))
     rename_i hHeld
     obtain ⟨-, -, Q4, XG⟩ := hHeld
     clear hS5 tO
     have zc := kC.out _ Q4
     have rZ := kI.out _ XG
     go_wp2_with fail
     refine (fB e ((j : Int) + 1) Q f HF (by omega) e0 e1 (by omega) i1 _).mono ?_
     rintro e9 w9 ⟨rfl, uM⟩
     subst uM
     go_wp2
     go_roundw
     case rel => exact ⟨k + 1, by omega, by go_num, by rw [SK.out], by rw [SE.out], Q4⟩
     case measure => simp [intOf]; omega
    ·
     obtain rfl : k = cn := by omega
     have hkv := U4.out
     rw [hcn.out] at hkv
     rw [hkv]
     clear hkv hkm e0 e1
     obtain ⟨b, o, hA, hi⟩ := (rU.out _ au).out j hjl
     cases hA
     rw [HY.out] at hi
     obtain ⟨dj, dj1, dj2, dj3, Z_⟩ := uR wY n2
     cases hyk : (y == K) with
     | true =>
      have HRn : Hid (EP P Q cs (j + 1) (ks.drop (j + 1)) = r) := aa (by rw [← Nu.out, HST.out, hyk]; rfl)
      have Z8 : (K != y) = false := by rw [wJ]; simpa using hyk
      clear hyk
      have zc := kC.out _ au
      go_wp2
      go_roundw
      case rel => exact ⟨j + 1, wY, by rw [Gp], HRn, au⟩
      case measure => simp only [intOf]; exact Si wY
     | false =>
      obtain rfl : r = false := by rw [← Nu.out, HST.out, hyk]; rfl
      have Z8 : (K != y) = true := by rw [wJ]; simpa using hyk
      clear hyk
      have zc := kC.out _ au
      go_wp2
      go_ret
      exact ⟨rfl, fe ai au⟩
  ·
   obtain rfl : j = kn := by omega
   obtain rfl : r = true := by rw [← Nu.out, ← hkn.out, List.drop_length]; rfl
   have dle : decide ((j : Int) + 1 ≤ (j : Int)) = false := by simp; omega
   clear Nu
   have zc := kC.out _ xW
   go_wp2
   go_ret
   exact ⟨rfl, fe ai xW⟩
theorem mh (P Q G need : Int) (Cs : Option Addr) (cs : List Int) (cn cc : Nat) (Ks : Option Addr) (ks : List Int) (kn kc : Nat) (hcn : Hid (cs.length = cn)) (hkn : Hid (ks.length = kn)) (r : Bool) (hr : Hid (tY P Q G need cs ks = r)) (hQ : Q < 9223372036854775808) (w : World) (hC : Hid (Sl w Cs cs)) (hK : Hid (Sl w Ks ks)) :
  Calls Tryz.prog 12 #[gv P Q G, lM need Cs cn cc Ks kn kc] w (Rt w (.bool r)) := by
 have hr1 := hr.out
 unfold tY at hr1
 rw [hkn.out, hcn.out] at hr1
 cases h1 : aV P Q G with
 | false =>
  obtain rfl : r = false := by rw [← hr1, h1]; rfl
  exact RS P Q G need Cs cn cc Ks kn kc (aa h1) hQ w
 | true =>
  cases h2 : pG Q need kn with
  | false =>
   obtain rfl : r = false := by rw [← hr1, h1, h2]; rfl
   exact RQ P Q G need Cs cn cc Ks kn kc (aa h1) (aa h2) hQ w
  | true =>
   by_cases h3 : (cn : Int) = need
   ·
    obtain ⟨n1, n2, n3, n4, n5⟩ := iE h2
    obtain ⟨p1, p2, p3, p4⟩ := bH h1
    have hpos : 0 < cn := by omega
    obtain ⟨bC, oC, rfl⟩ := rC hC.out (by rw [hcn.out]; exact hpos)
    obtain ⟨bK, oK, rfl⟩ := rC hK.out (by rw [hkn.out]; exact n1)
    cases h4 : cs.all (aG P Q) with
    | false =>
     obtain rfl : r = false := by rw [← hr1, h1, h2, decide_eq_true h3, h4]; simp
     exact RO P Q G need bC oC cs cn cc bK oK ks kn kc hcn hkn (aa h1) (aa h2) (aa h3) hpos (aa h4) hQ w hC hK
    | true =>
     cases h5 : ks.all (aG P Q) with
     | false =>
      have h6 : EP P Q cs 0 ks = false := by
       cases h7 : EP P Q cs 0 ks with
       | false => rfl
       | true => rw [Ht p1 (by omega) h4 ks 0 h7] at h5; cases h5
      obtain rfl : r = false := by rw [← hr1, h1, h2, decide_eq_true h3, h4, h6]; simp
      exact RN P Q G need bC oC cs cn cc bK oK ks kn kc hcn hkn (aa h1) (aa h2) (aa h3) hpos (aa h4) (aa h5) hQ w hC hK
     | true =>
      cases h6 : (cs.getD 0 0 == 1) with
      | true =>
       obtain rfl : r = false := by rw [← hr1, h1, h2, decide_eq_true h3, h6]; rfl
       exact RL P Q G need bC oC cs cn cc bK oK ks kn kc hcn hkn (aa h1) (aa h2) (aa h3) hpos (aa h4) (aa h5) _ (aa rfl) h6 hQ w hC hK
      | false => exact RJ P Q G need bC oC cs cn cc bK oK ks kn kc hcn hkn (aa h1) (aa h2) (aa h3) hpos (aa h4) (aa h5) _ (aa rfl) h6 r (aa (by rw [← hr1, h1, h2, decide_eq_true h3, h4, h6, List.drop_zero]; rfl)) hQ w hC hK
   ·
    obtain rfl : r = false := by rw [← hr1, h1, h2, decide_eq_false h3]; rfl
    exact RP P Q G need Cs cn cc Ks kn kc (aa h1) (aa h2) h3 hQ w
end Go.Proofs.YtchcllcbknfikaaGreatDoor
namespace Go.Proofs.YtchcllcbknfikaaGreatDoor
open Go.RowKit rQ Go.Maps
theorem Su : Keyed Tryz.prog 3 := int_keyed Tryz.underlying3
theorem Va (w : World) : (zeroValue 4).run Tryz.prog w = .ok (.bool false) w := by kernel_rfl
theorem BF {a b : Int} (h : a ≠ b) : (Lit.int .i64 a) ≠ Lit.int .i64 b := fun e => h (by injection e)
theorem sU {P : Program} {e : TypeId} (he : P.underlying e = some .bool) {v : Value} {z : DataW Unit × List MemPlace} (h : plainElem P e v = some z) : ∃ x, v = .bool x ∧ z.1 = .lit (.bool x) := by
 unfold plainElem at h
 rw [he] at h
 cases v <;> simp at h
 exact ⟨_, rfl, by rw [← h]⟩
theorem DD {a b : Bool} (h : (DataW.lit (.bool a) : DataW Unit) = .lit (.bool b)) : a = b := by
 injection h with h1
 injection h1
def YA (xs : List Int) (wr : World) (B k : Nat) : Prop :=
 ∃ D : DataW Unit, wr.ownsMap Tryz.prog 3 (plainElem Tryz.prog 4) B k D ∧ (∀ a : Int, has D (.int .i64 a) = true → D.atKey (.int .i64 a) (.lit (.bool false)) = .lit (.bool true) ∧ ∃ j, j < k ∧ a = xs.getD j 0) ∧ (∀ j, j < k → has D (.int .i64 (xs.getD j 0)) = true)
theorem Kl (xs : List Int) (w : World) : YA xs (w.alloc (.map #[] 0)) w.heap.size 0 :=
 ⟨.map [], World.ownsMap_made _ _ _ _, fun a h => by simp [has] at h, fun j h => absurd h (by omega)⟩
theorem Oi {xs : List Int} {w' : World} {B k : Nat} {x : Int} {D : DataW Unit} (hx : xs.getD k 0 = x) (ht : Tidy D)
  (h1 : w'.ownsMap Tryz.prog 3 (plainElem Tryz.prog 4) B (k + 1) (D.put (.int .i64 x) (.lit (.bool true))))
  (hA : ∀ a : Int, has D (.int .i64 a) = true → D.atKey (.int .i64 a) (.lit (.bool false)) = .lit (.bool true) ∧ ∃ j, j < k ∧ a = xs.getD j 0) (hB : ∀ j, j < k → has D (.int .i64 (xs.getD j 0)) = true) : YA xs w' B (k + 1) := by
 refine ⟨_, h1, fun a ha => ?_, fun j hj => ?_⟩
 ·
  by_cases hax : a = x
  ·
   subst hax
   exact ⟨atKey_put_same ht.isMap (by simp [WideAt.IsKeyLit]) _ _, k, by omega, hx.symm⟩
  ·
   rw [has_put_other (BF hax)] at ha
   rw [atKey_put_other (BF hax)]
   obtain ⟨e1, j, hj, e2⟩ := hA a ha
   exact ⟨e1, j, by omega, e2⟩
 ·
  by_cases Zz : xs.getD j 0 = x
  · rw [Zz]; exact has_put_same ht.isMap (by simp [WideAt.IsKeyLit]) _
  ·
   rw [has_put_other (BF Zz)]
   have hjk : j ≠ k := fun e => Zz (by rw [e]; exact hx)
   exact hB j (by omega)
def PZ (xs : List Int) (k : Nat) : Prop := ∀ i j, i < k → j < i → xs.getD i 0 ≠ xs.getD j 0
theorem Ac (A : Option Addr) (xs : List Int) (n c : Nat) (r : Bool) (hr : Hid (r = false ↔ jU xs)) (hn : Hid (xs.length = n)) (hbig : n < 1000000) (hw : Hid (∀ k, k < n → -9223372036854775808 ≤ xs.getD k 0 ∧ xs.getD k 0 < 9223372036854775808)) (w : World) (hs : Hid (Sl w A xs)) :
  Calls Tryz.prog 33 #[.slice A n c] w (Rt w (.bool r)) := by
 have hmm := fun t w => run_makeMap (P := Tryz.prog) t w
 have J_ := aa (Kl xs w)
 have Ql : Hid (Below w.heap.size w (w.alloc (.map #[] 0))) := aa (af _ _)
 obtain ⟨B, UX⟩ : ∃ B, w.heap.size = B := ⟨_, rfl⟩
 obtain ⟨W, Yo⟩ : ∃ W, w.alloc (.map #[] 0) = W := ⟨_, rfl⟩
 rw [UX, Yo] at J_ Ql
 have YR := aa UX
 have HWe := aa Yo
 have rY : Hid (B ≤ W.heap.size) := aa (by rw [← UX, ← Yo]; simp)
 clear UX Yo
 go_in
 go_wp2
 rw [HWe.out, YR.out]
 go_loopw [9] (fun i wr => ∃ k : Nat, k ≤ n ∧ i = .int .i64 k ∧ Hid (PZ xs k) ∧ Hid (YA xs wr B k) ∧ Hid (Below B w wr)) (fun i _ => n - (intOf i).toNat)
 case atStart => exact ⟨0, by omega, rfl, aa (fun i j h _ => absurd h (by omega)), J_, Ql⟩
 case round =>
  obtain ⟨k, hk, rfl, XD, HMr, au⟩ := hrel
  by_cases hlt : k < n
  ·
   have hkl : k < xs.length := by rw [hn.out]; exact hlt
   obtain ⟨b, o, hA, hi0⟩ := (hs.out.below (show Below w.heap.size w wr by rw [YR.out]; exact au.out)) k hkl
   subst hA
   obtain ⟨w1, w2⟩ := hw.out k hlt
   obtain ⟨x, hx⟩ : ∃ x, xs.getD k 0 = x := ⟨_, rfl⟩
   rw [hx] at hi0 w1 w2
   obtain ⟨D, hown, hA, hB⟩ := HMr.out
   have HX := aa hx
   have YW := aa hA
   have CG := aa hB
   have HT := aa (hown.tidy Su)
   have wf1 : (Lit.int .i64 x).wf = true := WalkArith.wf_i64 (by omega)
   have hkey : keyOf Tryz.prog 3 (.int .i64 x) = some (.int .i64 x) := keyOf_int_mk Tryz.underlying3 wf1
   obtain ⟨v9, ps9, hrun, J3⟩ := hown.lookup Su Tryz.underlying123 (Va wr) (plainElem_bool Tryz.underlying4 false) hkey
   obtain ⟨bv, rfl, hbv⟩ := sU Tryz.underlying4 J3
   clear J3 hA hB hx
   cases hh : has D (.int .i64 x) with
   | true =>
    obtain ⟨e1, j, hj, e2⟩ := YW.out x hh
    have hbt : bv = true := by
     rw [e1] at hbv
     exact (DD hbv).symm
    subst hbt
    obtain rfl : r = true := by
     cases hrr : r with
     | true => rfl
     | false => exact absurd (HX.out.trans e2) ((hr.out.1 hrr) k j hkl hj)
    clear e1 e2 hbv hh
    go_wp2
    go_ret
    exact ⟨rfl, by rw [YR.out]; exact au.out⟩
   | false =>
    have hbf : bv = false := by
     rw [atKey_of_not_has hh] at hbv
     exact (DD hbv).symm
    subst hbf
    have Qe : Hid (PZ xs (k + 1)) := aa (fun i j hi hj => by
     by_cases e : i = k
     ·
      subst e
      intro h
      have := CG.out j hj
      rw [← h, HX.out, hh] at this
      cases this
     · exact XD.out i j (by omega) hj)
    clear hbv hh
    go_wp2_with (at_mapUpdate; refine wpList_mapUpdate_own _ rfl _ _ _ 123 rfl 3 4 Su Tryz.underlying123 _ B k _ rfl hown (by unfold maxLen; omega) _ _ _ rfl rfl hkey _ [] (plainElem_bool Tryz.underlying4 true) ?_; intro w10 hown1 hgrow1)
    have aaS : Hid (YA xs w10 B (k + 1)) := aa (Oi HX.out HT.out hown1 YW.out CG.out)
    have ac5 := hown.lt
    have abj : Hid (Below B w w10) := aa (au.out.grown hgrow1 (by omega) (fun j hj => by cases hj; exact Nat.le_refl _))
    clear hown hown1 hgrow1
    go_roundw
    case rel => exact ⟨k + 1, by omega, by go_num, Qe, aaS, abj⟩
    case measure => simp [intOf]; omega
  ·
   obtain rfl : k = n := by omega
   obtain rfl : r = false := hr.out.2 (fun i j hi hj => XD.out i j (by rw [← hn.out]; exact hi) hj)
   go_wp2
   go_ret
   exact ⟨rfl, by rw [YR.out]; exact au.out⟩
theorem yB (A : Option Addr) (xs : List Int) (n c : Nat) (r : Bool) (hr : Hid (r = false ↔ jU xs)) (hn : Hid (xs.length = n)) (hbig : n < 1000000) (w : World) (hs : Hid (Sl w A xs)) :
  Calls Tryz.prog 52 #[.slice A n c] w (Rt w (.bool r)) := by
 go_in
 go_wp2
 go_loopw [3] (fun i wr => ∃ k : Nat, k ≤ n ∧ i = .int .i64 k ∧ Hid (PZ xs k) ∧ Hid (Below w.heap.size w wr)) (fun i _ => n - (intOf i).toNat)
 case atStart => exact ⟨0, by omega, rfl, aa (fun i j h _ => absurd h (by omega)), aa (Below.refl _ _)⟩
 case round =>
  obtain ⟨k, hk, rfl, XD, au⟩ := hrel
  by_cases hlt : k < n
  ·
   have hkl : k < xs.length := by rw [hn.out]; exact hlt
   go_wp2
   go_loopw [4] (fun i wz => ∃ j : Nat, j ≤ k ∧ i = .int .i64 j ∧ Hid (∀ m, m < j → xs.getD k 0 ≠ xs.getD m 0) ∧ Hid (Below w.heap.size w wz)) (fun i _ => k - (intOf i).toNat)
   case atStart => exact ⟨0, by omega, rfl, aa (fun m h => absurd h (by omega)), au⟩
   case round =>
    obtain ⟨j, hj, rfl, HNJ, qC⟩ := hrel
    by_cases hlj : j < k
    ·
     have hjl : j < xs.length := by omega
     have TW := aa (hs.out.below qC.out)
     obtain ⟨b, o, hA, hi0⟩ := TW.out k hkl
     obtain ⟨b2, o2, hA2, hi1⟩ := TW.out j hjl
     subst hA
     cases hA2
     obtain ⟨x, hx⟩ : ∃ x, xs.getD k 0 = x := ⟨_, rfl⟩
     obtain ⟨y, hy⟩ : ∃ x, xs.getD j 0 = x := ⟨_, rfl⟩
     rw [hx] at hi0
     rw [hy] at hi1
     cases hxy : (x == y) with
     | true =>
      obtain rfl : r = true := by
       cases hrr : r with
       | true => rfl
       | false => exact absurd (hx.trans ((eq_of_beq hxy).trans hy.symm)) ((hr.out.1 hrr) k j hkl hlj)
      clear hx hy hjl hkl
      go_wp2
      go_quiet (fail)
      have HB2 := aa (ay qC.out nq)
      go_wp2
      go_ret
      exact ⟨rfl, HB2.out⟩
     | false =>
      have XI : Hid (∀ m, m < j + 1 → xs.getD k 0 ≠ xs.getD m 0) := aa (fun m hm => by
       by_cases e : m = j
       ·
        subst e
        rw [hx, hy]
        simpa using hxy
       · exact HNJ.out m (by omega))
      clear hx hy hjl hkl
      go_wp2
      go_quiet (fail)
      have HB2 := aa (ay qC.out nq)
      go_wp2
      go_roundw
      case rel => exact ⟨j + 1, by omega, by go_num, XI, HB2⟩
      case measure => simp [intOf]; omega
    ·
     obtain rfl : j = k := by omega
     have Qe : Hid (PZ xs (j + 1)) := aa (fun i m hi hm => by
      by_cases e : i = j
      · subst e; exact HNJ.out m hm
      · exact XD.out i m (by omega) hm)
     go_wp2
     go_roundw
     case rel => exact ⟨j + 1, by omega, by go_num, Qe, qC⟩
     case measure => simp [intOf]; omega
  ·
   obtain rfl : k = n := by omega
   obtain rfl : r = false := hr.out.2 (fun i j hi hj => XD.out i j (by rw [← hn.out]; exact hi) hj)
   go_wp2
   go_ret
   exact ⟨rfl, au.out⟩
def qo (n : Nat) (i : Int) : Bool := decide (1 ≤ i) && decide (i ≤ n)
theorem yR {n : Nat} {i : Int} (h : qo n i = true) : ∃ m : Nat, m < n ∧ i = (m : Int) + 1 := by
 unfold qo at h
 simp only [Bool.and_eq_true, decide_eq_true_eq] at h
 exact ⟨(i - 1).toNat, by omega, by omega⟩
theorem mH (need : Int) (Cs : Option Addr) (cn cc : Nat) (Ks : Option Addr) (kn kc : Nat) (i : Int) (r : Bool) (hr : Hid (qo kn i = r)) (w : World) :
  Calls Tryz.prog 37 #[lM need Cs cn cc Ks kn kc, .int .i64 i] w (Rt w (.bool r)) := by
 have HX := af w (rR need Cs cn cc Ks kn kc)
 have hc : (w.alloc (rR need Cs cn cc Ks kn kc)).cell? ⟨w.heap.size, 0, none⟩ = some (.int .i64 need) ∧ (w.alloc (rR need Cs cn cc Ks kn kc)).cell? ⟨w.heap.size, 1, none⟩ = some (.slice Cs cn cc) ∧ (w.alloc (rR need Cs cn cc Ks kn kc)).cell? ⟨w.heap.size, 2, none⟩ = some (.slice Ks kn kc) := ⟨ak (heap_alloc_new _ _) 0, ak (heap_alloc_new _ _) 1, ak (heap_alloc_new _ _) 2⟩
 obtain ⟨c0, c1, c2⟩ := hc
 have hr1 := hr.out
 unfold qo at hr1
 by_cases h0 : (1 : Int) ≤ i
 ·
  have d0 : decide ((1 : Int) ≤ i) = true := by simp; omega
  by_cases h1 : i ≤ (kn : Int)
  ·
   have d1 : decide (i ≤ (kn : Int)) = true := by simp; omega
   obtain rfl : r = true := by rw [← hr1]; simp; omega
   go_in
   go_wp2
   go_ret
   exact ⟨rfl, HX⟩
  ·
   have d1 : decide (i ≤ (kn : Int)) = false := by simp; omega
   obtain rfl : r = false := by rw [← hr1]; simp; omega
   go_in
   go_wp2
   go_ret
   exact ⟨rfl, HX⟩
 ·
  have d0 : decide ((1 : Int) ≤ i) = false := by simp; omega
  obtain rfl : r = false := by rw [← hr1]; simp; omega
  go_in
  go_wp2
  go_ret
  exact ⟨rfl, HX⟩
theorem jm (need : Int) (Cs : Option Addr) (cn cc : Nat) (Ks : Option Addr) (kn kc : Nat) (i : Int) (r : Bool) (hr : Hid (qo kn i = r)) (w : World) :
  Calls Tryz.prog 50 #[lM need Cs cn cc Ks kn kc, .int .i64 i] w (Rt w (.bool r)) := by
 have HX := af w (rR need Cs cn cc Ks kn kc)
 have hc : (w.alloc (rR need Cs cn cc Ks kn kc)).cell? ⟨w.heap.size, 0, none⟩ = some (.int .i64 need) ∧ (w.alloc (rR need Cs cn cc Ks kn kc)).cell? ⟨w.heap.size, 1, none⟩ = some (.slice Cs cn cc) ∧ (w.alloc (rR need Cs cn cc Ks kn kc)).cell? ⟨w.heap.size, 2, none⟩ = some (.slice Ks kn kc) := ⟨ak (heap_alloc_new _ _) 0, ak (heap_alloc_new _ _) 1, ak (heap_alloc_new _ _) 2⟩
 obtain ⟨c0, c1, c2⟩ := hc
 have hr1 := hr.out
 unfold qo at hr1
 by_cases h0 : (1 : Int) ≤ i
 ·
  have d0 : decide ((1 : Int) ≤ i) = true := by simp; omega
  by_cases h1 : i ≤ (kn : Int)
  ·
   have d1 : decide (i ≤ (kn : Int)) = true := by simp; omega
   obtain rfl : r = true := by rw [← hr1]; simp; omega
   go_in
   go_wp2
   go_ret
   exact ⟨rfl, HX⟩
  ·
   have d1 : decide (i ≤ (kn : Int)) = false := by simp; omega
   obtain rfl : r = false := by rw [← hr1]; simp; omega
   go_in
   go_wp2
   go_ret
   exact ⟨rfl, HX⟩
 ·
  have d0 : decide ((1 : Int) ≤ i) = false := by simp; omega
  obtain rfl : r = false := by rw [← hr1]; simp; omega
  go_in
  go_wp2
  go_ret
  exact ⟨rfl, HX⟩
end Go.Proofs.YtchcllcbknfikaaGreatDoor
namespace Go.Proofs.YtchcllcbknfikaaGreatDoor
open Go.RowKit rQ
def pz (N : Nat) (l : List Int) : List Int := l ++ dD (N - l.length)
theorem Fv {N : Nat} {l : List Int} (h : l.length ≤ N) : (pz N l).length = N := by simp [pz, dD]; omega
theorem R8 {N : Nat} {l : List Int} {x : Int} (h : l.length < N) : (pz N l).set l.length x = pz N (l ++ [x]) := by
 obtain ⟨m, hm⟩ : ∃ m, N - l.length = m + 1 := ⟨N - l.length - 1, by omega⟩
 have hm2 : N - (l ++ [x]).length = m := by rw [List.length_append, List.length_singleton]; omega
 rw [pz, pz, hm, hm2, dD, List.replicate_succ, List.set_append_right _ _ (Nat.le_refl _), Nat.sub_self, List.set_cons_zero]
 simp [dD]
theorem Bn {N : Nat} {l : List Int} (h : l.length = N) : pz N l = l := by simp [pz, dD, h]
theorem Bl {N k : Nat} {l : List Int} (h : k < l.length) (h2 : k < N) : (pz N (l.take k)).set k (l.getD k 0) = pz N (l.take (k + 1)) := by
 have e := R8 (N := N) (l := l.take k) (x := l.getD k 0) (by rw [List.length_take]; omega)
 rw [List.length_take, Nat.min_eq_left (by omega)] at e
 rw [e, take_one h]
theorem Vd : (#[.int .u8 0, .int .u8 0, .int .u8 0, .int .u8 0, .int .u8 0, .int .u8 0, .int .u8 0, .int .u8 0] : Array Value) = arr .u8 (dD 8) := rfl
theorem Ih (n : Int) : ∀ k : Nat, k < 8 → (qx n).getD k 0 = n / 2 ^ (56 - 8 * k) % 256
 | 0, _ => rfl
 | 1, _ => rfl
 | 2, _ => rfl
 | 3, _ => rfl
 | 4, _ => rfl
 | 5, _ => rfl
 | 6, _ => rfl
 | 7, _ => by simp [qx]
 | k + 8, h => absurd h (by omega)
theorem JF (n : Int) (w : World) :
  Calls Tryz.prog 220 #[.int .u64 n] w fun e w' => e = .returned (.slice (some ⟨w.heap.size, 0, none⟩) 8 8) ∧ bB .u8 5 w' w.heap.size (qx n) ∧ Below w.heap.size w w' := by
 obtain ⟨W, hW⟩ : ∃ W, w.alloc (.cells #[.int .u8 0, .int .u8 0, .int .u8 0, .int .u8 0, .int .u8 0, .int .u8 0, .int .u8 0, .int .u8 0] 5) = W := ⟨_, rfl⟩
 have bQ : Hid (Below w.heap.size w W) := aa (by rw [← hW]; exact af _ _)
 have HB0 : Hid (bB .u8 5 W w.heap.size (pz 8 ((qx n).take 0))) := aa (by
  rw [← hW, Vd]
  exact bB.new _ _)
 have hmk : ∀ w, (Instr.makeSlice 114 (.int .i64 8) (.int .i64 8)).run Tryz.prog w = .ok (.slice (some ⟨w.heap.size, 0, none⟩) 8 8) (w.alloc (.cells #[.int .u8 0, .int .u8 0, .int .u8 0, .int .u8 0, .int .u8 0, .int .u8 0, .int .u8 0, .int .u8 0] 5)) := fun _ => by kernel_rfl
 have HW := aa hW
 clear hW
 go_in
 go_wp2
 rw [HW.out]
 clear HW hmk
 go_loopw [8] (fun i u => ∃ k : Nat, k ≤ 8 ∧ i = .int .i64 k ∧ Hid (bB .u8 5 u w.heap.size (pz 8 ((qx n).take k))) ∧ Hid (Below w.heap.size w u)) (fun i _ => 8 - (intOf i).toNat)
 case atStart => exact ⟨0, by omega, rfl, HB0, bQ⟩
 case round =>
  obtain ⟨k, hk, rfl, HB, au⟩ := hrel
  by_cases hlt : k < 8
  ·
   have hc := HB.out.cell (j := k) (by rw [Fv (by rw [List.length_take, fH]; omega)]; exact hlt)
   have hf := HB.out.free k
   have hst := Bl (N := 8) (k := k) (l := qx n) hlt hlt
   rw [Ih n k hlt] at hst
   obtain ⟨q, hq⟩ : ∃ q, n / 2 ^ (56 - 8 * k) = q := ⟨_, rfl⟩
   rw [hq] at hst
   have j0 : (0 : Int) ≤ 56 - 8 * k := by omega
   have j1 : (56 - 8 * (k : Int)).toNat = 56 - 8 * k := by omega
   have HB2 : Hid (bB .u8 5 (wr.setCell ⟨w.heap.size, k, none⟩ (.int .u8 (q % 256))) w.heap.size (pz 8 ((qx n).take (k + 1)))) := aa (by
    rw [← hst]
    exact HB.out.set)
   have Ch : Hid (Below w.heap.size w (wr.setCell ⟨w.heap.size, k, none⟩ (.int .u8 (q % 256)))) := aa (au.out.setCell (Nat.le_refl _) _)
   clear hst HB au
   go_wp2
   try go_region
   try (rw [hq])
   go_wp2
   go_roundw
   case rel => exact ⟨k + 1, by omega, by go_num, HB2, Ch⟩
   case measure => simp [intOf]; omega
  ·
   have JV : Hid (bB .u8 5 wr w.heap.size (qx n)) := aa (by
    have h := HB.out
    rwa [show k = (qx n).length by rw [fH]; omega, List.take_length, Bn (fH n)] at h)
   clear HB
   go_wp2
   go_ret
   exact ⟨rfl, JV.out, au.out⟩
theorem Ik (b o i : Nat) : (⟨b, o, none⟩ : Addr).add i = ⟨b, o + i, none⟩ := by unfold Addr.add; split <;> simp_all
theorem Sk.news {K : IntKind} {w : World} {b o : Nat} {l : List Int} (h : Sk K w (some ⟨b, o, none⟩) l) : ∀ j u, (l.map (Value.int K))[j]? = some u → w.cell? ((⟨b, o, none⟩ : Addr).add j) = some u := fun j u hj => by
 rw [List.getElem?_map] at hj
 by_cases hl : j < l.length
 ·
  rw [List.getElem?_eq_getElem hl] at hj
  rw [Ik, h.cell hl, List.getD_eq_getElem?_getD, List.getElem?_eq_getElem hl]
  exact hj
 · rw [List.getElem?_eq_none (by omega)] at hj; cases hj
theorem Sk.at_add {K : IntKind} {w : World} {b o n : Nat} {l : List Int} (h : Sk K w (some ⟨b, o, none⟩) l) (hn : l.length = n) : ∀ i, i < n → w.cell? ((⟨b, o, none⟩ : Addr).add i) = some (.int K (l.getD i 0)) := fun i hi => by
 rw [Ik]; exact h.cell (by omega)
theorem Sk.setRow_ne {K : IntKind} {w : World} {a : Nat} {A : Option Addr} {l : List Int} {cs : Array Value} (h : Sk K w A l) (hne : ∀ b o, A = some ⟨b, o, none⟩ → b ≠ a) : Sk K (w.setRow a cs) A l := fun j hj => by
 obtain ⟨b, o, e, hc⟩ := h j hj
 exact ⟨b, o, e, by rw [cell_setRow_other _ _ _ _ (hne b o e)]; exact hc⟩
theorem dO : (Tryz.prog.info? 5).map (fun i => (i.zero, i.size, i.bytes)) = some (some (.int .u8 0), 1, 1) := by kernel_rfl
theorem Qy : (Tryz.prog.info? 41).map (·.size) = some 32 := by kernel_rfl
theorem ax {l : List Int} (h : l.length = 32) : (Tryz.prog.info? 41).map (·.size) = some (arr .u8 l).size := Qy.trans (congrArg some (by rw [dJ, h]))
theorem dY {l m : List Int} (h : l.length = 32) (h2 : m.length = 32) : (arr .u8 l).size = (arr .u8 m).size := by rw [dJ, dJ, h, h2]
theorem iP : (z32 : Array Value) = arr .u8 (dD 32) := rfl
theorem G_ (s : St) : ∀ k : Nat, k < 8 → ∀ m : Nat, m < 4 → (mG s).getD (4 * k + m) 0 = s.list.getD k 0 / 2 ^ (24 - 8 * m) % 256 := by
 intro k hk m hm
 obtain ⟨a, b, c, d, e, f, g, h⟩ := s
 rcases (show k = 0 ∨ k = 1 ∨ k = 2 ∨ k = 3 ∨ k = 4 ∨ k = 5 ∨ k = 6 ∨ k = 7 by omega) with rfl | rfl | rfl | rfl | rfl | rfl | rfl | rfl <;>
 rcases (show m = 0 ∨ m = 1 ∨ m = 2 ∨ m = 3 by omega) with rfl | rfl | rfl | rfl <;>
 simp [mG, yP, St.list]
theorem mF (s : St) : (mG s).length = 32 := rfl
def lenOf : Value → Nat
 | .slice _ n _ => n
 | _ => 0
theorem Dj (m : Nat) : List.replicate (m + 1) (0 : Int) = List.replicate m 0 ++ [0] := List.replicate_succ' ..
theorem O5 (xa xb xc xd xe xf xg xh : Int) (b o cap : Nat) (blk : List Int) (hlen : Hid (blk.length = 64)) (hby : Hid (az blk = true)) (w : World) (hs : Hid (Sk .u8 w (some ⟨b, o, none⟩) blk)) (hcap : 64 ≤ cap) (hcm : cap ≤ 9223372036854775807) (hv : Hid (bF w)) :
  Calls Tryz.prog 221 #[.agg #[.int .u32 xa, .int .u32 xb, .int .u32 xc, .int .u32 xd, .int .u32 xe, .int .u32 xf, .int .u32 xg, .int .u32 xh], .slice (some ⟨b, o, none⟩) 64 cap] w (Rt w (.agg (arr .u32 (DC ⟨xa, xb, xc, xd, xe, xf, xg, xh⟩ blk).list))) := by
 rw [PU]
 exact O6 ⟨xa, xb, xc, xd, xe, xf, xg, xh⟩ b o cap blk hlen hby w hs hcap hcm hv
theorem GU (b o c : Nat) (l : List Int) (n : Nat) (hn : Hid (l.length = n)) (hbig : n ≤ 1000000) (hby : Hid (az l = true)) (w : World) (hs : Hid (Sk .u8 w (some ⟨b, o, none⟩) l)) (hv : Hid (bF w)) :
  Calls Tryz.prog 198 #[.slice (some ⟨b, o, none⟩) n c] w (Rt w (.agg (arr .u8 (o_ l)))) := by
 obtain ⟨i0, hi, hz0, hz1, hz2⟩ := info_parts dO
 obtain ⟨W, hW⟩ : ∃ W, w.alloc (.cells z32 41) = W := ⟨_, rfl⟩
 have bQ : Hid (Below w.heap.size w W) := aa (by rw [← hW]; exact af _ _)
 have ek : Hid (bB .u8 41 W w.heap.size (dD 32)) := aa (by
  rw [← hW, iP]
  exact bB.new _ _)
 have lG : Hid (W.heap.size = w.heap.size + 1) := aa (by rw [← hW]; simp)
 have HS := aa (hs.out.below bQ.out)
 have HV := aa (hv.out.below bQ.out)
 have HW := aa hW
 clear hW hs hv
 go_in
 go_wp2_with fail
 rw [HW.out]
 refine (Tryz.bytes_Clone_at ⟨b, o, none⟩ n c l _ hn.out (by omega) (HS.out.at_add hn.out)).mono ?_
 rintro e w1 ⟨v1, rfl, ho1, hne1, hb1⟩
 have zm : Hid (aQ .u8 5 w1 W.heap.size v1 l) := aa (by unfold aQ; rw [hn.out]; exact ho1)
 have HB1 := hb1
 have JS := aa hb1
 have hbs := hb1.size
 clear HW hne1 HB1 hb1
 have hown := zm.out.row hn.out
 clear ho1
 go_wp2_with (at_builtin; refine wpList_append_own _ rfl _ _ 114 rfl W.heap.size 5 i0 (.int .u8 0) 1 1 Tryz.underlying114 hi hz0 hz1 hz2 rfl (by decide) _ _ _ rfl (hown.alloc _) ⟨w1.heap.size, 0, none⟩ 1 1 [.int .u8 128] rfl rfl (cell_one_new _ _ _) (ints_oneCell .u8 [128]) (by unfold maxLen; omega) (by omega) (by simp; omega) ?_; intro v2 w2 hown2 hgrow2 _)
 have qA : Hid (aQ .u8 5 w2 W.heap.size v2 (l ++ [128])) := aa (aQ.app hn.out.symm rfl hown2)
 have UI : Hid (Below W.heap.size W w2) := aa (zm.out.below JS.out hbs hgrow2)
 clear hown hown2 hgrow2 zm hbs JS
 obtain ⟨A2, c2, e2, _⟩ := qA.out.sk
 rw [List.length_append, hn.out, List.length_singleton] at e2
 subst e2
 go_loopw [3] (fun p u => ∃ (N : Nat) (A : Option Addr) (cap : Nat), n + 1 ≤ N ∧ N ≤ n + 1 + kR n ∧ p = .slice A N cap ∧ Hid (aQ .u8 5 u W.heap.size p (l ++ [128] ++ List.replicate (N - n - 1) 0)) ∧ Hid (Below W.heap.size W u)) (fun p _ => n + 65 - lenOf p)
 case atStart => exact ⟨n + 1, A2, c2, Nat.le_refl _, by omega, rfl, aa (by rw [show n + 1 - n - 1 = 0 by omega]; simpa using qA.out), UI⟩
 case round =>
  obtain ⟨N, A, cap, hN0, hN1, rfl, HO, au⟩ := hrel
  have hpz : kR n < 64 := by unfold kR; omega
  have hll : (l ++ [128] ++ List.replicate (N - n - 1) 0).length = N := by simp [hn.out]; omega
  by_cases hend : N % 64 = 56
  ·
   have HN : Hid (N = n + 1 + kR n) := aa (by unfold kR at hN1 hpz ⊢; omega)
   have t1 : ((N : Int) % 64 == 56) = true := by simp; omega
   have t2 : ((N : Int) % 64 != 56) = false := by simp; omega
   clear hend
   go_wp2_with fail
   refine (JF _ _).mono ?_
   rintro e w3 ⟨rfl, hbl, hb3⟩
   have lU := aa (HO.out.keep hb3)
   have qd := aa (au.out.trans (hb3.mono au.out.size))
   have NV := aa hbl
   have hbs := qd.out.size
   have hown := lU.out.row hll
   have Qg := aa hll
   clear hbl hb3 HO au hll
   go_upto_region 5 with (at_builtin; refine wpList_append_own _ rfl _ _ 114 rfl W.heap.size 5 i0 (.int .u8 0) 1 1 Tryz.underlying114 hi hz0 hz1 hz2 rfl (by decide) _ _ _ rfl hown ⟨wr.heap.size, 0, none⟩ 8 8 ((qx (8 * (n : Int))).map (.int .u8)) rfl rfl (NV.out.sk.news) (ints_oneCell .u8 (qx (8 * (n : Int)))) (by unfold maxLen kR at *; omega) (by unfold kR at *; omega) (by omega) ?_; intro v4 w4 hown2 hgrow2 _)
   have xV : Hid (aQ .u8 5 w4 W.heap.size v4 (mU l)) := aa (by
    have h := aQ.app (ys := qx (8 * (n : Int))) Qg.out.symm rfl hown2
    have e : l ++ [128] ++ List.replicate (N - n - 1) 0 ++ qx (8 * (n : Int)) = mU l := by
     rw [mU, hn.out, show N - n - 1 = kR n by have := HN.out; omega]
    rwa [e] at h)
   have GH : Hid (Below W.heap.size W w4) := aa (lU.out.below0 qd.out hbs hgrow2)
   clear hown hown2 hgrow2 lU NV qd hbs
   obtain ⟨M, hM⟩ : ∃ M, (mU l).length = 64 * M := ⟨(mU l).length / 64, by have := Du l; omega⟩
   have hM1 : 1 ≤ M := by rw [qL] at hM; omega
   have hM2 : 64 * M ≤ n + 200 := by rw [qL, hn.out, kR] at hM; omega
   obtain ⟨g4, cap4, e4, hg4, hcap, D6, qR⟩ := xV.out.cells (by omega)
   rw [hM] at e4 hcap
   obtain ⟨P, hP⟩ : ∃ P, mU l = P := ⟨_, rfl⟩
   have We : az P = true := by rw [← hP]; exact yM hby.out
   rw [hP] at qR hM xV
   have HP : Kp (mU l = P) := ⟨hP⟩
   have HM := aa hM
   have HPB := aa We
   have YG := aa qR
   have hcm : cap4 ≤ 9223372036854775807 := by simpa [maxLen] using D6
   have adf : g4 < w4.heap.size := qR.lt (by omega)
   subst e4
   clear hP hM We qR D6 xV Qg t1 t2
   have tN := aa (HV.out.below GH.out)
   obtain ⟨s0, s1, s2, s3, s4, s5, s6, s7⟩ : w4.cell? ⟨4, 0, none⟩ = some (.int .u32 1779033703) ∧ w4.cell? ⟨4, 1, none⟩ = some (.int .u32 3144134277) ∧ w4.cell? ⟨4, 2, none⟩ = some (.int .u32 1013904242) ∧ w4.cell? ⟨4, 3, none⟩ = some (.int .u32 2773480762) ∧ w4.cell? ⟨4, 4, none⟩ = some (.int .u32 1359893119) ∧ w4.cell? ⟨4, 5, none⟩ = some (.int .u32 2600822924) ∧ w4.cell? ⟨4, 6, none⟩ = some (.int .u32 528734635) ∧ w4.cell? ⟨4, 7, none⟩ = some (.int .u32 1541459225) :=
    ⟨tN.out.2 0 (by decide), tN.out.2 1 (by decide), tN.out.2 2 (by decide), tN.out.2 3 (by decide), tN.out.2 4 (by decide), tN.out.2 5 (by decide), tN.out.2 6 (by decide), tN.out.2 7 (by decide)⟩
   go_wp2_with ((with_reducible show wpList _ _ _ (⟨none, _, _, _, _, _⟩ :: _) _ _); refine wpList_store_row rfl 229 _ _ rfl w4.heap.size (arr .u32 st0.list) rfl rfl _ _ (heap_alloc_new _ _) (jM st0) rfl (cu _) ?_)
   clear s0 s1 s2 s3 s4 s5 s6 s7
   rw [World.setRow_alloc_new]
   simp only [Act.put]
   have X8 : Hid (Below W.heap.size W (w4.alloc (.cells (arr .u32 st0.list) 229))) := aa (GH.out.alloc GH.out.size _)
   have Xp : Hid (bB .u32 229 (w4.alloc (.cells (arr .u32 st0.list) 229)) w4.heap.size (jZ P 0).list) := aa (bB.new _ _)
   have Xr : Hid (Sk .u8 (w4.alloc (.cells (arr .u32 st0.list) 229)) (some ⟨g4, 0, none⟩) (P.drop (64 * 0))) := aa (by
    rw [Nat.mul_zero, List.drop_zero]
    exact YG.out.below (af _ _))
   have ZI := GH.out.size
   obtain ⟨W5, Mt⟩ : ∃ u, w4.alloc (.cells (arr .u32 st0.list) 229) = u := ⟨_, rfl⟩
   rw [Mt] at X8 Xp Xr ⊢
   clear Mt YG GH tN
   go_loopw [3] (fun p u => ∃ (k R off cp : Nat), k ≤ M ∧ Hid (64 * k + R = 64 * M) ∧ p = .slice (some ⟨g4, off, none⟩) R cp ∧ R ≤ cp ∧ cp ≤ 9223372036854775807 ∧ Hid (Sk .u8 u (some ⟨g4, off, none⟩) (P.drop (64 * k))) ∧ Hid (bB .u32 229 u w4.heap.size (jZ P k).list) ∧ Hid (Below W.heap.size W u)) (fun p _ => lenOf p)
   case atStart => exact ⟨0, 64 * M, 0, cap4, by omega, aa (by omega), rfl, hcap, hcm, Xr, Xp, X8⟩
   case round =>
    obtain ⟨k, R, off, cp, hk, HR, rfl, hRc, hcp, T_, Im, au⟩ := hrel
    by_cases hR0 : 0 < R
    ·
     have adp : 64 ≤ R := by have := HR.out; omega
     have adk : (64 : Int) ≤ (cp : Int) := by omega
     have hkM : k < M := by have := HR.out; omega
     have Qq : Hid ((fG P k).length = 64) := aa (wL (by have := HM.out; omega))
     have IE : Hid (az (fG P k) = true) := aa (sH HPB.out k)
     obtain ⟨⟨xa, xb, xc, xd, xe, xf, xg, xh⟩, hS⟩ : ∃ T, jZ P k = T := ⟨_, rfl⟩
     rw [hS] at Im
     have CB : Kp (jZ P k = ⟨xa, xb, xc, xd, xe, xf, xg, xh⟩) := ⟨hS⟩
     clear hS
     have Xh : Hid (Sk .u8 wr (some ⟨g4, off, none⟩) (fG P k)) := aa (T_.out.take)
     have HVr := aa (HV.out.below au.out)
     have HCS : Hid (wr.cell? ⟨w4.heap.size, 0, none⟩ = some (.int .u32 xa) ∧ wr.cell? ⟨w4.heap.size, 1, none⟩ = some (.int .u32 xb) ∧ wr.cell? ⟨w4.heap.size, 2, none⟩ = some (.int .u32 xc) ∧ wr.cell? ⟨w4.heap.size, 3, none⟩ = some (.int .u32 xd) ∧ wr.cell? ⟨w4.heap.size, 4, none⟩ = some (.int .u32 xe) ∧ wr.cell? ⟨w4.heap.size, 5, none⟩ = some (.int .u32 xf) ∧ wr.cell? ⟨w4.heap.size, 6, none⟩ = some (.int .u32 xg) ∧ wr.cell? ⟨w4.heap.size, 7, none⟩ = some (.int .u32 xh)) := aa ⟨Im.out.cell (j := 0) (show 0 < 8 by decide), Im.out.cell (j := 1) (show 1 < 8 by decide), Im.out.cell (j := 2) (show 2 < 8 by decide), Im.out.cell (j := 3) (show 3 < 8 by decide), Im.out.cell (j := 4) (show 4 < 8 by decide), Im.out.cell (j := 5) (show 5 < 8 by decide), Im.out.cell (j := 6) (show 6 < 8 by decide), Im.out.cell (j := 7) (show 7 < 8 by decide)⟩
     obtain ⟨T, hT⟩ : ∃ T, DC ⟨xa, xb, xc, xd, xe, xf, xg, xh⟩ (fG P k) = T := ⟨_, rfl⟩
     have HT : Kp (DC ⟨xa, xb, xc, xd, xe, xf, xg, xh⟩ (fG P k) = T) := ⟨hT⟩
     have QY : Kp (jZ P (k + 1) = T) := ⟨by rw [jZ, CB.out, hT]⟩
     clear hT
     go_wp2_with fail
     refine bD (S := fun w' => w'.cell? ⟨w4.heap.size, 0, none⟩ = some (.int .u32 xa) ∧ w'.cell? ⟨w4.heap.size, 1, none⟩ = some (.int .u32 xb) ∧ w'.cell? ⟨w4.heap.size, 2, none⟩ = some (.int .u32 xc) ∧ w'.cell? ⟨w4.heap.size, 3, none⟩ = some (.int .u32 xd) ∧ w'.cell? ⟨w4.heap.size, 4, none⟩ = some (.int .u32 xe) ∧ w'.cell? ⟨w4.heap.size, 5, none⟩ = some (.int .u32 xf) ∧ w'.cell? ⟨w4.heap.size, 6, none⟩ = some (.int .u32 xg) ∧ w'.cell? ⟨w4.heap.size, 7, none⟩ = some (.int .u32 xh)) (E := [3, 4]) (by kernel_rfl) (by simpa using HCS.out) (fun hHeld => ?_)
     refine bN 0 ?_
     refine bN 1 ?_
     refine bN 2 ?_
     refine mR 3 fun K hK => ?_
     go_simp
     refine (O5 xa xb xc xd xe xf xg xh g4 off cp (fG P k) Qq IE _ (aa (Xh.out.below (Below.refl _ _).drew)) (by omega) hcp (aa (HVr.out.below (Below.refl _ _).drew))).mono ?_
     rintro e w6 ⟨rfl, hb6⟩
     rw [HT.out]
     refine hK.out _ _ ?_
     clear hK K
     try simp only [qq]
     refine mR 4 fun K hK => ?_
     refine wp_store_row 229 _ _ rfl w4.heap.size (arr .u32 T.list) rfl rfl 229 _ ((Im.out.below (Below.refl _ _).drew).below hb6) (jM T) rfl (cu _) ?_
     refine hK.out _ _ ?_
     clear hK K
     try simp only [qq]
     refine gz ?_
     have TZ : Hid (bB .u32 229 (w6.setRow w4.heap.size (arr .u32 T.list)) w4.heap.size (jZ P (k + 1)).list) := aa (by
      rw [QY.out]
      exact ((Im.out.below (Below.refl _ _).drew).below hb6).setRow)
     have Ch : Hid (Below W.heap.size W (w6.setRow w4.heap.size (arr .u32 T.list))) := aa (aj (au.out.drew.trans (hb6.mono au.out.size)) ZI)
     have Xg : Hid (Sk .u8 (w6.setRow w4.heap.size (arr .u32 T.list)) (some ⟨g4, off, none⟩) (P.drop (64 * k))) := aa (((T_.out.below (Below.refl _ _).drew).below hb6).setRow_ne (fun b o e => by cases e; omega))
     obtain ⟨w7, hw7⟩ : ∃ u, w6.setRow w4.heap.size (arr .u32 T.list) = u := ⟨_, rfl⟩
     rw [hw7] at TZ Ch Xg ⊢
     clear hw7 hb6 T_ Xh Im au HVr HCS HT QY CB hHeld
     have adw : (64 : Int) ≤ (R : Int) := by omega
     by_cases hce : cp = 64
     ·
      subst hce
      obtain rfl : R = 64 := by omega
      have HN0 : Hid (Sk .u8 w7 (some ⟨g4, off, none⟩) (P.drop (64 * (k + 1)))) := aa (Sk.nil_of (by rw [List.length_drop, HM.out]; have := HR.out; omega))
      have HR2 : Hid (64 * (k + 1) + 0 = 64 * M) := aa (by have := HR.out; omega)
      go_wp2
      go_roundw
      case rel => exact ⟨k + 1, 0, off, 0, by omega, HR2, rfl, by omega, by omega, HN0, TZ, Ch⟩
      case measure => simp [lenOf]
     ·
      have HN0 : Hid (Sk .u8 w7 (some ⟨g4, off + 64, none⟩) (P.drop (64 * (k + 1)))) := aa (by
       have h := Xg.out.drop (n := 64)
       rwa [List.drop_drop, show 64 * k + 64 = 64 * (k + 1) by omega] at h)
      have HR2 : Hid (64 * (k + 1) + (R - 64) = 64 * M) := aa (by have := HR.out; omega)
      go_wp2
      go_roundw
      case rel => exact ⟨k + 1, R - 64, off + 64, cp - 64, by omega, HR2, rfl, by omega, by omega, HN0, TZ, Ch⟩
      case measure => simp [lenOf]; omega
    ·
     obtain rfl : R = 0 := by omega
     obtain ⟨⟨xa, xb, xc, xd, xe, xf, xg, xh⟩, hS⟩ : ∃ T, jZ P M = T := ⟨_, rfl⟩
     have Uf : Kp (o_ l = mG ⟨xa, xb, xc, xd, xe, xf, xg, xh⟩) := ⟨by
      rw [o_, HP.out, HM.out, show 64 * M / 64 = M by omega, hS]⟩
     have aat : Hid (bB .u32 229 wr w4.heap.size (St.mk xa xb xc xd xe xf xg xh).list) := aa (by
      rw [← hS, show M = k by have := HR.out; omega]
      exact Im.out)
     have TT : Hid (bB .u8 41 (wr.alloc (.cells z32 41)) wr.heap.size (pz 32 ((mG ⟨xa, xb, xc, xd, xe, xf, xg, xh⟩).take (4 * 0)))) := aa (by
      rw [iP]
      exact bB.new _ _)
     have zw : Hid (Below W.heap.size W (wr.alloc (.cells z32 41))) := aa (au.out.alloc au.out.size _)
     clear hS Im T_ HR
     go_upto_region 11 with ((with_reducible show wpList _ _ _ (⟨some 37, _, _, _, _, _⟩ :: _) _ _); refine wpList_load_row rfl 229 _ rfl w4.heap.size rfl _ _ _ _ (aat.out.old _) Tryz.underlying229 rfl (jM _) ?_)
     rw [← PU]
     have hbr := au.out.size
     obtain ⟨WN, QD⟩ : ∃ u, wr.alloc (.cells z32 41) = u := ⟨_, rfl⟩
     rw [QD] at TT zw ⊢
     obtain ⟨B5, QI⟩ : ∃ x, wr.heap.size = x := ⟨_, rfl⟩
     have IC : Hid (B5 < WN.heap.size) := aa (by rw [← QD, ← QI]; simp)
     rw [QI] at TT hbr ⊢
     clear QD QI
     go_loopw [38] (fun i u => ∃ k : Nat, k ≤ 8 ∧ i = .int .i64 k ∧ Hid (bB .u8 41 u B5 (pz 32 ((mG ⟨xa, xb, xc, xd, xe, xf, xg, xh⟩).take (4 * k)))) ∧ Hid (Below B5 WN u)) (fun i _ => 8 - (intOf i).toNat)
     case atStart => exact ⟨0, by omega, rfl, TT, aa (Below.refl _ _)⟩
     case round =>
      obtain ⟨k4, hk4, rfl, zR, l6⟩ := hrel
      by_cases hlk : k4 < 8
      ·
       have hi8 := VU xa xb xc xd xe xf xg xh k4 hlk
       obtain ⟨v0, e1⟩ : ∃ x, (St.mk xa xb xc xd xe xf xg xh).list.getD k4 0 = x := ⟨_, rfl⟩
       rw [e1] at hi8
       have E1 := aa e1
       clear e1
       go_wp2
       go_loopw [42] (fun j u => ∃ m : Nat, m ≤ 4 ∧ j = .int .i64 m ∧ Hid (bB .u8 41 u B5 (pz 32 ((mG ⟨xa, xb, xc, xd, xe, xf, xg, xh⟩).take (4 * k4 + m)))) ∧ Hid (Below B5 WN u)) (fun j _ => 4 - (intOf j).toNat)
       case atStart => exact ⟨0, by omega, rfl, zR, l6⟩
       case round =>
        obtain ⟨m, hm, rfl, tV, Qk⟩ := hrel
        by_cases hlm : m < 4
        ·
         have hol : (mG ⟨xa, xb, xc, xd, xe, xf, xg, xh⟩).length = 32 := mF _
         have hc := tV.out.cell (j := 4 * k4 + m) (by rw [Fv (by rw [List.length_take, hol]; omega)]; omega)
         have hf := tV.out.free (4 * k4 + m)
         have hst := Bl (N := 32) (k := 4 * k4 + m) (l := mG ⟨xa, xb, xc, xd, xe, xf, xg, xh⟩) (by rw [hol]; omega) (by omega)
         rw [G_ _ k4 hlk m hlm, E1.out] at hst
         obtain ⟨q, hq⟩ : ∃ q, v0 / 2 ^ (24 - 8 * m) = q := ⟨_, rfl⟩
         rw [hq] at hst
         have HC := hc
         have j0 : (0 : Int) ≤ 24 - 8 * m := by omega
         have j1 : (24 - 8 * (m : Int)).toNat = 24 - 8 * m := by omega
         have j2 : (4 * (k4 : Int) + m).toNat = 4 * k4 + m := by omega
         obtain ⟨WV, Cx⟩ : ∃ u, wr.setCell ⟨B5, 4 * k4 + m, none⟩ (.int .u8 (q % 256)) = u := ⟨_, rfl⟩
         have HB2 : Hid (bB .u8 41 WV B5 (pz 32 ((mG ⟨xa, xb, xc, xd, xe, xf, xg, xh⟩).take (4 * k4 + (m + 1))))) := aa (by
          rw [← Cx, show 4 * k4 + (m + 1) = 4 * k4 + m + 1 by omega, ← hst]
          exact tV.out.set)
         have UJ : Hid (Below B5 WN WV) := aa (by rw [← Cx]; exact Qk.out.setCell (Nat.le_refl _) _)
         clear hst tV Qk hol HC
         go_wp2
         try go_region
         try (rw [hq])
         try (rw [Cx])
         go_wp2
         go_roundw
         case rel => exact ⟨m + 1, by omega, by go_num, HB2, UJ⟩
         case measure => simp [intOf]; omega
        ·
         have HB2 : Hid (bB .u8 41 wr B5 (pz 32 ((mG ⟨xa, xb, xc, xd, xe, xf, xg, xh⟩).take (4 * (k4 + 1))))) := aa (by
          have h := tV.out
          rwa [show 4 * k4 + m = 4 * (k4 + 1) by omega] at h)
         clear tV
         go_wp2
         go_roundw
         case rel => exact ⟨k4 + 1, by omega, by go_num, HB2, Qk⟩
         case measure => simp [intOf]; omega
      ·
       have JV : Hid (bB .u8 41 wr B5 (o_ l)) := aa (by
        have h := zR.out
        rwa [show 4 * k4 = (mG ⟨xa, xb, xc, xd, xe, xf, xg, xh⟩).length by rw [mF]; omega, List.take_length, Bn (mF _), ← Uf.out] at h)
       have rY := aa (zw.out.trans (l6.out.mono hbr))
       have Q3 : Hid (bB .u8 41 wr w.heap.size (dD 32)) := aa (ek.out.keepB (by have := lG.out; omega) rY.out)
       have fA : Hid (Below w.heap.size w (wr.setRow w.heap.size (arr .u8 (o_ l)))) := aa (aj (ag bQ.out rY.out) (Nat.le_refl _))
       have HRR : Hid (bB .u8 41 (wr.setRow w.heap.size (arr .u8 (o_ l))) w.heap.size (o_ l)) := aa Q3.out.setRow
       clear zR l6
       go_wp2_with (first
        | ((with_reducible show wpList _ _ _ (⟨some 58, _, _, _, _, _⟩ :: _) _ _); refine wpList_load_row rfl 41 _ rfl B5 rfl _ _ _ _ JV.out Tryz.underlying41 rfl (ax (f_ l)) ?_)
        | ((with_reducible show wpList _ _ _ (⟨none, _, _, _, _, _⟩ :: _) _ _); refine wpList_store_row rfl 41 _ _ rfl w.heap.size (arr .u8 (o_ l)) rfl rfl _ _ Q3.out (ax (f_ l)) (dY rfl (f_ l)) (cu _) ?_))
       exact bodyPost_ret (v := .agg (arr .u8 (o_ l))) (results_cell_row (p := 2) (ty := 41) rfl _ _ w.heap.size _ _ _ _ rfl HRR.out Tryz.underlying41 rfl (ax (f_ l))) rfl ⟨rfl, fA.out⟩
  ·
   have hN : N < n + 1 + kR n := by unfold kR at hN1 hpz ⊢; omega
   have t1 : ((N : Int) % 64 == 56) = false := by simp; omega
   have t2 : ((N : Int) % 64 != 56) = true := by simp; omega
   have hown := HO.out.row hll
   have hbs := au.out.size
   have Qg := aa hll
   clear hend hll
   go_wp2_with (at_builtin; refine wpList_append_own _ rfl _ _ 114 rfl W.heap.size 5 i0 (.int .u8 0) 1 1 Tryz.underlying114 hi hz0 hz1 hz2 rfl (by decide) _ _ _ rfl (hown.alloc _) ⟨wr.heap.size, 0, none⟩ 1 1 [.int .u8 0] rfl rfl (cell_one_new _ _ _) (ints_oneCell .u8 [0]) (by unfold maxLen; omega) (by omega) (by simp; omega) ?_; intro v2 w2 hown2 hgrow2 _)
   have lU : Hid (aQ .u8 5 w2 W.heap.size v2 (l ++ [128] ++ List.replicate (N + 1 - n - 1) 0)) := aa (by
    rw [show N + 1 - n - 1 = (N - n - 1) + 1 by omega, Dj, ← List.append_assoc]
    exact aQ.app Qg.out.symm rfl hown2)
   have qd : Hid (Below W.heap.size W w2) := aa (HO.out.below au.out hbs hgrow2)
   clear hown hown2 hgrow2 HO
   obtain ⟨A3, c3, e3, _⟩ := lU.out.sk
   have e4 : (l ++ [128] ++ List.replicate (N + 1 - n - 1) 0).length = N + 1 := by simp [hn.out]; omega
   rw [e4] at e3
   subst e3
   clear e4
   go_wp2
   go_roundw
   case rel => exact ⟨N + 1, A3, c3, by omega, by omega, rfl, lU, qd⟩
   case measure => simp [lenOf]; omega
def aU (s : ByteArray) : List Int := s.data.toList.map fun c => (c.toNat : Int)
theorem bz (s : ByteArray) : (aU s).length = s.size := by simp [aU]
theorem iM (s : ByteArray) : az (aU s) = true := by
 refine List.all_eq_true.2 fun x hx => ?_
 obtain ⟨c, _, rfl⟩ := List.mem_map.1 hx
 have := c.toNat_lt
 simp; omega
theorem lu {w : World} {g cap : Nat} {s : ByteArray} {e : TypeId} {fr : Nat × Nat} (h : w.heap[g]? = some (.cells (bytesRow s cap) e fr)) : Sk .u8 w (some ⟨g, 0, none⟩) (aU s) := fun j hj => ⟨g, 0, rfl, by
 rw [bz] at hj
 rw [Nat.zero_add, cell_of_row _ _ j _ _ _ h, bytesRow_at s cap j (by simpa using hj)]
 simp [aU, List.getD_eq_getElem?_getD]
 rw [Array.getElem?_eq_getElem (by simpa using hj)]
 rfl⟩
theorem aQ.skAt {K : IntKind} {T : TypeId} {w : World} {B g n c : Nat} {xs : List Int} (h : aQ K T w B (.slice (some ⟨g, 0, none⟩) n c) xs) (h0 : 0 < xs.length) : Sk K w (some ⟨g, 0, none⟩) xs := by
 obtain ⟨g', cap', e, _, _, _, hs⟩ := h.cells h0
 simp only [Value.slice.injEq, Option.some.injEq, Addr.mk.injEq] at e
 rw [e.1.1]
 exact hs
theorem cK {P : Program} {fn : Func} {p q : Tmp} {ty : TypeId} (h : fn.results = #[.cell p ty, .tmp q]) (tmps : Array Value) (w : World) (a : Addr) (v u : Value)
  (hp : tmps.getD p undef = .pointer (some a)) (hq : tmps.getD q undef = u) (hl : (loadVar ty a).run P w = .ok v w) : (results fn tmps).run P w = .ok (.tuple #[v, u]) w := by
 have hp' : tmps[p]?.getD undef = .pointer (some a) := by simpa using hp
 have hq' : tmps[q]?.getD undef = u := by simpa using hq
 simp [results, h, hp', hq', asAddr, hl]
def lF (h : List Int) : Value := .tuple #[.agg (arr .u8 h), .int .i64 0]
theorem o8 (s : ByteArray) (hs1 : 1 ≤ s.size) (hs2 : s.size ≤ 100) (b o c : Nat) (l : List Int) (n : Nat) (hn : Hid (l.length = n)) (hn0 : 0 < n) (hbig : n ≤ 900000) (hby : Hid (az l = true)) (w : World) (hs : Hid (Sk .u8 w (some ⟨b, o, none⟩) l)) (hv : Hid (bF w)) :
  Calls Tryz.prog 178 #[.string s, .slice (some ⟨b, o, none⟩) n c] w (Rt w (lF (tagged (aU s) l))) := by
 obtain ⟨i0, hi, hz0, hz1, hz2⟩ := info_parts dO
 obtain ⟨W, hW⟩ : ∃ W, w.alloc (.cells z32 41) = W := ⟨_, rfl⟩
 have bQ : Hid (Below w.heap.size w W) := aa (by rw [← hW]; exact af _ _)
 have ek : Hid (bB .u8 41 W w.heap.size (dD 32)) := aa (by
  rw [← hW, iP]
  exact bB.new _ _)
 have lG : Hid (W.heap.size = w.heap.size + 1) := aa (by rw [← hW]; simp)
 have HS := aa (hs.out.below bQ.out)
 have HV := aa (hv.out.below bQ.out)
 have HW := aa hW
 have hcv := fun w => run_bytes_of_string (P := Tryz.prog) w 9 114 5 s Tryz.underlying9 Tryz.underlying114 Tryz.underlying5
 clear hW hs hv
 go_in
 go_wp2_with fail
 rw [HW.out]
 clear hcv HW
 obtain ⟨Wc, hWc⟩ : ∃ u, (W.alloc (.cells (bytesRow s (grownCap W s.size 0 5)) 5 ((bytesRow s (grownCap W s.size 0 5)).size, (bytesRow s (grownCap W s.size 0 5)).size + 1))).drew = u := ⟨_, rfl⟩
 have sM : Hid (Below W.heap.size W Wc) := aa (by rw [← hWc]; exact (af _ _).drew)
 have HSc : Hid (Sk .u8 Wc (some ⟨w.heap.size + 1, 0, none⟩) (aU s)) := aa (by
  rw [← hWc, ← lG.out]
  exact lu (heap_alloc_new W _))
 obtain ⟨gc, hgc⟩ : ∃ g, grownCap W s.size 0 5 = g := ⟨_, rfl⟩
 rw [hWc, hgc]
 clear hWc hgc
 refine (GU (w.heap.size + 1) 0 gc (aU s) s.size (aa (bz s)) (by omega) (aa (iM s)) _ HSc (aa (HV.out.below sM.out))).mono ?_
 rintro e w1 ⟨rfl, hb1⟩
 have HB1 := aa (ag sM.out hb1)
 clear hb1 HSc sM
 obtain ⟨t, ht⟩ : ∃ t, o_ (aU s) = t := ⟨_, rfl⟩
 have htl : t.length = 32 := by rw [← ht]; exact f_ _
 have htb : az t = true := by rw [← ht]; exact iJ _
 have HT : Kp (o_ (aU s) = t) := ⟨ht⟩
 have xS := aa htl
 have HTB := aa htb
 rw [ht]
 clear ht htl htb
 go_upto_region 4 with ((with_reducible show wpList _ _ _ (⟨none, _, _, _, _, _⟩ :: _) _ _); refine wpList_store_row rfl 41 _ _ rfl w1.heap.size (arr .u8 t) rfl rfl _ _ (heap_alloc_new _ _) (ax xS.out) (dY (l := dD 32) rfl xS.out) (cu _) ?_)
 rw [World.setRow_alloc_new]
 simp only [Act.put]
 have HB2 := aa (ag HB1.out (af w1 (.cells (arr .u8 t) 41)))
 have HT2 : Hid (bB .u8 41 (w1.alloc (.cells (arr .u8 t) 41)) w1.heap.size t) := aa (bB.new _ _)
 obtain ⟨W2, hW2⟩ : ∃ u, w1.alloc (.cells (arr .u8 t) 41) = u := ⟨_, rfl⟩
 have HSN : Hid (w1.heap.size < W2.heap.size) := aa (by rw [← hW2]; simp)
 rw [hW2] at HB2 HT2 ⊢
 clear hW2 HB1
 obtain ⟨gt, hgt⟩ : ∃ g, w1.heap.size = g := ⟨_, rfl⟩
 rw [hgt] at HT2 HSN ⊢
 clear hgt
 have nW := aa ((Below.refl W2.heap.size W2).drew)
 have zO := aa (HT2.out.below nW.out)
 have HB3 := aa (ag HB2.out nW.out)
 obtain ⟨Wd, hWd⟩ : ∃ u, W2.drew = u := ⟨_, rfl⟩
 refine bD (S := fun w' => True) (E := []) (by kernel_rfl) (trivial) (fun hHeld => ?_)
 refine bN 0 ?_
 refine bN 2 ?_
 refine bN 4 ?_
 refine bW 1 fun K hK => ?_
 go_simp
 try rw [hWd]
 rw [hWd] at nW zO HB3
 refine (Tryz.bytes_Clone_at ⟨gt, 0, none⟩ 32 32 t _ xS.out (by decide) (zO.out.sk.at_add xS.out)).mono ?_
 rintro e w3 ⟨v3, rfl, ho3, ac3, hb3⟩
 refine hK.out _ _ ?_ (fun hHeld => ?_)
 · trivial
 clear hK K
 try simp only [qq]
 refine bW 3 fun K hK => ?_
 have Qd := aa (HS.out.below (ag HB3.out hb3))
 have HT3 := aa (zO.out.below hb3)
 have hbz := hb3.size
 refine step_append_lies _ (by rfl) _ _ _ (by rfl) (Wd.heap.size) 5 i0 _ 1 1 Tryz.underlying114 hi hz0 hz1 hz2 rfl (by omega) v3 32 (t.map (.int .u8)) (by rfl) (ho3) ⟨gt, 0, none⟩ 32 32 (t.map (.int .u8)) (by rfl) (by simp [xS.out, hn.out]) (HT3.out.sk.news) (ints_oneCell .u8 _) (by omega) (by unfold maxLen; omega) (by omega) (by omega) (w3.heap.size) (rfl) ?_
 intro g4 cap4 w4 sD pM V9 Zy
 have jF := aa (Below.grown hb3 pM (by omega) (fun j hj => (World.ownsRow.lt ho3 j hj).1))
 refine hK.out _ _ ?_ (fun hHeld => ?_)
 · trivial
 clear hK K
 try simp only [qq]
 refine bW 5 fun K hK => ?_
 have xU := aa ((HS.out.below HB3.out).below jF.out)
 have ZG := jF.out.size
 refine step_append_lies _ (by rfl) _ _ _ (by rfl) (Wd.heap.size) 5 i0 _ 1 1 Tryz.underlying114 hi hz0 hz1 hz2 rfl (by omega) (.slice (some ⟨g4, 0, none⟩) (32 + 32) cap4) (32 + 32) (t.map (.int .u8) ++ t.map (.int .u8)) (by rfl) (sD) ⟨b, o, none⟩ n c (l.map (.int .u8)) (by rfl) (by simp [xS.out, hn.out]) (xU.out.news) (ints_oneCell .u8 _) (by omega) (by unfold maxLen; omega) (by omega) (by omega) (w4.heap.size) (rfl) ?_
 intro g5 cap5 w5 hown5 pK Tc SV
 have l8 := aa (Below.grown jF.out pK (by omega) (fun j hj => (World.ownsRow.lt sD j hj).1))
 have vS : Hid (aQ .u8 5 w5 Wd.heap.size (.slice (some ⟨g5, 0, none⟩) (32 + 32 + n) cap5) (t ++ t ++ l)) := aa (aQ.app (by rw [List.length_append, xS.out]) hn.out.symm (by rw [List.map_append]; exact hown5))
 refine hK.out _ _ ?_ (fun hHeld => ?_)
 · trivial
 clear hK K
 try simp only [qq]
 refine bW 6 fun K hK => ?_
 go_simp
 have BG := vS.out.skAt (by simp [hn.out]; omega)
 refine (GU g5 0 cap5 (t ++ t ++ l) (32 + 32 + n) (aa (by simp [hn.out, xS.out]; omega)) (by omega) (aa (by rw [dG, dG, HTB.out, hby.out]; rfl)) _ (aa BG) (aa ((HV.out.below HB3.out).below l8.out))).mono ?_
 rintro e w6 ⟨rfl, hb6⟩
 have sN := aa (l8.out.trans (hb6.mono l8.out.size))
 refine hK.out _ _ ?_ (fun hHeld => ?_)
 · trivial
 clear hK K
 try simp only [qq]
 refine bW 7 fun K hK => ?_
 rw [show (if Region.wanted _ _ = true then _ else _ : Prop) = _ from if_pos rfl]
 refine wp_store_row 41 _ _ rfl w.heap.size (arr .u8 (o_ (t ++ t ++ l))) rfl rfl 41 _ (((ek.out.below HB3.out)).below sN.out) (ax (f_ _)) (dY rfl (f_ _)) (cu _) ?_
 refine hK.out _ _ ?_ (fun hHeld => ?_)
 · trivial
 clear hK K
 try simp only [qq]
 refine bN 8 ?_
 refine gz ?_
 have HRR : Hid (bB .u8 41 (w6.setRow w.heap.size (arr .u8 (o_ (t ++ t ++ l)))) w.heap.size (o_ (t ++ t ++ l))) := aa ((ek.out.below HB3.out).below sN.out).setRow
 have fA : Hid (Below w.heap.size w (w6.setRow w.heap.size (arr .u8 (o_ (t ++ t ++ l))))) := aa (aj (ag bQ.out (ag HB3.out sN.out)) (Nat.le_refl _))
 have Xe : Kp (tagged (aU s) l = o_ (t ++ t ++ l)) := ⟨by rw [tagged, HT.out]⟩
 obtain ⟨R, hR⟩ : ∃ R, o_ (t ++ t ++ l) = R := ⟨_, rfl⟩
 have hRl : R.length = 32 := by rw [← hR]; exact f_ _
 rw [hR] at HRR fA Xe ⊢
 obtain ⟨w8, hw8⟩ : ∃ u, w6.setRow w.heap.size (arr .u8 R) = u := ⟨_, rfl⟩
 rw [hw8] at HRR fA ⊢
 have Ut : Kp ((loadVar 41 ⟨w.heap.size, 0, none⟩).run Tryz.prog w8 = .ok (.agg (arr .u8 R)) w8) := ⟨run_loadVar_row _ _ _ _ _ _ _ HRR.out Tryz.underlying41 rfl (ax hRl)⟩
 clear hR hRl hw8
 go_wp2
 exact bodyPost_ret (v := lF R) (cK (p := 4) (q := 5) (ty := 41) rfl _ _ ⟨w.heap.size, 0, none⟩ _ _ rfl rfl Ut.out) rfl ⟨by rw [Xe.out], fA.out⟩
theorem mE {K : IntKind} {T : TypeId} (w : World) : aQ K T (w.alloc (.cells #[] T)) w.heap.size (.slice (some ⟨w.heap.size, 0, none⟩) 0 0) [] :=
 ⟨rfl, Or.inr ⟨w.heap.size, 0, #[], rfl, Nat.le_refl _, heap_alloc_new _ _, Nat.le_refl _, by decide, rfl, rfl⟩⟩
theorem Fq (n : Int) (w : World) : Calls Tryz.prog 234 #[.int .i64 n] w (zi .u8 5 (qx n) w) := by
 obtain ⟨i0, hi, hz0, hz1, hz2⟩ := info_parts dO
 go_in
 go_wp2
 go_loopw [3, 4] (fun v i u => ∃ k : Nat, k ≤ 8 ∧ i = .int .i64 (7 - (k : Int)) ∧ Hid (aQ .u8 5 u w.heap.size v ((qx n).take k)) ∧ Hid (Below w.heap.size w u)) (fun _ i _ => (intOf i + 1).toNat)
 case atStart => exact ⟨0, by omega, rfl, aa (qM _ _), aa (Below.refl _ _)⟩
 case round =>
  obtain ⟨k, hk, rfl, HO, au⟩ := hrel
  by_cases hlt : k < 8
  ·
   obtain ⟨q, hq⟩ : ∃ q, n / 2 ^ (56 - 8 * k) = q := ⟨_, rfl⟩
   have xu : Hid ((qx n).take (k + 1) = (qx n).take k ++ [q % 256]) := aa (by rw [take_one (by rw [fH]; exact hlt), Ih n k hlt, hq])
   have qB : Hid (((qx n).take k).length = k) := aa (by rw [List.length_take, fH]; omega)
   have j0 : (0 : Int) ≤ 8 * (7 - (k : Int)) := by omega
   have j1 : (8 * (7 - (k : Int))).toNat = 56 - 8 * k := by omega
   have hown := HO.out.row qB.out
   have hbs := au.out.size
   have d1 : (0 : Int) ≤ 7 - (k : Int) := by omega
   go_wp2_with (at_builtin; refine wpList_append_own _ rfl _ _ 114 rfl w.heap.size 5 i0 (.int .u8 0) 1 1 Tryz.underlying114 hi hz0 hz1 hz2 rfl (by decide) _ _ _ rfl (hown.alloc _) ⟨wr.heap.size, 0, none⟩ 1 1 [.int .u8 (q % 256)] rfl rfl (cell_one_new _ _ _) (ints_oneCell .u8 [(q % 256)]) (by unfold maxLen; omega) (by omega) (by simp; omega) ?_; intro v2 w2 hown2 hgrow2 _)
   have lU : Hid (aQ .u8 5 w2 w.heap.size v2 ((qx n).take (k + 1))) := aa (by
    rw [xu.out]
    exact aQ.app qB.out.symm rfl hown2)
   have qd : Hid (Below w.heap.size w w2) := aa (HO.out.below au.out hbs hgrow2)
   clear hown hown2 hgrow2 HO
   go_roundw
   case rel => exact ⟨k + 1, by omega, by go_num, lU, qd⟩
   case measure => simp [intOf]; omega
  ·
   have lU : Hid (aQ .u8 5 wr w.heap.size u3 (qx n)) := aa (by
    have h := HO.out
    rwa [show k = (qx n).length by rw [fH]; omega, List.take_length] at h)
   have d1 : 7 - (k : Int) < 0 := by omega
   clear HO
   go_wp2
   go_ret
   exact ⟨_, rfl, lU.out, au.out⟩
theorem Dh (b o c : Nat) (l : List Int) (n : Nat) (hn : Hid (l.length = n)) (hn0 : 0 < n) (hbig : n ≤ 1000000) (w : World) (hs : Hid (Sk .u8 w (some ⟨b, o, none⟩) l)) :
  Calls Tryz.prog 212 #[.slice (some ⟨b, o, none⟩) n c] w (zi .u8 5 (mU l) w) := by
 obtain ⟨i0, hi, hz0, hz1, hz2⟩ := info_parts dO
 go_in
 have Uo := aa (mE (K := .u8) (T := 5) w)
 have HBE := aa (af w (.cells #[] 5))
 have QZ := aa (hs.out.below HBE.out)
 clear hs
 have hown : (w.alloc (.cells #[] 5)).ownsRow w.heap.size 5 1 (.slice (some ⟨w.heap.size, 0, none⟩) 0 0) 0 [] := Uo.out
 have lG : Hid (w.heap.size < (w.alloc (.cells #[] 5)).heap.size) := aa (by simp)
 go_wp2_with (first
  | ((at_builtin; refine wpList_append_own _ rfl _ _ 114 rfl w.heap.size 5 i0 (.int .u8 0) 1 1 Tryz.underlying114 hi hz0 hz1 hz2 rfl (by decide) _ _ _ rfl hown ⟨b, o, none⟩ n c (l.map (.int .u8)) rfl (by simp [hn.out, fH]) (QZ.out.news) (ints_oneCell .u8 _) (by unfold maxLen; omega) (by omega) (by simp) ?_; intro v1 w1 hown1 hgrow1 _); have zm : Hid (aQ .u8 5 w1 w.heap.size v1 l) := aa (aQ.app (xs := []) (ys := l) (m := n) rfl hn.out.symm hown1); have JS : Hid (Below w.heap.size w w1) := aa (Uo.out.below0 HBE.out (by simp) hgrow1); clear hown hown1 hgrow1 Uo QZ; have hbs := JS.out.size; have hown := zm.out.row hn.out)
  | (at_builtin; refine wpList_append_own _ rfl _ _ 114 rfl w.heap.size 5 i0 (.int .u8 0) 1 1 Tryz.underlying114 hi hz0 hz1 hz2 rfl (by decide) _ _ _ rfl (hown.alloc _) ⟨w1.heap.size, 0, none⟩ 1 1 [.int .u8 128] rfl rfl (cell_one_new _ _ _) (ints_oneCell .u8 [128]) (by unfold maxLen; omega) (by omega) (by simp; omega) ?_; intro v2 w2 hown2 hgrow2 _))
 have qA : Hid (aQ .u8 5 w2 w.heap.size v2 (l ++ [128])) := aa (aQ.app hn.out.symm rfl hown2)
 have UI : Hid (Below w.heap.size w w2) := aa (zm.out.below JS.out hbs hgrow2)
 clear hown hown2 hgrow2 zm hbs JS
 obtain ⟨A2, c2, e2, _⟩ := qA.out.sk
 rw [List.length_append, hn.out, List.length_singleton] at e2
 subst e2
 go_loopw [3] (fun p u => ∃ (N : Nat) (A : Option Addr) (cap : Nat), n + 1 ≤ N ∧ N ≤ n + 1 + kR n ∧ p = .slice A N cap ∧ Hid (aQ .u8 5 u w.heap.size p (l ++ [128] ++ List.replicate (N - n - 1) 0)) ∧ Hid (Below w.heap.size w u)) (fun p _ => n + 65 - lenOf p)
 case atStart => exact ⟨n + 1, A2, c2, Nat.le_refl _, by omega, rfl, aa (by rw [show n + 1 - n - 1 = 0 by omega]; simpa using qA.out), UI⟩
 case round =>
  obtain ⟨N, A, cap, hN0, hN1, rfl, HO, au⟩ := hrel
  have hpz : kR n < 64 := by unfold kR; omega
  have hll : (l ++ [128] ++ List.replicate (N - n - 1) 0).length = N := by simp [hn.out]; omega
  by_cases hend : N % 64 = 56
  ·
   have HN : Hid (N = n + 1 + kR n) := aa (by unfold kR at hN1 hpz ⊢; omega)
   have t1 : ((N : Int) % 64 == 56) = true := by simp; omega
   have t2 : ((N : Int) % 64 != 56) = false := by simp; omega
   clear hend
   go_wp2_with fail
   refine (Fq _ _).mono ?_
   rintro e w3 ⟨vb, rfl, l5, hb3⟩
   obtain ⟨gb, aag, rfl, hgb, hcb, adi, V3⟩ := aQ.cells l5 (show 0 < 8 by decide)
   have lU := aa (HO.out.keep hb3)
   have qd := aa (au.out.trans (hb3.mono au.out.size))
   have NV := aa V3
   have hbs := qd.out.size
   have hown := lU.out.row hll
   have Qg := aa hll
   clear V3 l5 hb3 HO au hll
   go_wp2_with (at_builtin; refine wpList_append_own _ rfl _ _ 114 rfl w.heap.size 5 i0 (.int .u8 0) 1 1 Tryz.underlying114 hi hz0 hz1 hz2 rfl (by decide) _ _ _ rfl hown ⟨gb, 0, none⟩ 8 aag ((qx (8 * (n : Int))).map (.int .u8)) rfl (by simp [hn.out, fH]) (NV.out.news) (ints_oneCell .u8 _) (by unfold maxLen kR at *; omega) (by unfold kR at *; omega) (by omega) ?_; intro v4 w4 hown2 hgrow2 _)
   have xV : Hid (aQ .u8 5 w4 w.heap.size v4 (mU l)) := aa (by
    have h := aQ.app (ys := qx (8 * (n : Int))) Qg.out.symm rfl hown2
    have e : l ++ [128] ++ List.replicate (N - n - 1) 0 ++ qx (8 * (n : Int)) = mU l := by
     rw [mU, hn.out, show N - n - 1 = kR n by have := HN.out; omega]
    rwa [e] at h)
   have GH : Hid (Below w.heap.size w w4) := aa (lU.out.below0 qd.out hbs hgrow2)
   clear hown hown2 hgrow2 lU NV qd hbs Qg HN t1 t2
   go_wp2
   go_ret
   exact ⟨_, rfl, xV.out, GH.out⟩
  ·
   have hN : N < n + 1 + kR n := by unfold kR at hN1 hpz ⊢; omega
   have t1 : ((N : Int) % 64 == 56) = false := by simp; omega
   have t2 : ((N : Int) % 64 != 56) = true := by simp; omega
   have hown := HO.out.row hll
   have hbs := au.out.size
   have Qg := aa hll
   clear hend hll
   go_wp2_with (at_builtin; refine wpList_append_own _ rfl _ _ 114 rfl w.heap.size 5 i0 (.int .u8 0) 1 1 Tryz.underlying114 hi hz0 hz1 hz2 rfl (by decide) _ _ _ rfl (hown.alloc _) ⟨wr.heap.size, 0, none⟩ 1 1 [.int .u8 0] rfl rfl (cell_one_new _ _ _) (ints_oneCell .u8 [0]) (by unfold maxLen; omega) (by omega) (by simp; omega) ?_; intro v2 w2 hown2 hgrow2 _)
   have lU : Hid (aQ .u8 5 w2 w.heap.size v2 (l ++ [128] ++ List.replicate (N + 1 - n - 1) 0)) := aa (by
    rw [show N + 1 - n - 1 = (N - n - 1) + 1 by omega, Dj, ← List.append_assoc]
    exact aQ.app Qg.out.symm rfl hown2)
   have qd : Hid (Below w.heap.size w w2) := aa (HO.out.below au.out hbs hgrow2)
   clear hown hown2 hgrow2 HO
   obtain ⟨A3, c3, e3, _⟩ := lU.out.sk
   have e4 : (l ++ [128] ++ List.replicate (N + 1 - n - 1) 0).length = N + 1 := by simp [hn.out]; omega
   rw [e4] at e3
   subst e3
   clear e4
   go_wp2
   go_roundw
   case rel => exact ⟨N + 1, A3, c3, by omega, by omega, rfl, lU, qd⟩
   case measure => simp [lenOf]; omega
theorem Fj (w : World) :
  Calls Tryz.prog 211 #[] w fun e w' => e = .returned (.slice (some ⟨w.heap.size, 0, none⟩) 64 64) ∧ w.alloc (.cells (arr .u32 KL) 209) = w' := by
 go_in
 go_wp2
 go_ret
 exact ⟨rfl, rfl⟩
inductive It where
 | int (n : Int)
 | byt (b : List Int)
 | lst (l : List It)
def fits : Nat → It → Prop
 | _, .int n => -9223372036854775808 ≤ n ∧ n < 9223372036854775808
 | _, .byt b => (0 < b.length ∧ b.length < 1000000) ∧ az b = true
 | 0, .lst _ => False
 | d + 1, .lst l => l.length ≤ 1000 ∧ ∀ x ∈ l, fits d x
def ug (n : Int) : List Int := [n / 16777216 % 256, n / 65536 % 256, n / 256 % 256, n % 256]
theorem dV (n : Int) : (ug n).length = 4 := rfl
mutual
def enc : It → List Int
 | .int n => 1 :: qx (n % 18446744073709551616)
 | .byt b => 2 :: (ug b.length ++ b)
 | .lst l => 3 :: (ug l.length ++ eZ l)
def eZ : List It → List Int
 | [] => []
 | i :: l => enc i ++ eZ l
end
theorem uQ (a b : List It) : eZ (a ++ b) = eZ a ++ eZ b := by
 induction a with
 | nil => simp [eZ]
 | cons x a ih => simp [eZ, ih]
theorem Ef (x : It) : eZ [x] = enc x := by simp [eZ]
theorem lS (n : Int) : enc (.int n) = 1 :: qx (n % 18446744073709551616) := by simp [enc]
theorem h_ (b : List Int) : enc (.byt b) = 2 :: (ug b.length ++ b) := by simp [enc]
theorem eH (l : List It) : enc (.lst l) = 3 :: (ug l.length ++ eZ l) := by simp [enc]
theorem nD (i : It) : 0 < (enc i).length := by cases i <;> simp [enc]
instance abw : Inhabited It := ⟨.int 0⟩
theorem oG {l : List It} {k : Nat} (hk : k < l.length) : eZ (l.take (k + 1)) = eZ (l.take k) ++ enc (l.getD k default) := by
 rw [List.take_add_one, List.getElem?_eq_getElem hk, List.getD_eq_getElem?_getD, List.getElem?_eq_getElem hk, uQ]
 simp [eZ]
theorem pV {l : List It} {k : Nat} : (eZ (l.take k)).length ≤ (eZ l).length := by
 conv => rhs; rw [← List.take_append_drop k l]
 rw [uQ, List.length_append]
 omega
theorem oF {i : It} {d : Nat} (h : fits d i) : ∀ {e : Nat}, d ≤ e → fits e i := by
 induction d generalizing i with
 | zero =>
  intro e he
  cases i with
  | int n => cases e <;> exact h
  | byt b => cases e <;> exact h
  | lst l => exact absurd h (by simp [fits])
 | succ d ih =>
  intro e he
  cases i with
  | int n => cases e <;> exact h
  | byt b => cases e <;> exact h
  | lst l =>
   cases e with
   | zero => omega
   | succ e => exact ⟨h.1, fun x hx => ih (h.2 x hx) (by omega)⟩
theorem vR (n : Int) : az (ug n) = true := by simp [az, ug, yQ]
theorem jO {d : Nat} {i : It} (h : fits d i) : az (enc i) = true := by
 induction d generalizing i with
 | zero =>
  cases i with
  | int n => rw [lS, show (1 :: qx (n % 18446744073709551616) : List Int) = [1] ++ qx (n % 18446744073709551616) from rfl, dG, vQ]; rfl
  | byt b => rw [h_, show (2 :: (ug b.length ++ b) : List Int) = [2] ++ (ug b.length ++ b) from rfl, dG, dG, vR, h.2]; rfl
  | lst l => exact absurd h (by simp [fits])
 | succ d ih =>
  cases i with
  | int n => rw [lS, show (1 :: qx (n % 18446744073709551616) : List Int) = [1] ++ qx (n % 18446744073709551616) from rfl, dG, vQ]; rfl
  | byt b => rw [h_, show (2 :: (ug b.length ++ b) : List Int) = [2] ++ (ug b.length ++ b) from rfl, dG, dG, vR, h.2]; rfl
  | lst l =>
   rw [eH, show (3 :: (ug l.length ++ eZ l) : List Int) = [3] ++ (ug l.length ++ eZ l) from rfl, dG, dG, vR]
   have hl : ∀ (m : List It), (∀ x ∈ m, fits d x) → az (eZ m) = true := by
    intro m hm
    induction m with
    | nil => rfl
    | cons x m ihm => rw [eZ, dG, ih (hm x (by simp)), ihm (fun y hy => hm y (by simp [hy]))]; rfl
   rw [hl l h.2]; rfl
structure Ic where
 (kind n : Int)
 (B : Option Addr)
 (nb cb : Nat)
 (L : Option Addr)
 (nl cl : Nat)
def Ic.cs (c : Ic) : Array Value := #[.int .i64 c.kind, .int .i64 c.n, .slice c.B c.nb c.cb, .slice c.L c.nl c.cl]
def Ic.val (c : Ic) : Value := .agg c.cs
def Four (w : World) (b o : Nat) (c : Ic) : Prop := w.cell? ⟨b, o, none⟩ = some (.int .i64 c.kind) ∧ w.cell? ⟨b, o + 1, none⟩ = some (.int .i64 c.n) ∧ w.cell? ⟨b, o + 2, none⟩ = some (.slice c.B c.nb c.cb) ∧ w.cell? ⟨b, o + 3, none⟩ = some (.slice c.L c.nl c.cl)
theorem Four.below {w w' : World} {b o : Nat} {c : Ic} (h : Four w b o c) (hb : Below w.heap.size w w') : Four w' b o c :=
 ⟨cell_below h.1 hb, cell_below h.2.1 hb, cell_below h.2.2.1 hb, cell_below h.2.2.2 hb⟩
inductive nO (w : World) : It → Ic → Prop
 | int (n : Int) (c : Ic) (h1 : c.kind = 1) (h2 : c.n = n) (h3 : c.nb = 0) (h4 : c.nl = 0) : nO w (.int n) c
 | byt (b : List Int) (c : Ic) (h1 : c.kind = 2) (h2 : c.n = 0) (h3 : c.nb = b.length) (h4 : c.nl = 0) (h5 : Sk .u8 w c.B b) : nO w (.byt b) c
 | lst (l : List It) (c : Ic) (h1 : c.kind = 3) (h2 : c.n = 0) (h3 : c.nb = 0) (h4 : c.nl = l.length) (f : Nat → Ic)
   (h5 : ∀ k, k < l.length → ∃ b o, c.L = some ⟨b, o, none⟩ ∧ Four w b (o + k * 4) (f k)) (h6 : ∀ k, k < l.length → nO w (l.getD k default) (f k)) : nO w (.lst l) c
theorem nO.kept {w w' : World} {i : It} {c : Ic} (h : nO w i c) (hb : Below w.heap.size w w') : nO w' i c := by
 induction h with
 | int n c h1 h2 h3 h4 => exact .int n c h1 h2 h3 h4
 | byt b c h1 h2 h3 h4 h5 => exact .byt b c h1 h2 h3 h4 (h5.below hb)
 | lst l c h1 h2 h3 h4 f h5 h6 ih =>
  refine .lst l c h1 h2 h3 h4 f (fun k hk => ?_) ih
  obtain ⟨b, o, e, h⟩ := h5 k hk
  exact ⟨b, o, e, h.below hb⟩
theorem D9 {w w1 w2 : World} {r r1 : Option Nat} (h : w.grownBy w1 r) (h2 : w1.grownBy w2 r1) (hr : r1 = r ∨ ∀ g, r1 = some g → w.heap.size ≤ g) : w.grownBy w2 r := by
 refine ⟨h2.os.trans h.os, h2.tape.trans h.tape, h2.output.trans h.output, Nat.le_trans h.size h2.size, fun k hk hne => ?_⟩
 refine (h2.block k (Nat.lt_of_lt_of_le hk h.size) ?_).trans (h.block k hk hne)
 intro e
 rcases hr with hr | hr
 · exact hne (by rw [e, hr])
 · have := hr k e.symm; omega
def App (base : Nat) (w : World) (v : Value) (xs ys : List Int) (w' : World) (v' : Value) : Prop :=
 aQ .u8 5 w' base v' (xs ++ ys) ∧ w.grownBy w' v.ownBlock ∧ (v'.ownBlock = v.ownBlock ∨ ∀ g, v'.ownBlock = some g → w.heap.size ≤ g)
theorem App.refl {base : Nat} {w : World} {v : Value} {xs : List Int} (h : aQ .u8 5 w base v xs) : App base w v xs [] w v :=
 ⟨by rw [List.append_nil]; exact h, World.grownBy.refl _ _, Or.inl rfl⟩
theorem App.trans {base : Nat} {w w1 w2 : World} {v v1 v2 : Value} {xs ys zs : List Int} (h : App base w v xs ys w1 v1) (h2 : App base w1 v1 (xs ++ ys) zs w2 v2) : App base w v xs (ys ++ zs) w2 v2 := by
 refine ⟨by rw [← List.append_assoc]; exact h2.1, D9 h.2.1 h2.2.1 h.2.2, ?_⟩
 rcases h2.2.2 with e | e
 ·
  rcases h.2.2 with e1 | e1
  · exact Or.inl (e.trans e1)
  · exact Or.inr fun g hg => e1 g (e ▸ hg)
 · exact Or.inr fun g hg => Nat.le_trans h.2.1.size (e g hg)
theorem App.alloc {base : Nat} {w : World} {v : Value} {xs : List Int} (h : aQ .u8 5 w base v xs) (o : Obj) : App base w v xs [] (w.alloc o) v :=
 ⟨by rw [List.append_nil]; exact h.keep (af _ _), World.grownBy_alloc _ _ _, Or.inl rfl⟩
theorem App.pre {base : Nat} {w w1 w2 : World} {v v1 v2 : Value} {xs ys : List Int} (h : App base w v xs [] w1 v1) (h2 : App base w1 v1 xs ys w2 v2) : App base w v xs ys w2 v2 := by
 have h3 : App base w v xs ([] ++ ys) w2 v2 := h.trans (by rw [List.append_nil]; exact h2)
 exact h3
theorem App.calm {base : Nat} {w w1 : World} {v : Value} {xs : List Int} (h : aQ .u8 5 w base v xs) (hb : Below w.heap.size w w1) : App base w v xs [] w1 v :=
 ⟨by rw [List.append_nil]; exact h.keep hb, ⟨hb.os, hb.tape, hb.output, hb.size, fun k hk _ => hb.block k hk⟩, Or.inl rfl⟩
theorem App.below {B base : Nat} {w0 w w' : World} {v v' : Value} {xs ys : List Int} (h : App base w v xs ys w' v') (ho : aQ .u8 5 w base v xs) (hb : Below B w0 w) (hB : B ≤ base) (hBw : B ≤ w.heap.size) : Below B w0 w' :=
 hb.grown h.2.1 hBw (fun j hj => Nat.le_trans hB (aQ.lt ho j hj).1)
theorem App.cell {base : Nat} {w w' : World} {v v' : Value} {xs ys : List Int} (h : App base w v xs ys w' v') {p : Addr} {u : Value} (hc : w.cell? p = some u) (hne : v.ownBlock ≠ some p.block) : w'.cell? p = some u :=
 h.2.1.cell hc (Ne.symm hne)
theorem App.of_lies {base n m : Nat} {w w1 : World} {v : Value} {xs ys : List Int} {g cap H : Nat} (hn : xs.length = n) (hm : ys.length = m) (hH : w.heap.size = H)
  (h1 : w1.ownsRow base 5 1 (.slice (some ⟨g, 0, none⟩) (n + m) cap) (n + m) (xs.map (Value.int .u8) ++ ys.map (Value.int .u8))) (h2 : w.grownBy w1 v.ownBlock) (h3 : v.ownBlock = some g ∨ g = H) : App base w v xs ys w1 (.slice (some ⟨g, 0, none⟩) (n + m) cap) :=
 ⟨aQ.app hn.symm hm.symm h1, h2, h3.elim (fun e => Or.inl e.symm) (fun e => Or.inr fun k hk => by cases hk; show w.heap.size ≤ g; omega)⟩
section
variable {P : Program}
theorem wpList_append_lies {ops : Array Oper} {rest : List Oper} {o : Oper} {a : Act} {w : World} {Q : Exit → Act → World → Prop} (hgd : o.guard = none) (s x : Operand) (t : TypeId)
  (ho : o.op = .call { callee := .builtin .append, args := #[s, x], argTypes := #[t, t] })
  (base : Nat) (e : TypeId) (i : TypeInfo) (z : Value) (size bytes : Nat) (ht : P.underlying t = some (.slice e)) (hi : P.info? e = some i) (hz : i.zero = some z)
  (hsize : i.size = size) (hby : i.bytes = bytes) (hzs : z.cells.size = size) (hsz : 0 < size)
  (v : Value) (n : Nat) (xs : List Value) (hs : a.eval s = v) (hown : w.ownsRow base e size v n xs)
  (ad : Addr) (m c : Nat) (news : List Value) (hx : a.eval x = .slice (some ad) m c) (hl : news.length = m * size) (hnews : ∀ j u, news[j]? = some u → w.cell? (ad.add j) = some u) (h1 : ∀ u ∈ news, u.oneCell' = true)
  (hm : 0 < m) (h63 : n + m ≤ maxLen) (hbytes : (n + m) * bytes ≤ 140737488355328) (hbase : base ≤ w.heap.size) (H : Nat) (hH : w.heap.size = H)
  (h : ∀ g cap w', w'.ownsRow base e size (.slice (some ⟨g, 0, none⟩) (n + m) cap) (n + m) (xs ++ news) → w.grownBy w' v.ownBlock → (v.ownBlock = some g ∨ g = H) → g < w'.heap.size → wpList P ops Q rest (a.put o.dst (.slice (some ⟨g, 0, none⟩) (n + m) cap)) w') :
  wpList P ops Q (o :: rest) a w :=
 wpList_plain hgd fun _ hK => wp_append_lies w s x t ho base e i z size bytes ht hi hz hsize hby hzs hsz v n xs hs hown ad m c news hx hl hnews h1 hm h63 hbytes hbase H hH fun g cap w' a1 a2 a3 a4 => hK _ _ (h g cap w' a1 a2 a3 a4)
end
def p9 (s : Nat) (n : Int) : List Int := if s = 8 then qx n else ug n
theorem iN {s : Nat} (h : s = 4 ∨ s = 8) (n : Int) : (p9 s n).length = s := by rcases h with rfl | rfl <;> rfl
theorem BV {s : Nat} (h : s = 4 ∨ s = 8) (n : Int) (j : Nat) (hj : j < s) : (p9 s n).getD j 0 = n / 2 ^ (8 * (s - 1 - j)) % 256 := by
 rcases h with rfl | rfl
 · rcases (show j = 0 ∨ j = 1 ∨ j = 2 ∨ j = 3 by omega) with rfl | rfl | rfl | rfl <;> simp [p9, ug]
 · rcases (show j = 0 ∨ j = 1 ∨ j = 2 ∨ j = 3 ∨ j = 4 ∨ j = 5 ∨ j = 6 ∨ j = 7 by omega) with rfl | rfl | rfl | rfl | rfl | rfl | rfl | rfl <;> simp [p9, qx]
def rA (base : Nat) (v : Value) (xs ys : List Int) (w : World) (e : Ending) (w' : World) : Prop := ∃ v', e = .returned v' ∧ App base w v xs ys w' v'
theorem qV (base : Nat) (v : Value) (xs : List Int) (N : Nat) (n : Int) (s : Nat) (hs : s = 4 ∨ s = 8) (hN : Hid (xs.length = N)) (hbig : N ≤ 20000) (w : World) (ho : Hid (aQ .u8 5 w base v xs)) (hbase : base ≤ w.heap.size) :
  Calls Tryz.prog 233 #[v, .int .u64 n, .int .i64 s] w (rA base v xs (p9 s n) w) := by
 obtain ⟨i0, hi, hz0, hz1, hz2⟩ := info_parts dO
 have s1 : 4 ≤ s := by omega
 have s2 : s ≤ 8 := by omega
 have CB := aa hs
 clear hs
 go_in
 go_wp2
 go_loopw [0, 7] (fun p i u => ∃ k : Nat, k ≤ s ∧ i = .int .i64 ((s : Int) - 1 - (k : Int)) ∧ Hid (App base w v xs ((p9 s n).take k) u p)) (fun _ i _ => (intOf i + 1).toNat)
 case atStart => exact ⟨0, by omega, by simp, aa (App.refl ho.out)⟩
 case round =>
  obtain ⟨k, hk, rfl, HA⟩ := hrel
  by_cases hlt : k < s
  ·
   obtain ⟨q, hq⟩ : ∃ q, n / 2 ^ (8 * (s - 1 - k)) = q := ⟨_, rfl⟩
   have xu : Hid ((p9 s n).take (k + 1) = (p9 s n).take k ++ [q % 256]) := aa (by rw [take_one (by rw [iN CB.out]; exact hlt), BV CB.out n k hlt, hq])
   have qB : Hid ((xs ++ (p9 s n).take k).length = N + k) := aa (by rw [List.length_append, List.length_take, iN CB.out, hN.out]; omega)
   have j0 : (0 : Int) ≤ 8 * ((s : Int) - 1 - (k : Int)) := by omega
   have j1 : (8 * ((s : Int) - 1 - (k : Int))).toNat = 8 * (s - 1 - k) := by omega
   have hown := (HA.out.1.row qB.out)
   have hbs : base ≤ wr.heap.size := Nat.le_trans hbase HA.out.2.1.size
   have d1 : (0 : Int) ≤ (s : Int) - 1 - (k : Int) := by omega
   go_wp2_with (at_builtin; refine wpList_append_lies rfl _ _ 114 rfl base 5 i0 (.int .u8 0) 1 1 Tryz.underlying114 hi hz0 hz1 hz2 rfl (by decide) _ _ _ rfl (hown.alloc _) ⟨wr.heap.size, 0, none⟩ 1 1 [.int .u8 (q % 256)] rfl rfl (cell_one_new _ _ _) (ints_oneCell .u8 [q % 256]) (by decide) (by unfold maxLen; omega) (by omega) (by simp; omega) _ rfl ?_; intro g cap w2 hown2 hgrow2 vN hlt2)
   have HA2 := App.of_lies (v := u0) (xs := xs ++ (p9 s n).take k) (ys := [q % 256]) qB.out rfl rfl hown2 hgrow2 vN
   have IG : Hid (App base w v xs ((p9 s n).take (k + 1)) w2 (.slice (some ⟨g, 0, none⟩) (N + k + 1) cap)) := aa (by
    rw [xu.out]
    exact HA.out.trans ((App.alloc HA.out.1 _).pre HA2))
   clear hown hown2 hgrow2 vN HA HA2
   go_roundw
   case rel => exact ⟨k + 1, by omega, by go_num, IG⟩
   case measure => simp [intOf]; omega
  ·
   have HF : Hid (App base w v xs (p9 s n) wr u0) := aa (by
    have h := HA.out
    rwa [show k = (p9 s n).length by rw [iN CB.out]; omega, List.take_length] at h)
   have d1 : (s : Int) - 1 - (k : Int) < 0 := by omega
   clear HA
   go_wp2
   go_ret
   exact ⟨_, rfl, HF.out⟩
def sw (c : Ic) : Obj := .cells #[.int .i64 c.kind, .int .i64 c.n, .slice c.B c.nb c.cb, .slice c.L c.nl c.cl] 117
theorem gJ (w : World) (c : Ic) : Four (w.alloc (sw c)) w.heap.size 0 c := by
 have h := heap_alloc_new w (sw c)
 exact ⟨ak h 0, ak h 1, ak h 2, ak h 3⟩
theorem Four.get {w : World} {b o : Nat} {c : Ic} (h : Four w b o c) : w.cell? ⟨b, o, none⟩ = some (.int .i64 c.kind) ∧ w.cell? ⟨b, o + 1, none⟩ = some (.int .i64 c.n) ∧ w.cell? ⟨b, o + 2, none⟩ = some (.slice c.B c.nb c.cb) ∧ w.cell? ⟨b, o + 3, none⟩ = some (.slice c.L c.nl c.cl) := h
def Nq (g : FuncId) (caps : Array Value) (l : List It) (f : Nat → Ic) (W : World) : Prop :=
 ∀ k, k < l.length → ∀ (w1 : World), Below W.heap.size W w1 → Calls Tryz.prog g (#[(f k).val] ++ caps) w1 fun e w' => e = .returned (.bool false) ∧ Below w1.heap.size w1 w'
theorem L6 (c0 : Value) (A : Option Addr) (l : List It) (f : Nat → Ic) (n c : Nat) (hn : Hid (l.length = n)) (hbig : n ≤ 1000) (w : World)
  (hs : Hid (∀ k, k < l.length → ∃ b o, A = some ⟨b, o, none⟩ ∧ Four w b (o + k * 4) (f k))) (hp : Hid (Nq 254 #[c0] l f w)) :
  Calls Tryz.prog 266 #[.slice A n c, .func (.func 254) #[] #[c0]] w (Rt w (.int .i64 (-1))) := by
 go_in
 go_wp2
 go_loopw [8] (fun i wr => ∃ k : Nat, k ≤ n ∧ i = .int .i64 k ∧ Hid (Below w.heap.size w wr)) (fun i _ => n - (intOf i).toNat)
 case atStart => exact ⟨0, by omega, rfl, aa (Below.refl _ _)⟩
 case round =>
  obtain ⟨k, hk, rfl, au⟩ := hrel
  by_cases hlt : k < n
  ·
   have hkl : k < l.length := by rw [hn.out]; exact hlt
   obtain ⟨b, o, hA, h4⟩ := hs.out k hkl
   subst hA
   have tQ := hp.out k hkl wr au.out
   obtain ⟨ic, hic⟩ : ∃ x, f k = x := ⟨_, rfl⟩
   rw [hic] at h4 tQ
   obtain ⟨kd, nn, B, nb, cb, L, nl, cl⟩ := ic
   obtain ⟨i0, i1, i2, i3⟩ := (h4.below au.out).get
   have HC : Hid (Calls Tryz.prog 254 #[.agg #[.int .i64 kd, .int .i64 nn, .slice B nb cb, .slice L nl cl], c0] wr fun e w' => e = .returned (.bool false) ∧ Below wr.heap.size wr w') := aa tQ
   clear h4 hkl hic tQ
   go_wp2_with fail
   refine HC.out.mono ?_
   rintro e w2 ⟨rfl, hb0⟩
   have HB2 := aa (ag au.out hb0)
   clear i0 i1 i2 i3 hb0 HC
   go_wp2
   go_roundw
   case rel => exact ⟨k + 1, by omega, by go_num, HB2⟩
   case measure => simp [intOf]; omega
  ·
   go_wp2
   go_ret
   exact ⟨rfl, au.out⟩
theorem PM (c0 : Value) (A : Option Addr) (l : List It) (f : Nat → Ic) (n c : Nat) (hn : Hid (l.length = n)) (hbig : n ≤ 1000) (w : World)
  (hs : Hid (∀ k, k < l.length → ∃ b o, A = some ⟨b, o, none⟩ ∧ Four w b (o + k * 4) (f k))) (hp : Hid (Nq 254 #[c0] l f w)) :
  Calls Tryz.prog 253 #[.slice A n c, .func (.func 254) #[] #[c0]] w (Rt w (.bool false)) := by
 go_in
 go_wp2_with fail
 refine (L6 c0 A l f n c hn hbig _ hs hp).mono ?_
 rintro e w' ⟨rfl, hb0⟩
 go_wp2
 go_ret
 exact ⟨rfl, hb0⟩
theorem IW (d D : Nat) (hD0 : 1 ≤ D) (hD : D ≤ 8) (a : Nat) (l : List It) (f : Nat → Ic) (hl : Hid (∀ x ∈ l, fits d x)) (w : World) (hx : Hid (w.cell? ⟨a, 0, none⟩ = some (.int .i64 (D : Int)))) (hr : Hid (∀ k, k < l.length → nO w (l.getD k default) (f k)))
  (ih : ∀ (i : It) (c : Ic) (w : World), fits d i → nO w i c → Calls Tryz.prog 232 #[c.val, .int .i64 ((D - 1 : Nat) : Int)] w (Rt w (.bool true))) :
  Nq 254 #[.pointer (some ⟨a, 0, none⟩)] l f w := fun k hk w1 hb => by
 have h1 := hl.out (l.getD k default) (by rw [List.getD_eq_getElem?_getD, List.getElem?_eq_getElem hk]; exact List.getElem_mem hk)
 have h2 := (hr.out k hk).kept hb
 obtain ⟨ic, hic⟩ : ∃ x, f k = x := ⟨_, rfl⟩
 rw [hic] at h2 ⊢
 obtain ⟨it, hit⟩ : ∃ x, l.getD k default = x := ⟨_, rfl⟩
 rw [hit] at h1 h2
 have hc0 := cell_below hx.out hb
 have NF := aa (ih it ic ((w1.alloc (sw ic))) h1 (h2.kept (af _ _)))
 obtain ⟨kd, nn, B, nb, cb, L, nl, cl⟩ := ic
 show Calls Tryz.prog 254 #[.agg #[.int .i64 kd, .int .i64 nn, .slice B nb cb, .slice L nl cl], .pointer (some ⟨a, 0, none⟩)] w1 fun e w' => e = .returned (.bool false) ∧ Below w1.heap.size w1 w'
 have hc : (w1.alloc (.cells #[.int .i64 kd, .int .i64 nn, .slice B nb cb, .slice L nl cl] 117)).cell? ⟨a, 0, none⟩ = some (.int .i64 (D : Int)) := cell_below hc0 (af _ _)
 have e1 : IntKind.i64.wrap ((D : Int) - 1) = (D : Int) - 1 := IntWalk.i64_in _ (by omega)
 have HE : Hid (((D - 1 : Nat) : Int) = (D : Int) - 1) := aa (by omega)
 clear h1 h2 hic hit hb hc0
 go_in
 go_wp2_with fail
 rw [← HE.out]
 refine NF.out.mono ?_
 rintro e w2 ⟨rfl, hb0⟩
 have hb1 := ag (af _ _) hb0
 clear hb0
 go_wp2
 go_ret
 exact ⟨rfl, hb1⟩
theorem yl (n : Int) (c : Ic) (w : World) (D : Nat) (h1 : c.kind = 1) (h3 : c.nb = 0) (h4 : c.nl = 0) : Calls Tryz.prog 232 #[c.val, .int .i64 (D : Int)] w (Rt w (.bool true)) := by
 obtain ⟨kd, nn, B, nb, cb, L, nl, cl⟩ := c
 dsimp only at h1 h3 h4
 subst h1; subst h3; subst h4
 show Calls Tryz.prog 232 #[.agg #[.int .i64 1, .int .i64 nn, .slice B 0 cb, .slice L 0 cl], .int .i64 (D : Int)] w (Rt w (.bool true))
 go_in
 go_wp2
 go_ret
 exact ⟨rfl, aI (Below.refl _ _)⟩
theorem ym (c : Ic) (w : World) (D : Nat) (h1 : c.kind = 2) (h2 : c.n = 0) (h4 : c.nl = 0) : Calls Tryz.prog 232 #[c.val, .int .i64 (D : Int)] w (Rt w (.bool true)) := by
 obtain ⟨kd, nn, B, nb, cb, L, nl, cl⟩ := c
 dsimp only at h1 h2 h4
 subst h1; subst h2; subst h4
 show Calls Tryz.prog 232 #[.agg #[.int .i64 2, .int .i64 0, .slice B nb cb, .slice L 0 cl], .int .i64 (D : Int)] w (Rt w (.bool true))
 go_in
 go_wp2
 go_ret
 exact ⟨rfl, aI (Below.refl _ _)⟩
theorem E9 : ∀ (d D : Nat), d ≤ D → D ≤ 8 → ∀ (i : It) (c : Ic) (w : World), fits d i → nO w i c → Calls Tryz.prog 232 #[c.val, .int .i64 (D : Int)] w (Rt w (.bool true)) := by
 intro d
 induction d with
 | zero =>
  intro D ZF hD i c w hf hr
  cases hr with
  | int n c h1 h2 h3 h4 => exact yl n c w D h1 h3 h4
  | byt b c h1 h2 h3 h4 h5 => exact ym c w D h1 h2 h4
  | lst l c h1 h2 h3 h4 f h5 h6 => exact absurd hf (by simp [fits])
 | succ d ih =>
  intro D ZF hD i c w hf hr
  cases hr with
  | int n c h1 h2 h3 h4 => exact yl n c w D h1 h3 h4
  | byt b c h1 h2 h3 h4 h5 => exact ym c w D h1 h2 h4
  | lst l c h1 h2 h3 h4 f h5 h6 =>
   obtain ⟨kd, nn, B, nb, cb, L, nl, cl⟩ := c
   dsimp only at h1 h2 h3 h4 h5
   subst h1; subst h2; subst h3; subst h4
   show Calls Tryz.prog 232 #[.agg #[.int .i64 3, .int .i64 0, .slice B 0 cb, .slice L l.length cl], .int .i64 (D : Int)] w (Rt w (.bool true))
   obtain ⟨W, hW⟩ : ∃ W, (w.alloc (sw ⟨3, 0, B, 0, cb, L, l.length, cl⟩)).alloc (.cells #[.int .i64 (D : Int)] 3) = W := ⟨_, rfl⟩
   have bQ : Hid (Below w.heap.size w W) := aa (by rw [← hW]; exact aI (Below.refl _ _))
   have hF : Four W w.heap.size 0 ⟨3, 0, B, 0, cb, L, l.length, cl⟩ := by rw [← hW]; exact (gJ w _).below (af _ _)
   obtain ⟨i0, i1, i2, i3⟩ := hF.get
   have hd : W.cell? ⟨w.heap.size + 1, 0, none⟩ = some (.int .i64 (D : Int)) := by rw [← hW]; exact ak (heap_alloc2_new _ _ _) 0
   have hll := hf.1
   have U8 := aa (PM (.pointer (some ⟨w.heap.size + 1, 0, none⟩)) L l f l.length cl (aa rfl) hll W (aa fun k hk => by obtain ⟨b, o, e, h⟩ := h5 k hk; exact ⟨b, o, e, h.below bQ.out⟩)
    (aa (IW d D (by omega) hD (w.heap.size + 1) l f (aa hf.2) W (aa hd) (aa fun k hk => (h6 k hk).kept bQ.out) (ih (D - 1) (by omega) (by omega)))))
   obtain ⟨nl, hnl⟩ : ∃ x, l.length = x := ⟨_, rfl⟩
   rw [hnl] at i3 hll U8 ⊢
   rw [hnl] at hW
   have HW : Hid ((w.alloc (.cells #[.int .i64 3, .int .i64 0, .slice B 0 cb, .slice L nl cl] 117)).alloc (.cells #[.int .i64 (D : Int)] 3) = W) := aa hW
   have d1 : decide ((nl : Int) ≤ 1000) = true := by simp; omega
   have d2 : decide ((0 : Int) < (D : Int)) = true := by simp; omega
   have d3 : (0 : Int) < (D : Int) := by omega
   clear hW hF hnl h5 h6 hf ih
   go_in
   go_wp2_with fail
   rw [HW.out]
   refine U8.out.mono ?_
   rintro e w2 ⟨rfl, hb0⟩
   have hb1 := ag bQ.out hb0
   clear hb0
   go_wp2
   go_ret
   exact ⟨by simp, hb1⟩
theorem Gb (i : It) (c : Ic) (w : World) (hf : fits 8 i) (hr : nO w i c) : Calls Tryz.prog 208 #[c.val] w (Rt w (.bool true)) := by
 have NF := aa (E9 8 8 (Nat.le_refl _) (Nat.le_refl _) i c (w.alloc (sw c)) hf (hr.kept (af _ _)))
 obtain ⟨kd, nn, B, nb, cb, L, nl, cl⟩ := c
 show Calls Tryz.prog 208 #[.agg #[.int .i64 kd, .int .i64 nn, .slice B nb cb, .slice L nl cl]] w (Rt w (.bool true))
 clear hf hr
 go_in
 go_wp2_with fail
 refine NF.out.mono ?_
 rintro e w2 ⟨rfl, hb0⟩
 have hb1 := ag (af _ _) hb0
 clear hb0
 go_wp2
 go_ret
 exact ⟨rfl, hb1⟩
end Go.Proofs.YtchcllcbknfikaaGreatDoor