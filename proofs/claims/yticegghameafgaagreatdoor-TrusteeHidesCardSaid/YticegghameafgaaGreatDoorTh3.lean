/- Contracts and lemmas: PolA, Ply, HdA, DrB, DrC, DrD, DrE, Dnz, Rnd, Pev, Psm, Psn, Ppr, Pin. -/
import Derived.Deep.MidRow
import Derived.Test.YticegghameafgaaGreatDoorThS
import Derived.RangeFuncBox
import Derived.RangeFuncLeaves
import Derived.RangeFuncCalls
import Derived.OrdersIn
import Derived.Shelf.Abstract
import Derived.WalkKit
import Derived.OwnWalkIn
import Derived.TacticsInMore
import Derived.LoopNIn
import Derived.LoopIn
import Derived.Test.YticegghameafgaaGreatDoorTh2
set_option linter.unusedVariables false
set_option linter.unusedSimpArgs false
set_option maxRecDepth 100000
set_option maxHeartbeats 25600000
namespace Go.Proofs.YticegghameafgaaGreatDoor
open Go.RowKit jk
theorem iq {a q v : Int} (h0 : 0 ≤ a) (h : a % q = v) : a.tmod q = v := by rw [Int.tmod_eq_emod_of_nonneg h0]; exact h
theorem jy (q a b v : Int) (hv : Hid ((a - b + q) % q = v)) (h1 : 1 ≤ q) (h2 : q < 2305843009213693952) (a0 : 0 ≤ a) (a1 : a < q) (b0 : 0 ≤ b) (b1 : b < q) (w : World) :
  Calls Tryz.prog 44 #[.int .i64 q, .int .i64 a, .int .i64 b] w (Rt w (.int .i64 v)) := by
 have d1 : IntKind.i64.wrap (a - b) = a - b := IntWalk.i64_in _ (by omega)
 have d2 : IntKind.i64.wrap (a - b + q) = a - b + q := IntWalk.i64_in _ (by omega)
 have e1 : wrap64 (a - b) = a - b := IntWalk.wrap64_in _ (by omega)
 have e2 : wrap64 (a - b + q) = a - b + q := IntWalk.wrap64_in _ (by omega)
 have Kc : (a - b + q).tmod q = v := iq (by omega) hv.out
 have v0 : 0 ≤ v := by rw [← hv.out]; exact Int.emod_nonneg _ (by omega)
 have v1 : v < q := by rw [← hv.out]; exact Int.emod_lt_of_pos _ (by omega)
 have hwt : IntKind.i64.wrap v = v := IntWalk.i64_in _ (by omega)
 have hQn : ¬ (q = 0) := by omega
 have Jg : ((q : Int) == 0) = false := by simp; omega
 go_in
 go_wp2
 go_ret
 exact ⟨rfl, Below.refl _ _⟩
theorem eO (q a b v : Int) (hv : Hid (a * b % q = v)) (h2 : q < 2305843009213693952) (a0 : 0 ≤ a) (a1 : a < q) (b0 : 0 ≤ b) (b1 : b < q) (w : World) :
  Calls Tryz.prog 43 #[.int .i64 q, .int .i64 a, .int .i64 b] w (Rt w (.int .i64 v)) := by
 go_in
 go_wp2_with fail
 refine (qf a b q v hv h2 a0 a1 b0 b1 _).mono ?_
 rintro e w' ⟨rfl, n3, rfl⟩
 have hbq := ah (Below.refl w.heap.size w) n3
 go_wp2
 go_ret
 exact ⟨rfl, hbq⟩
theorem sN (q a v : Int) (hv : Hid (fC a q = v)) (h1 : 2 ≤ q) (h2 : q < 2305843009213693952) (a0 : 0 ≤ a) (a1 : a < q) (w : World) :
  Calls Tryz.prog 46 #[.int .i64 q, .int .i64 a] w fun e' w' => e' = .returned (.int .i64 v) ∧ 0 ≤ v ∧ v < q ∧ Below w.heap.size w w' := by
 go_in
 go_wp2_with fail
 refine (Ad a q h1 h2 a0 a1 _).mono ?_
 rintro e w' ⟨x, r, rfl, hx, n3, rfl⟩
 obtain rfl : x = v := (jP hx).symm.trans hv.out
 have x0 := hx.1
 have x1 := hx.2.1
 have hbq := ah (Below.refl w.heap.size w) n3
 clear hx
 go_wp2
 go_ret
 exact ⟨rfl, x0, x1, hbq⟩
theorem jb (q : Int) (h2 : q < 2305843009213693952) (hp : Hid (dB q = true)) (w : World) (hv : Hid (Vars w)) :
  Calls Tryz.prog 63 #[.int .i64 q] w (Rt w (.bool true)) := by
 have d1 : decide (q < 2305843009213693952) = true := by simp; omega
 go_in
 go_wp2_with fail
 refine (eD q (by omega) true hp.out _ hv.out).mono ?_
 rintro e w' ⟨rfl, n3, rfl⟩
 have hbq := ah (Below.refl w.heap.size w) n3
 go_wp2
 go_ret
 exact ⟨rfl, hbq⟩
theorem AO (q : Int) (a : Nat) (W : World) (hx : Hid (W.cell? ⟨a, 0, none⟩ = some (.int .i64 q))) :
  Says 78 #[.pointer (some ⟨a, 0, none⟩)] (fun x => !aQ q x) W := fun x w1 hb => by
 show Calls Tryz.prog 78 #[.int .i64 x, .pointer (some ⟨a, 0, none⟩)] w1 fun e w' => e = .returned (.bool (!aQ q x)) ∧ Below w1.heap.size w1 w'
 have c0 := cell_below hx.out hb
 by_cases h0 : x < 0
 ·
  have e : aQ q x = false := by simp [aQ]; omega
  rw [e]
  have d0 : decide (x < 0) = true := by simp; omega
  clear hb e
  go_in
  go_wp2
  go_ret
  exact ⟨rfl, Below.refl _ _⟩
 ·
  have d0 : decide (x < 0) = false := by simp; omega
  obtain ⟨t, ht⟩ : ∃ t, decide (q ≤ x) = t := ⟨_, rfl⟩
  have e : aQ q x = !t := by
   rw [← ht, aQ, decide_eq_true (show (0 : Int) ≤ x by omega), Bool.true_and, ← decide_not]
   exact decide_eq_decide.2 (by omega)
  rw [e, Bool.not_not]
  clear hb e
  go_in
  go_wp2
  go_ret
  exact ⟨by first | rfl | rw [ht], Below.refl _ _⟩
theorem bT (q : Int) (A : Option Addr) (xs : List Int) (n c : Nat) (r : Bool) (hr : Hid (xs.all (aQ q) = r)) (hn : Hid (xs.length = n)) (hbig : Hid (n < 1000000)) (w : World) (hs : Hid (Sl w A xs)) :
  Calls Tryz.prog 50 #[.int .i64 q, .slice A n c] w (Rt w (.bool r)) := by
 have HX0 : Hid ((w.alloc (.cells #[.int .i64 q] 3)).cell? ⟨w.heap.size, 0, none⟩ = some (.int .i64 q)) := aa (ai (heap_alloc_new _ _) 0)
 have Og := aa (hs.out.below (af w (.cells #[.int .i64 q] 3)))
 have R5 := aa (AO q w.heap.size _ HX0)
 have HP : Hid ((xs.any fun x => !aQ q x) = !r) := aa (by rw [uB, hr.out])
 clear hs
 go_in
 go_wp2_with fail
 refine (Ir (.pointer (some ⟨w.heap.size, 0, none⟩)) (fun x => !aQ q x) (!r) A xs n c HP hn hbig _ Og R5).mono ?_
 rintro e w1 ⟨rfl, hb0⟩
 have hb1 := ag (af _ _) hb0
 clear hb0
 go_wp2
 go_ret
 exact ⟨by simp, hb1⟩
theorem BP (A : Option Addr) (xs : List Int) (n c : Nat) (v : Int) (hn : Hid (xs.length = n)) (hbig : n < 1000000) (hno : Hid (∀ k, k < n → v ≠ xs.getD k 0)) (w : World) (hs : Hid (Sl w A xs)) :
  Calls Tryz.prog 92 #[.slice A n c, .int .i64 v] w (Rt w (.int .i64 (-1))) := by
 go_in
 go_wp2
 go_loopw [8] (fun i wr => ∃ k : Nat, k ≤ n ∧ i = .int .i64 k ∧ Hid (Below w.heap.size w wr)) (fun i _ => n - (intOf i).toNat)
 case atStart => exact ⟨0, by omega, rfl, aa (Below.refl _ _)⟩
 case round =>
  obtain ⟨k, hk, rfl, aB⟩ := hrel
  by_cases hlt : k < n
  ·
   have hkl : k < xs.length := by rw [hn.out]; exact hlt
   obtain ⟨b, o, hA, hi0⟩ := hs.out.below aB.out k hkl
   subst hA
   have hne := hno.out k hlt
   obtain ⟨x, hx⟩ : ∃ x, xs.getD k 0 = x := ⟨_, rfl⟩
   rw [hx] at hi0 hne
   have hnq : (v == x) = false := by simpa using hne
   clear hx hkl hne
   go_wp2
   go_roundw
   case rel => exact ⟨k + 1, by omega, by go_num, aB⟩
   case measure => simp [intOf]; omega
  ·
   obtain rfl : k = n := by omega
   go_wp2
   go_ret
   exact ⟨rfl, aB.out⟩
theorem uj (A : Option Addr) (xs : List Int) (n c : Nat) (v : Int) (hn : Hid (xs.length = n)) (hbig : n < 1000000) (hno : Hid (∀ k, k < n → v ≠ xs.getD k 0)) (w : World) (hs : Hid (Sl w A xs)) :
  Calls Tryz.prog 71 #[.slice A n c, .int .i64 v] w (Rt w (.bool false)) := by
 go_in
 go_wp2_with fail
 refine (BP A xs n c v hn hbig hno _ hs).mono ?_
 rintro e w1 ⟨rfl, hb0⟩
 go_wp2
 go_ret
 exact ⟨rfl, hb0⟩
theorem iw {w : World} {A : Option Addr} {xs : List Int} (h : Sl w A xs) (k : Nat) : Sl w A (xs.take k) := fun j hj => by
 have hj2 : j < k ∧ j < xs.length := by rw [List.length_take] at hj; omega
 obtain ⟨b, o, h1, h2⟩ := h j hj2.2
 refine ⟨b, o, h1, ?_⟩
 rw [h2, List.getD_eq_getElem?_getD, List.getD_eq_getElem?_getD, List.getElem?_take_of_lt hj2.1]
def bI (xs : List Int) : Prop := ∀ i j, i < xs.length → j < i → xs.getD i 0 ≠ xs.getD j 0
theorem pG (q : Int) (A : Option Addr) (xs : List Int) (n c : Nat) (O : Option Addr) (os : List Int) (m d : Nat) (h2 : q < 2305843009213693952) (hp : Hid (dB q = true)) (hn : Hid (xs.length = n)) (hbig : n ≤ 100) (hcap : n ≤ c) (hm : Hid (os.length = m)) (hmb : m ≤ 100)
  (hx : Hid (xs.all (aQ q) = true)) (ho : Hid (os.all (aQ q) = true)) (hnt : Hid (bI xs)) (w : World) (hv : Hid (Vars w)) (hs : Hid (Sl w A xs)) (hO : Hid (Sl w O os)) :
  Calls Tryz.prog 42 #[.int .i64 q, .slice A n c, .slice O m d] w (Rt w (.int .i64 0)) := by
 have d1 : decide ((100 : Int) < (n : Int)) = false := by simp; omega
 go_in
 go_wp2_with fail
 refine (jb q h2 hp _ hv).mono ?_
 rintro e w1 ⟨rfl, hb0⟩
 have HB1 := aa hb0
 clear hb0
 go_wp2_with fail
 refine (bT q A xs n c true hx hn (aa (by omega)) _ (aa (hs.out.below HB1.out))).mono ?_
 rintro e w2 ⟨rfl, hb0⟩
 have HB2 := aa (ag HB1.out hb0)
 clear hb0
 go_wp2_with fail
 refine (bT q O os m d true ho hm (aa (by omega)) _ (aa (hO.out.below HB2.out))).mono ?_
 rintro e w3 ⟨rfl, hb0⟩
 have HB3 := aa (ag HB2.out hb0)
 clear hb0
 go_wp2
 go_loopw [31] (fun i wr => ∃ k : Nat, k ≤ n ∧ i = .int .i64 k ∧ Hid (Below w.heap.size w wr)) (fun i _ => n - (intOf i).toNat)
 case atStart => exact ⟨0, by omega, rfl, HB3⟩
 case round =>
  obtain ⟨k, hk, rfl, aB⟩ := hrel
  by_cases hlt : k < n
  ·
   have hkl : k < xs.length := by rw [hn.out]; exact hlt
   have lK := aa (hs.out.below aB.out)
   obtain ⟨b, o, hA, hi0⟩ := lK.out k hkl
   subst hA
   have hkc : k ≤ c := by omega
   have HT := aa (iw lK.out k)
   have Jo : Hid ((xs.take k).length = k) := aa (by rw [List.length_take]; omega)
   have Jy : Hid (∀ j, j < k → xs.getD k 0 ≠ (xs.take k).getD j 0) := aa (fun j hj => by
    have := hnt.out k j hkl hj
    rwa [List.getD_eq_getElem?_getD (l := xs.take k), List.getElem?_take_of_lt hj, ← List.getD_eq_getElem?_getD])
   obtain ⟨x, O8⟩ : ∃ x, xs.getD k 0 = x := ⟨_, rfl⟩
   rw [O8] at hi0 Jy
   clear O8 hkl
   go_wp2_with fail
   refine (uj (some ⟨b, o, none⟩) (xs.take k) k c x Jo (by omega) Jy _ HT).mono ?_
   rintro e w4 ⟨rfl, hb0⟩
   have yH := aa (ag aB.out hb0)
   clear hb0
   go_wp2
   go_roundw
   case rel => exact ⟨k + 1, by omega, by go_num, yH⟩
   case measure => simp [intOf]; omega
  ·
   obtain rfl : k = n := by omega
   go_wp2
   go_ret
   exact ⟨rfl, aB.out⟩
def iT (q : Int) (xs : List Int) (i : Nat) (x : Int) : Nat → Int
 | 0 => 1
 | m + 1 => if m = i then iT q xs i x m else iT q xs i x m * ((x - xs.getD m 0 + q) % q) % q
theorem iR {q : Int} (hq : 2 ≤ q) (xs : List Int) (i : Nat) (x : Int) : ∀ m, 0 ≤ iT q xs i x m ∧ iT q xs i x m < q
 | 0 => ⟨by rw [iT]; omega, by rw [iT]; omega⟩
 | m + 1 => by
  rw [iT]
  split
  · exact iR hq xs i x m
  · exact ⟨Int.emod_nonneg _ (by omega), Int.emod_lt_of_pos _ (by omega)⟩
theorem mJ (q : Int) (xs : List Int) (i : Nat) (x : Int) : ∀ m, Cg q (iT q xs i x m) (tp (fun j => xs.getD j 0) i x m)
 | 0 => Cg.refl _ _
 | m + 1 => by
  rw [iT, tp]
  split
  · exact mJ q xs i x m
  · exact (Cg.mod _ _).trans ((mJ q xs i x m).mul ((Cg.mod _ _).trans ⟨1, by grind⟩))
noncomputable def rM (q : Int) (xs : List Int) (t : Int) (i : Nat) : Int := iT q xs i t xs.length * fC (iT q xs i (xs.getD i 0) xs.length) q % q
noncomputable def zO (q : Int) (xs : List Int) (t : Int) (k : Nat) : List Int := (List.range k).map (rM q xs t)
theorem eT (q : Int) (xs : List Int) (t : Int) (k : Nat) : (zO q xs t k).length = k := by simp [zO]
theorem Aa (q : Int) (xs : List Int) (t : Int) (k : Nat) : zO q xs t (k + 1) = zO q xs t k ++ [rM q xs t k] := by simp [zO, List.range_succ]
theorem DC (q : Int) (xs : List Int) (t : Int) (k i : Nat) (h : i < k) : (zO q xs t k).getD i 0 = rM q xs t i := by
 rw [zO, List.getD_eq_getElem?_getD, List.getElem?_map, List.getElem?_range h]; rfl
theorem uO {q : Int} (hq : 2 ≤ q) (xs : List Int) (t : Int) (i : Nat) : 0 ≤ rM q xs t i ∧ rM q xs t i < q := ⟨Int.emod_nonneg _ (by omega), Int.emod_lt_of_pos _ (by omega)⟩
theorem tJ {q : Int} (hq : 2 ≤ q) : (1 : Int).tmod q = 1 := by rw [Int.tmod_eq_emod_of_nonneg (by omega)]; exact Int.emod_eq_of_lt (by omega) (by omega)
def KF (q : Int) (xs : List Int) (t : Int) (n : Nat) (w : World) (e : Ending) (w' : World) : Prop := ∃ v, e = .returned (.tuple #[v, .int .i64 0]) ∧ aT w' w.heap.size v (zO q xs t n) ∧ Below w.heap.size w w'
theorem rW (q : Int) (A : Option Addr) (xs : List Int) (n c : Nat) (t : Int) (h2 : q < 2305843009213693952) (hp : Hid (dB q = true)) (hn : Hid (xs.length = n)) (hbig : n ≤ 100) (hx : Hid (xs.all (aQ q) = true)) (t0 : 0 ≤ t) (t1 : t < q) (hcap : n ≤ c) (hnt : Hid (bI xs)) (w : World) (hv : Hid (Vars w)) (hs : Hid (Sl w A xs)) :
  Calls Tryz.prog 36 #[.int .i64 q, .slice A n c, .int .i64 t] w (KF q xs t n w) := by
 obtain ⟨i0, hi, hz0, hz1, hz2⟩ := info_parts fD
 have q2 := fB hp.out
 have hq := af w (.cells #[.int .i64 t] 3)
 have HO := aa (dU (nS w 3 t))
 have PV := aa (hv.out.below hq)
 have N_ := aa (hs.out.below hq)
 have Tu : Hid ([t].all (aQ q) = true) := aa (lW t0 t1)
 have Tt := aa hq
 clear hq hv hs
 go_in
 go_wp2_with fail
 refine (pG q A xs n c (some ⟨w.heap.size, 0, none⟩) [t] 1 1 h2 hp hn hbig hcap (aa rfl) (by omega) hx Tu hnt _ PV N_ HO).mono ?_
 rintro e W ⟨rfl, hb0⟩
 have uG := aa (ag Tt.out hb0)
 have Mv := aa (N_.out.below hb0)
 have RB := aa uG.out.size
 clear hb0 HO PV N_
 go_wp2
 go_loopw [9, 26] (fun v i wr => ∃ k : Nat, k ≤ n ∧ i = .int .i64 k ∧ Hid (aT wr W.heap.size v (zO q xs t k)) ∧ Hid (Below W.heap.size W wr)) (fun _ i _ => n - (intOf i).toNat)
 case atStart => exact ⟨0, by omega, rfl, aa (jF _ _), aa (Below.refl _ _)⟩
 case round =>
  obtain ⟨k, hk, rfl, HOr, aB⟩ := hrel
  by_cases hlt : k < n
  ·
   have hkl : k < xs.length := by rw [hn.out]; exact hlt
   obtain ⟨b, o, hA, hi0⟩ := Mv.out.below aB.out k hkl
   subst hA
   have hm1 := mF hx.out hkl
   obtain ⟨xk, hxk⟩ : ∃ x, xs.getD k 0 = x := ⟨_, rfl⟩
   rw [hxk] at hi0 hm1
   have k0 := kE hm1
   have k1 := kF hm1
   have RJ := aa hxk
   have hQn : ¬ (q = 0) := by omega
   have Jg : ((q : Int) == 0) = false := by simp; omega
   have Uw := tJ q2
   clear hxk hm1 hkl
   go_wp2
   go_quiet (fail)
   go_wp2
   clear hi0
   go_loopw [12, 13, 37] (fun a u j wz => ∃ m : Nat, m ≤ n ∧ j = .int .i64 m ∧ a = .int .i64 (iT q xs k t m) ∧ u = .int .i64 (iT q xs k xk m) ∧ Hid (Below wr.heap.size wr wz)) (fun _ _ j _ => n - (intOf j).toNat)
   case atStart => exact ⟨0, by omega, rfl, rfl, rfl, aa (by first | exact Below.refl _ _ | exact (Below.refl _ _).drew | exact ah (Below.refl _ _) _)⟩
   case round =>
    obtain ⟨m, hm, rfl, rfl, rfl, ku⟩ := hrel
    obtain ⟨a0, a1⟩ := iR q2 xs k t m
    obtain ⟨u0, u1⟩ := iR q2 xs k xk m
    by_cases hlm : m < n
    ·
     have hml : m < xs.length := by rw [hn.out]; exact hlm
     obtain ⟨b2, o2, hA2, hi1⟩ := Mv.out.below (ag aB.out ku.out) m hml
     cases hA2
     have hm2 := mF hx.out hml
     have sa : iT q xs k t (m + 1) = if m = k then iT q xs k t m else iT q xs k t m * ((t - xs.getD m 0 + q) % q) % q := rfl
     have su : iT q xs k xk (m + 1) = if m = k then iT q xs k xk m else iT q xs k xk m * ((xk - xs.getD m 0 + q) % q) % q := rfl
     obtain ⟨y, hy⟩ : ∃ x, xs.getD m 0 = x := ⟨_, rfl⟩
     rw [hy] at hi1 hm2 sa su
     have y0 := kE hm2
     have y1 := kF hm2
     obtain ⟨av, Je⟩ : ∃ x, iT q xs k t m = x := ⟨_, rfl⟩
     obtain ⟨uv, huv⟩ : ∃ x, iT q xs k xk m = x := ⟨_, rfl⟩
     rw [Je] at a0 a1 sa ⊢
     rw [huv] at u0 u1 su ⊢
     clear hy hm2 hml Je huv
     by_cases hmk : m = k
     ·
      have dn : ((m : Int) != (k : Int)) = false := by simp [hmk]
      rw [if_pos hmk] at sa su
      have SA := aa sa
      have SU := aa su
      have UF := aa hmk
      clear sa su hmk
      go_wp2
      go_roundw
      case rel => exact ⟨m + 1, by omega, by go_num, by rw [SA.out], by rw [SU.out], ku⟩
      case measure => simp [intOf]; omega
     ·
      have dn : ((m : Int) != (k : Int)) = true := by simp; omega
      rw [if_neg hmk] at sa su
      obtain ⟨s1, hs1⟩ : ∃ x, (t - y + q) % q = x := ⟨_, rfl⟩
      obtain ⟨s2, hs2⟩ : ∃ x, (xk - y + q) % q = x := ⟨_, rfl⟩
      rw [hs1] at sa
      rw [hs2] at su
      obtain ⟨p1, hp1⟩ : ∃ x, av * s1 % q = x := ⟨_, rfl⟩
      obtain ⟨p2, hp2⟩ : ∃ x, uv * s2 % q = x := ⟨_, rfl⟩
      rw [hp1] at sa
      rw [hp2] at su
      have z1 : 0 ≤ s1 := by rw [← hs1]; exact Int.emod_nonneg _ (by omega)
      have z2 : s1 < q := by rw [← hs1]; exact Int.emod_lt_of_pos _ (by omega)
      have z3 : 0 ≤ s2 := by rw [← hs2]; exact Int.emod_nonneg _ (by omega)
      have z4 : s2 < q := by rw [← hs2]; exact Int.emod_lt_of_pos _ (by omega)
      have SA := aa sa
      have SU := aa su
      have H1 := aa hs1
      have H2 := aa hs2
      have H3 := aa hp1
      have H4 := aa hp2
      clear sa su hs1 hs2 hp1 hp2 hmk
      go_wp2_with fail
      refine (jy q t y s1 H1 (by omega) h2 t0 t1 y0 y1 _).mono ?_
      rintro e TE ⟨rfl, g1⟩
      have G1 := aa g1
      clear g1
      go_wp2_with fail
      refine (eO q av s1 p1 H3 h2 a0 a1 z1 z2 _).mono ?_
      rintro e TD ⟨rfl, g2⟩
      have G2 := aa g2
      clear g2
      go_wp2_with fail
      refine (jy q xk y s2 H2 (by omega) h2 k0 k1 y0 y1 _).mono ?_
      rintro e TC ⟨rfl, g3⟩
      have G3 := aa g3
      clear g3
      go_wp2_with fail
      refine (eO q uv s2 p2 H4 h2 u0 u1 z3 z4 _).mono ?_
      rintro e TB ⟨rfl, g4⟩
      have G4 := aa g4
      clear g4
      have HB2 := aa (ag (ag (ag (ag ku.out G1.out) G2.out) G3.out) G4.out)
      go_wp2
      go_roundw
      case rel => exact ⟨m + 1, by omega, by go_num, by rw [SA.out], by rw [SU.out], HB2⟩
      case measure => simp [intOf]; omega
    ·
     obtain rfl : m = n := by omega
     have hlen := hn.out
     obtain ⟨av, Je⟩ : ∃ x, iT q xs k t m = x := ⟨_, rfl⟩
     obtain ⟨uv, huv⟩ : ∃ x, iT q xs k xk m = x := ⟨_, rfl⟩
     obtain ⟨iv, hiv⟩ : ∃ x, fC uv q = x := ⟨_, rfl⟩
     obtain ⟨wv, hwv⟩ : ∃ x, av * iv % q = x := ⟨_, rfl⟩
     have RP : Hid (rM q xs t k = wv) := aa (by rw [rM, hlen, RJ.out, Je, huv, hiv, hwv])
     rw [Je] at a0 a1 ⊢
     rw [huv] at u0 u1 ⊢
     have Td := aa hiv
     have RO := aa hwv
     have P9 := aa (HOr.out.keep ku.out)
     have Qw := aa (ag aB.out ku.out)
     clear hlen Je huv hiv hwv ku aB HOr
     go_wp2_with fail
     refine (sN q uv iv Td q2 h2 u0 u1 _).mono ?_
     rintro e y1 ⟨rfl, v0, v1, g1⟩
     have Dv := aa (P9.out.keep g1)
     have HB1 := aa (ag Qw.out g1)
     clear g1 P9 Qw
     go_wp2_with fail
     refine (eO q av iv wv RO h2 a0 a1 v0 v1 _).mono ?_
     rintro e y2 ⟨rfl, g1⟩
     have zI := aa (Dv.out.keep g1)
     have HB2 := aa (ag HB1.out g1)
     clear g1 Dv HB1
     have hown : y2.ownsRow W.heap.size 3 1 u9 k ((zO q xs t k).map (Value.int .i64)) := by
      have h3 := zI.out
      unfold aT at h3
      rwa [eT] at h3
     have hbs := HB2.out.size
     go_wp2_with (at_builtin; refine wpList_append_own _ rfl _ _ 30 rfl W.heap.size 3 i0 (.int .i64 0) 1 8 Tryz.underlying30 hi hz0 hz1 hz2 rfl (by decide) _ _ _ rfl (hown.alloc _) ⟨y2.heap.size, 0, none⟩ 1 1 [.int .i64 wv] rfl rfl (cell_one_new _ _ _) (ints_oneCell .i64 [wv]) (by unfold maxLen; omega) (by omega) (by simp; omega) ?_; intro v' y3 hown1 hgrow1 _)
     have Gs : Hid (aT y3 W.heap.size v' (zO q xs t (k + 1))) := aa (by
      rw [Aa, RP.out]
      exact aT.app (eT q xs t k).symm hown1)
     have HB3 : Hid (Below W.heap.size W y3) := aa (zI.out.below HB2.out hbs hgrow1)
     clear hown hown1 hgrow1 zI HB2
     go_roundw
     case rel => exact ⟨k + 1, by omega, by go_num, Gs, HB3⟩
     case measure => simp [intOf]; omega
  ·
   obtain rfl : k = n := by omega
   have hF := ag uG.out aB.out
   have hO := (HOr.out).mono RB.out
   have HF := aa hF
   have Sw := aa hO
   clear hF hO HOr aB
   go_wp2
   go_ret2
   exact ⟨_, rfl, Sw.out, HF.out⟩
theorem Hl {a q v : Int} (hq : 2 ≤ q) (h : fC a q = v) : 0 ≤ v ∧ v < q := by
 rw [← h]
 unfold fC
 split
 · rename_i he; exact ⟨(Classical.choose_spec he).1, (Classical.choose_spec he).2.1⟩
 · omega
theorem jO {q a : Int} (h1 : 2 ≤ q) (h : Un q a) : Cg q (fC a q * a) 1 := by
 obtain ⟨y, hy⟩ := h
 have h2 : j6 a q (y % q) := ⟨Int.emod_nonneg _ (by omega), Int.emod_lt_of_pos _ (by omega), .inl (by
  rw [((Cg.mod q y).mul (Cg.refl q a)).eq, hy.eq]
  exact Int.emod_eq_of_lt (by omega) (by omega))⟩
 rw [jP h2]
 exact ((Cg.mod q y).mul (Cg.refl q a)).trans hy
abbrev bV (l : List Int) : Nat → Int := fun k => l.getD k 0
def rC (q : Int) (xs ys : List Int) (n : Nat) (f : List Int) : Prop :=
 ∃ kp : Nat → Int, (∀ m, m < n → Cg q (kp m * gp (bV xs) (bV xs m) m) (bV ys m - nw (bV xs) (bV ys) kp (bV xs m) m)) ∧ ∀ X, Cg q (pv f X) (nw (bV xs) (bV ys) kp X n)
theorem m_ {xs ys k1 k2 : Nat → Int} {x : Int} : ∀ m, (∀ j, j < m → k1 j = k2 j) → nw xs ys k1 x m = nw xs ys k2 x m
 | 0, _ => rfl
 | m + 1, h => by rw [nw, nw, m_ m fun j hj => h j (by omega), h m (by omega)]
theorem y7 (q : Int) (xs ys : List Int) : rC q xs ys 0 [] := ⟨fun _ => 0, fun m h => absurd h (by omega), fun X => Cg.refl _ _⟩
theorem y8 {q : Int} {xs ys f g f' : List Int} {n : Nat} {k : Int} (h : rC q xs ys n f) (hg : ∀ X, Cg q (pv g X) (gp (bV xs) X n)) (hk : Cg q (k * pv g (bV xs n)) (bV ys n - pv f (bV xs n)))
  (hf : ∀ X, Cg q (pv f' X) (pv f X + k * pv g X)) : rC q xs ys (n + 1) f' := by
 obtain ⟨kp, h1, h2⟩ := h
 have hc : ∀ m, m ≤ n → ∀ X, nw (bV xs) (bV ys) (fun m => if m = n then k else kp m) X m = nw (bV xs) (bV ys) kp X m := fun m hm X => m_ m fun j hj => if_neg (by omega)
 refine ⟨fun m => if m = n then k else kp m, fun m hm => ?_, fun X => ?_⟩
 ·
  rw [hc m (by omega)]
  by_cases e : m = n
  ·
   subst e
   dsimp only
   rw [if_pos rfl]
   exact ((Cg.refl q k).mul (hg _).symm).trans (hk.trans ((Cg.refl _ _).sub (h2 _)))
  · dsimp only; rw [if_neg e]; exact h1 m (by omega)
 ·
  rw [nw, hc n (Nat.le_refl _), if_pos rfl]
  exact (hf X).trans ((h2 X).add ((Cg.refl q k).mul (hg X)))
theorem Gb {xs : Nat → Int} {i : Nat} : ∀ m, i < m → gp xs (xs i) m = 0
 | 0, h => absurd h (by omega)
 | m + 1, h => by
  rw [gp]
  by_cases e : i = m
  · subst e; rw [Int.sub_self, Int.mul_zero]
  · rw [Gb m (by omega), Int.zero_mul]
theorem xO {q : Int} {xs ys kp : Nat → Int} {n : Nat} (h : ∀ m, m < n → Cg q (kp m * gp xs (xs m) m) (ys m - nw xs ys kp (xs m) m)) {i : Nat} : ∀ m, i < m → m ≤ n → Cg q (nw xs ys kp (xs i) m) (ys i)
 | 0, h1, _ => absurd h1 (by omega)
 | m + 1, h1, h2 => by
  rw [nw]
  by_cases e : i = m
  ·
   subst e
   exact ((Cg.refl _ _).add (h i (by omega))).trans (Cg.of_eq (by omega))
  ·
   rw [Gb m (by omega), Int.mul_zero, Int.add_zero]
   exact xO h m (by omega) (by omega)
theorem Ey {q : Int} {xs ys f : List Int} {n : Nat} (h : rC q xs ys n f) {i : Nat} (hi : i < n) : Cg q (pv f (bV xs i)) (bV ys i) := by
 obtain ⟨kp, h1, h2⟩ := h
 exact (h2 _).trans (xO h1 n hi (Nat.le_refl _))
noncomputable def smT (q t : Int) (xs ys : List Int) : Nat → Int
 | 0 => 0
 | m + 1 => (smT q t xs ys m + rM q xs t m * ys.getD m 0 % q) % q
theorem uR {q : Int} (hq : 2 ≤ q) (t : Int) (xs ys : List Int) : ∀ k, 0 ≤ smT q t xs ys k ∧ smT q t xs ys k < q
 | 0 => ⟨by rw [smT]; omega, by rw [smT]; omega⟩
 | k + 1 => ⟨Int.emod_nonneg _ (by omega), Int.emod_lt_of_pos _ (by omega)⟩
theorem Av (q t : Int) (xs ys : List Int) : ∀ m, Cg q (smT q t xs ys m) (sm (fun k => rM q xs t k * bV ys k) m)
 | 0 => Cg.refl _ _
 | m + 1 => (Cg.mod _ _).trans ((Av q t xs ys m).add (Cg.mod _ _))
theorem BK {q a b c : Int} (h1 : Cg q (a * c) 1) (h2 : Cg q (b * c) 1) : Cg q a b := by
 have q1 : Cg q (a * (b * c)) (a * 1) := (Cg.refl _ _).mul h2
 have q2 : Cg q ((a * c) * b) (1 * b) := h1.mul (Cg.refl _ _)
 rw [Int.mul_one] at q1; rw [Int.one_mul] at q2
 exact q1.symm.trans ((Cg.of_eq (by grind)).trans q2)
theorem jG {q : Int} {xs ys f : List Int} {n : Nat} (hq : 2 ≤ q) (hn : xs.length = n) (h : rC q xs ys n f) (hu : ∀ i j, i < n → j < n → i ≠ j → Un q (bV xs i - bV xs j)) (t : Int) : pv f t % q = smT q t xs ys n := by
 obtain ⟨kp, h1, h2⟩ := h
 have hun : ∀ m k, m ≤ n → k < m → Un q (tp (bV xs) k (bV xs k) m) := fun m k hm hk => Ai m fun j hj hjk => hu k j (by omega) (by omega) (Ne.symm hjk)
 have hcg : Cg q (pv f t) (smT q t xs ys n) := by
  have hl := gH (u := fun m k => fC (tp (bV xs) k (bV xs k) m) q) h1 (fun m k hm hk => jO hq (hun m k hm hk)) n (Nat.le_refl _) t
  refine (h2 t).trans (hl.trans ((Ar n fun k hk => ?_).trans (Av q t xs ys n).symm))
  have e1 : Cg q (rM q xs t k) (tp (bV xs) k t n * fC (iT q xs k (bV xs k) n) q) := by
   rw [rM, hn]
   exact (Cg.mod _ _).trans ((mJ q xs k t n).mul (Cg.refl _ _))
  have u1 : Cg q (fC (iT q xs k (bV xs k) n) q * iT q xs k (bV xs k) n) 1 := jO hq ((hun n k (Nat.le_refl _) hk).cg (mJ q xs k _ n).symm)
  have u2 : Cg q (fC (iT q xs k (bV xs k) n) q) (fC (tp (bV xs) k (bV xs k) n) q) :=
   BK (((Cg.refl _ _).mul (mJ q xs k (bV xs k) n).symm).trans u1) (jO hq (hun n k (Nat.le_refl _) hk))
  exact (Cg.of_eq (by grind)).trans (((Cg.refl q (bV ys k)).mul ((Cg.refl _ _).mul u2.symm)).trans (((Cg.refl q (bV ys k)).mul e1.symm).trans (Cg.of_eq (by grind))))
 have hb := uR hq t xs ys n
 rw [hcg.eq, Int.emod_eq_of_lt hb.1 hb.2]
structure Pl (q : Int) (m : Nat) (f : List Int) : Prop where
 sc : f.all (aQ q) = true
 len : f.length ≤ m
 trim : f.length = 0 ∨ f.getD (f.length - 1) 0 ≠ 0
theorem Pl.nil (q : Int) (m : Nat) : Pl q m [] := ⟨rfl, Nat.zero_le _, .inl rfl⟩
theorem yx {q : Int} {f : List Int} {n : Nat} {v : Int} (h : f.all (aQ q) = true) (hv : aQ q v = true) : (f.set n v).all (aQ q) = true := by
 rw [List.all_eq_true] at h ⊢
 intro x hx
 rcases List.mem_or_eq_of_mem_set hx with h1 | rfl
 · exact h _ h1
 · exact hv
theorem lX {q x : Int} (h : 1 ≤ q) : aQ q (x % q) = true := by
 have h1 : 0 ≤ x % q := Int.emod_nonneg _ (by omega)
 have h2 : x % q < q := Int.emod_lt_of_pos _ (by omega)
 simp [aQ]; omega
theorem Bi {q X c v : Int} {f : List Int} {n : Nat} (hn : n < f.length) (hv : (f.getD n 0 + c) % q = v) : Cg q (pv (f.set n v) X) (pv f X + c * X ^ n) := by
 rw [Bh X f n v hn]
 have h1 : Cg q v (f.getD n 0 + c) := (Cg.of_eq hv.symm).trans (Cg.mod _ _)
 exact ((Cg.refl q (pv f X)).add (((h1.sub (Cg.refl q (f.getD n 0))).mul (Cg.refl q (X ^ n))))).trans (Cg.of_eq (by rw [show f.getD n 0 + c - f.getD n 0 = c by omega]))
theorem zF {q : Int} (h : 1 ≤ q) (n : Nat) : (List.replicate n (0 : Int)).all (aQ q) = true := by
 rw [List.all_eq_true]
 intro x hx
 rw [(List.mem_replicate.1 hx).2]
 simp [aQ]; omega
def uH (q : Int) (d : List Int) : Prop := ∀ c ∈ d, Cg q c 0
theorem Fq {q : Int} {d : List Int} (h : uH q d) (X : Int) : Cg q (pv d X) 0 := by
 induction d with
 | nil => exact Cg.refl _ _
 | cons c t ih =>
  rw [pv]
  exact ((h c (by simp)).add ((Cg.refl q X).mul (ih fun b hb => h b (by simp [hb])))).trans (Cg.of_eq (by grind))
def oH (x : Int) : List Int → List Int
 | [] => []
 | c :: t => match t with
  | [] => []
  | b :: u => pv (b :: u) x :: oH x (b :: u)
theorem si (x : Int) : ∀ d : List Int, (oH x d).length = d.length - 1
 | [] => rfl
 | [_] => rfl
 | c :: b :: u => by
  rw [oH, List.length_cons, si x (b :: u)]
  simp
theorem xx (x X : Int) : ∀ d : List Int, pv d X = pv d x + (X - x) * pv (oH x d) X
 | [] => by simp [pv, oH]
 | [c] => by simp [pv, oH]
 | c :: b :: u => by
  have h := xx x X (b :: u)
  show c + X * pv (b :: u) X = (c + x * pv (b :: u) x) + (X - x) * (pv (b :: u) x + X * pv (oH x (b :: u)) X)
  rw [h]
  grind
theorem o8 {q x : Int} : ∀ d : List Int, uH q (oH x d) → Cg q (pv d x) 0 → uH q d
 | [], _, _ => fun c hc => by cases hc
 | [c], _, h => fun b hb => by
  rw [List.mem_singleton.1 hb]
  exact (Cg.of_eq (by simp [pv])).trans h
 | c :: b :: u, h, h2 => by
  rw [oH] at h
  have h3 : Cg q (pv (b :: u) x) 0 := h _ (by simp)
  have h4 := o8 (b :: u) (fun z hz => h z (by simp [hz])) h3
  intro z hz
  rcases List.mem_cons.1 hz with rfl | hz
  ·
   rw [pv] at h2
   have h5 : Cg q (z + x * pv (b :: u) x - x * pv (b :: u) x) (0 - x * 0) := h2.sub ((Cg.refl q x).mul h3)
   exact (Cg.of_eq (by omega)).trans (h5.trans (Cg.of_eq (by omega)))
  · exact h4 z hz
theorem DW {q a b : Int} (h : Un q a) (h2 : Cg q (a * b) 0) : Cg q b 0 := by
 obtain ⟨y, hy⟩ := h
 have h3 : Cg q (y * a * b) (1 * b) := hy.mul (Cg.refl q b)
 have h4 : Cg q (y * (a * b)) (y * 0) := (Cg.refl q y).mul h2
 exact ((Cg.of_eq (by rw [Int.one_mul])).trans h3.symm).trans ((Cg.of_eq (Int.mul_assoc _ _ _)).trans (h4.trans (Cg.of_eq (Int.mul_zero _))))
theorem mQ {q : Int} {xs : Nat → Int} : ∀ (n : Nat) (d : List Int), d.length ≤ n → (∀ i j, i < n → j < n → i ≠ j → Un q (xs i - xs j)) → (∀ i, i < n → Cg q (pv d (xs i)) 0) → uH q d
 | 0, d, hl, _, _ => by
  have e : d = [] := List.eq_nil_of_length_eq_zero (by omega)
  subst e
  exact fun c hc => by cases hc
 | n + 1, d, hl, hu, hr => by
  have h0 := hr n (by omega)
  refine o8 (x := xs n) d (mQ n (oH (xs n) d) (by rw [si]; omega) (fun i j hi hj => hu i j (by omega) (by omega)) fun i hi => ?_) h0
  refine DW (hu i n (by omega) (by omega) (by omega)) ?_
  have h1 := hr i (by omega)
  rw [xx (xs n) (xs i) d] at h1
  exact (Cg.of_eq (by omega)).trans ((h1.sub h0).trans (Cg.of_eq (by omega)))
def uK : List Int → List Int → List Int
 | [], g => g
 | f, [] => f
 | a :: f, b :: g => (a + b) :: uK f g
theorem nZ (X : Int) : ∀ f g : List Int, pv (uK f g) X = pv f X + pv g X
 | [], g => by simp [uK, pv]
 | a :: f, [] => by simp [uK, pv]
 | a :: f, b :: g => by
  rw [uK, pv, nZ X f g, pv, pv]
  grind
theorem mG : ∀ f g : List Int, ∀ n, f.length ≤ n → g.length ≤ n → (uK f g).length ≤ n
 | [], g, n, _, h => by rw [uK]; exact h
 | a :: f, [], n, h, _ => by rw [uK]; exact h; simp
 | a :: f, b :: g, n, h, h2 => by
  rw [uK, List.length_cons]
  simp only [List.length_cons] at h h2
  have := mG f g (n - 1) (by omega) (by omega)
  omega
def zQ (k : Int) (f : List Int) : List Int := f.map (k * ·)
theorem nA (k X : Int) : ∀ f : List Int, pv (zQ k f) X = k * pv f X
 | [] => by simp [zQ, pv]
 | a :: f => by
  have h := nA k X f
  rw [zQ] at h ⊢
  rw [List.map_cons, pv, h, pv]
  grind
theorem qK (k : Int) (f : List Int) : (zQ k f).length = f.length := List.length_map _
theorem xV (xs : Nat → Int) : ∀ m, ∃ g : List Int, g.length ≤ m + 1 ∧ ∀ X, pv g X = gp xs X m
 | 0 => ⟨[1], by simp, fun X => by simp [pv, gp]⟩
 | m + 1 => by
  obtain ⟨g, h1, h2⟩ := xV xs m
  refine ⟨uK (0 :: g) (zQ (-(xs m)) g), mG _ _ _ (by simp; omega) (by rw [qK]; omega), fun X => ?_⟩
  rw [nZ, nA, pv, gp, ← h2 X]
  grind
theorem qF (xs ys kp : Nat → Int) : ∀ n, ∃ L : List Int, L.length ≤ n ∧ ∀ X, pv L X = nw xs ys kp X n
 | 0 => ⟨[], by simp, fun X => rfl⟩
 | n + 1 => by
  obtain ⟨L, h1, h2⟩ := qF xs ys kp n
  obtain ⟨g, h3, h4⟩ := xV xs n
  refine ⟨uK L (zQ (kp n) g), mG _ _ _ (by omega) (by rw [qK]; omega), fun X => ?_⟩
  rw [nZ, nA, h2, h4]
  rfl
theorem kN {q : Int} {xs ys : Nat → Int} : ∀ n, (∀ i j, i < n → j < n → i ≠ j → Un q (xs i - xs j)) → ∃ kp : Nat → Int, ∀ m, m < n → Cg q (kp m * gp xs (xs m) m) (ys m - nw xs ys kp (xs m) m)
 | 0, _ => ⟨fun _ => 0, fun m h => absurd h (by omega)⟩
 | n + 1, hu => by
  obtain ⟨kp, hk⟩ := kN n (fun i j hi hj => hu i j (by omega) (by omega))
  obtain ⟨y, hy⟩ : Un q (gp xs (xs n) n) := B_ n (fun j hj => hu n j (by omega) (by omega) (by omega))
  have hc : ∀ k, ∀ m, m ≤ n → ∀ X, nw xs ys (fun m => if m = n then k else kp m) X m = nw xs ys kp X m := fun k m hm X => yZ m fun j hj => if_neg (by omega)
  refine ⟨fun m => if m = n then (ys n - nw xs ys kp (xs n) n) * y else kp m, fun m hm => ?_⟩
  rw [hc _ m (by omega)]
  by_cases e : m = n
  ·
   subst e
   dsimp only
   rw [if_pos rfl]
   exact (Cg.of_eq (Int.mul_assoc _ _ _)).trans (((Cg.refl q _).mul hy).trans (Cg.of_eq (Int.mul_one _)))
  ·
   dsimp only
   rw [if_neg e]
   exact hk m (by omega)
where yZ {xs ys k1 k2 : Nat → Int} {x : Int} : ∀ m, (∀ j, j < m → k1 j = k2 j) → nw xs ys k1 x m = nw xs ys k2 x m := m_
theorem interp {q : Int} {xs ys : Nat → Int} {n : Nat} (hu : ∀ i j, i < n → j < n → i ≠ j → Un q (xs i - xs j)) : ∃ L : List Int, L.length ≤ n ∧ ∀ i, i < n → Cg q (pv L (xs i)) (ys i) := by
 obtain ⟨kp, hk⟩ := kN (ys := ys) n hu
 obtain ⟨L, h1, h2⟩ := qF xs ys kp n
 exact ⟨L, h1, fun i hi => (Cg.of_eq (h2 _)).trans (xO hk n hi (Nat.le_refl _))⟩
theorem agree {q : Int} {xs : Nat → Int} {n : Nat} {f g : List Int} (hu : ∀ i j, i < n → j < n → i ≠ j → Un q (xs i - xs j)) (hf : f.length ≤ n) (hg : g.length ≤ n) (h : ∀ i, i < n → Cg q (pv f (xs i)) (pv g (xs i))) : uH q (uK f (zQ (-1) g)) := by
 refine mQ n _ (mG _ _ _ hf (by rw [qK]; exact hg)) hu fun i hi => ?_
 rw [nZ, nA]
 exact ((h i hi).sub (Cg.refl q (pv g (xs i)))).trans (Cg.of_eq (by omega)) |> fun h => (Cg.of_eq (by omega)).trans h
theorem CJ {q : Int} {f g : List Int} (h : uH q (uK f (zQ (-1) g))) (X : Int) : Cg q (pv f X) (pv g X) := by
 have h1 := Fq h X
 rw [nZ, nA] at h1
 exact (Cg.of_eq (by omega)).trans ((h1.add (Cg.refl q (pv g X))).trans (Cg.of_eq (by omega)))
theorem Gg {q a b : Int} (h : Cg q a b) (a0 : 0 ≤ a) (a1 : a < q) (b0 : 0 ≤ b) (b1 : b < q) : a = b := by
 have h2 := h.eq
 rwa [Int.emod_eq_of_lt a0 a1, Int.emod_eq_of_lt b0 b1] at h2
theorem nV {q : Int} : ∀ f g : List Int, f.length = g.length → f.all (aQ q) = true → g.all (aQ q) = true → uH q (uK f (zQ (-1) g)) → f = g
 | [], [], _, _, _, _ => rfl
 | [], b :: g, h, _, _, _ => by simp at h
 | a :: f, [], h, _, _, _ => by simp at h
 | a :: f, b :: g, hl, hf, hg, h => by
  simp only [List.all_cons, Bool.and_eq_true] at hf hg
  rw [zQ, List.map_cons, uK] at h
  have h1 : Cg q (a + -1 * b) 0 := h _ (by simp)
  have h2 : uH q (uK f (zQ (-1) g)) := fun c hc => h c (by rw [zQ] at hc; exact List.mem_cons_of_mem _ hc)
  have e1 : a = b := by
   have a1 := hf.1; have b1 := hg.1
   simp [aQ] at a1 b1
   exact Gg ((Cg.of_eq (by omega)).trans ((h1.add (Cg.refl q b)).trans (Cg.of_eq (by omega)))) a1.1 a1.2 b1.1 b1.2
  rw [e1, nV f g (by simpa using hl) hf.2 hg.2 h2]
def Cf (v x : Int) : Int := bits BinOp.or IntKind.u64 (IntKind.u64.wrap (v * 256)) (IntKind.u64.wrap x)
def tT (l : List Int) : Int := l.foldl Cf 0
def iF (h : List Int) : Int := tT (h.take 8)
theorem zg {h : List Int} {k : Nat} (hk : k < h.length) : tT (h.take (k + 1)) = Cf (tT (h.take k)) (h.getD k 0) := by
 rw [take_one hk, tT, List.foldl_append]; rfl
theorem wm (h : List Int) (hl : Hid (h.length = 32)) (hb : Hid (ax h = true)) (w : World) :
  Calls Tryz.prog 88 #[.agg (arr .u8 h)] w (Rt w (.int .u64 (iF h))) := by
 have HT0 : Hid (aX .u8 25 (w.alloc (.cells (arr .u8 h) 25)) w.heap.size h) := aa (aX.new _ _)
 have hb0 := af w (.cells (arr .u8 h) 25)
 obtain ⟨W, hW⟩ : ∃ W, w.alloc (.cells (arr .u8 h) 25) = W := ⟨_, rfl⟩
 rw [hW] at HT0 hb0
 have HB0 := aa hb0
 have HW := aa hW
 clear hW hb0
 go_in
 go_wp2_with fail
 rw [HW.out]
 clear HW
 go_loopw [3, 8] (fun x i u => ∃ k : Nat, k ≤ 8 ∧ i = .int .i64 k ∧ x = .int .u64 (tT (h.take k)) ∧ u = W) (fun _ i _ => 8 - (intOf i).toNat)
 case atStart => exact ⟨0, by omega, rfl, rfl, rfl⟩
 case round =>
  obtain ⟨k, hk, rfl, rfl, rfl⟩ := hrel
  by_cases hlt : k < 8
  ·
   have hkl : k < h.length := by rw [hl.out]; omega
   have hc := HT0.out.cell hkl
   obtain ⟨x, hx⟩ : ∃ x, h.getD k 0 = x := ⟨_, rfl⟩
   rw [hx] at hc
   obtain ⟨v, hv⟩ : ∃ v, tT (h.take k) = v := ⟨_, rfl⟩
   have HST : Hid (tT (h.take (k + 1)) = Cf v x) := aa (by rw [zg hkl, hx, hv])
   rw [hv]
   clear hx hv hkl
   go_wp2
   go_roundw
   case rel => exact ⟨k + 1, by omega, by go_num, by rw [HST.out]; rfl, trivial⟩
   case measure => simp [intOf]; omega
  ·
   obtain rfl : k = 8 := by omega
   clear hlt
   obtain ⟨v, hv⟩ : ∃ v, tT (h.take 8) = v := ⟨_, rfl⟩
   have HV : Hid (iF h = v) := aa hv
   rw [hv]
   clear hv
   go_wp2
   go_ret
   exact ⟨by rw [HV.out]; rfl, HB0.out⟩
def oI (h : List Int) (c : Int) (f : Bool) : Array Value := arr .u8 h ++ #[.int .i64 c, .bool f]
def bQ (w : World) (b : Nat) (h : List Int) (c : Int) (f : Bool) : Prop := w.heap[b]? = some (.cells (oI h c f) 87 (0, 0))
variable {w : World} {b : Nat} {h : List Int} {c : Int} {f : Bool}
theorem bQ.lt (hh : bQ w b h c f) : b < w.heap.size := (Array.getElem?_eq_some_iff.1 hh).1
theorem bQ.below {w' : World} (hh : bQ w b h c f) (hb : Below w.heap.size w w') : bQ w' b h c f := (hb.block b hh.lt).trans hh
theorem sG (hl : h.length = 32) : (oI h c f)[32]? = some (.int .i64 c) := by
 rw [oI, Array.getElem?_append_right (by rw [aI, hl]; exact Nat.le_refl _), aI, hl]; rfl
theorem AJ (hl : h.length = 32) : (oI h c f)[33]? = some (.bool f) := by
 rw [oI, Array.getElem?_append_right (by rw [aI, hl]; decide), aI, hl]; rfl
theorem bQ.count (hh : bQ w b h c f) (hl : h.length = 32) : Own w ⟨b, 32, none⟩ (.int .i64 c) := ⟨(ai hh 32).trans (sG hl), bq hh 32⟩
theorem bQ.full (hh : bQ w b h c f) (hl : h.length = 32) : Own w ⟨b, 33, none⟩ (.bool f) := ⟨(ai hh 33).trans (AJ hl), bq hh 33⟩
theorem yO (hl : h.length = 32) (x : Int) : (oI h c f).setIfInBounds 32 (.int .i64 x) = oI h x f := by
 apply Array.ext'
 simp [oI, arr, List.set_append, hl]
theorem yN (hl : h.length = 32) (x : Bool) : (oI h c f).setIfInBounds 33 (.bool x) = oI h c x := by
 apply Array.ext'
 simp [oI, arr, List.set_append, hl]
theorem bQ.set32 (hh : bQ w b h c f) (hl : h.length = 32) (x : Int) : bQ (w.setCell ⟨b, 32, none⟩ (.int .i64 x)) b h x f := by
 unfold bQ
 rw [heap_setCell_same w b 32 _ _ _ hh, yO hl]
theorem bQ.set33 (hh : bQ w b h c f) (hl : h.length = 32) (x : Bool) : bQ (w.setCell ⟨b, 33, none⟩ (.bool x)) b h c x := by
 unfold bQ
 rw [heap_setCell_same w b 33 _ _ _ hh, yN hl]
theorem bQ.range (hh : bQ w b h c f) (hl : h.length = 32) : w.rangeAt b 0 (aC h c).toList := fun j v hj => by
 have hlt : j < 33 := by
  have h2 := (List.getElem?_eq_some_iff.1 hj).1
  rw [Array.length_toList, jr hl] at h2
  exact h2
 rw [Nat.zero_add, ai hh, ← hj, Array.getElem?_toList]
 by_cases h3 : j < 32
 · rw [oI, aC, Array.getElem?_append_left (by rw [aI, hl]; exact h3), Array.getElem?_append_left (by rw [aI, hl]; exact h3)]
 ·
  obtain rfl : j = 32 := by omega
  rw [sG hl, aC, Array.getElem?_append_right (by rw [aI, hl]; exact Nat.le_refl _), aI, hl]
  rfl
theorem jT (hl : h.length = 32) : (Tryz.prog.info? 27).map (·.size) = some (aC h c).toList.length := (aj (c := c) hl).trans (by simp)
theorem aA {w w' : World} (h : Below w.heap.size w w') (r : Option Nat) : w.grownBy w' r := ⟨h.os, h.tape, h.output, h.size, fun k hk _ => h.block k hk⟩
theorem bf {w w1 w2 : World} {r : Option Nat} (h1 : w.grownBy w1 r) (h2 : w1.grownBy w2 r) : w.grownBy w2 r :=
 ⟨h2.os.trans h1.os, h2.tape.trans h1.tape, h2.output.trans h1.output, Nat.le_trans h1.size h2.size, fun k hk hne => (h2.block k (Nat.lt_of_lt_of_le hk h1.size) hne).trans (h1.block k hk hne)⟩
theorem cZ {w : World} (b j : Nat) (v : Value) : w.grownBy (w.setCell ⟨b, j, none⟩ v) (some b) := vL w b j v
theorem gB {w w' : World} {b B : Nat} (h : w.grownBy w' (some b)) (hB : B ≤ b) (hs : B ≤ w.heap.size) : Below B w w' := (Below.refl B w).grown h hs (fun j hj => by cases hj; exact hB)
theorem iK {w w1 : World} {r : Option Nat} (h : w.grownBy w1 r) (a : Nat) (ha : w.heap.size ≤ a) (cs : Array Value) : w.grownBy (w1.setRow a cs) r :=
 ⟨h.os, h.tape, h.output, by rw [setRow_size]; exact h.size, fun k hk hne => (setRow_other w1 a k cs (by omega)).trans (h.block k hk hne)⟩
theorem jS {w w1 : World} {r : Option Nat} (h : w.grownBy w1 r) (o : Obj) : w.grownBy (w1.alloc o) r := bf h (aA (af _ _) r)
def jg (h : List Int) (c : Int) : List Int := xz (h ++ jh c)
theorem CB (h : List Int) (c : Int) : (jg h c).length = 32 := iy _
theorem wN (h : List Int) (c : Int) : ax (jg h c) = true := yM _
theorem uh (h : List Int) (hl : Hid (h.length = 32)) (b : Nat) (f0 : Bool) (w : World) (hS : Hid (bQ w b h 1099511627776 f0)) :
  Calls Tryz.prog 87 #[.pointer (some ⟨b, 0, none⟩)] w fun e w' => e = .returned (.agg (arr .u8 (aH 32))) ∧ bQ w' b h 1099511627776 true ∧ w.grownBy w' (some b) := by
 obtain ⟨W, hW⟩ : ∃ W, w.alloc (.cells z32 25) = W := ⟨_, rfl⟩
 have iN : Hid (Below w.heap.size w W) := aa (by rw [← hW]; exact af _ _)
 have lM : Hid (aX .u8 25 W w.heap.size (aH 32)) := aa (by rw [← hW, xq]; exact heap_alloc_new _ _)
 have HS := aa (hS.out.below iN.out)
 have Le : Hid (b < w.heap.size) := aa hS.out.lt
 have HW := aa hW
 clear hW
 obtain ⟨c1, c2⟩ := HS.out.count hl.out
 obtain ⟨f1, f2⟩ := HS.out.full hl.out
 have HS2 := aa (HS.out.set33 hl.out true)
 have HR2 : Hid (aX .u8 25 (W.setCell ⟨b, 33, none⟩ (.bool true)) w.heap.size (aH 32)) := aa (lM.out.set_ne (by have := Le.out; omega))
 go_in
 go_upto_region 1 with (fail)
 rw [HW.out]
 clear HW
 go_wp2_with ((with_reducible show wpList _ _ _ (⟨none, _, _, _, _, _⟩ :: _) _ _); refine wpList_store_row rfl 25 _ _ rfl w.heap.size (arr .u8 (aH 32)) rfl rfl _ _ HR2.out (aY rfl) (iC (l := aH 32) rfl rfl) (dG _) ?_)
 have HRR : Hid (aX .u8 25 ((W.setCell ⟨b, 33, none⟩ (.bool true)).setRow w.heap.size (arr .u8 (aH 32))) w.heap.size (aH 32)) := aa HR2.out.setRow
 have Jf : bQ ((W.setCell ⟨b, 33, none⟩ (.bool true)).setRow w.heap.size (arr .u8 (aH 32))) b h 1099511627776 true := (setRow_other _ _ b _ (by have := Le.out; omega)).trans HS2.out
 have hGF : w.grownBy ((W.setCell ⟨b, 33, none⟩ (.bool true)).setRow w.heap.size (arr .u8 (aH 32))) (some b) := iK (bf (aA iN.out _) (cZ b 33 _)) _ (Nat.le_refl _) _
 exact bodyPost_ret (v := .agg (arr .u8 (aH 32))) (iJ (p := 2) (ty := 25) rfl _ _ ⟨w.heap.size, 0, none⟩ _ rfl (run_loadVar_row _ _ _ _ _ _ _ HRR.out Tryz.underlying25 rfl (aY rfl))) rfl ⟨rfl, Jf, hGF⟩
theorem zw (h : List Int) (hl : Hid (h.length = 32)) (hb : Hid (ax h = true)) (c : Int) (hc0 : 0 ≤ c) (hc1 : c < 1099511627776) (b : Nat) (w : World) (hv : Hid (dx w)) (hS : Hid (bQ w b h c false)) :
  Calls Tryz.prog 87 #[.pointer (some ⟨b, 0, none⟩)] w fun e w' => e = .returned (.agg (arr .u8 (jg h c))) ∧ bQ w' b h (c + 1) false ∧ w.grownBy w' (some b) := by
 obtain ⟨W, hW⟩ : ∃ W, w.alloc (.cells z32 25) = W := ⟨_, rfl⟩
 have iN : Hid (Below w.heap.size w W) := aa (by rw [← hW]; exact af _ _)
 have lM : Hid (aX .u8 25 W w.heap.size (aH 32)) := aa (by rw [← hW, xq]; exact heap_alloc_new _ _)
 have HS := aa (hS.out.below iN.out)
 have HV := aa (hv.out.below iN.out)
 have Le : Hid (b < w.heap.size) := aa hS.out.lt
 have HW := aa hW
 have hcn : ¬ (c = 1099511627776) := by omega
 have hwr : IntKind.i64.wrap (c + 1) = c + 1 := IntWalk.i64_in _ (by omega)
 clear hW
 obtain ⟨c1, c2⟩ := HS.out.count hl.out
 go_in
 go_upto_region 1 with (fail)
 rw [HW.out]
 clear HW
 go_wp2_with ((with_reducible show wpList _ _ _ (⟨some 17, _, _, _, _, _⟩ :: _) _ _); refine wpList_load_mid rfl 27 _ rfl b 0 rfl (aC h c).toList _ (HS.out.range hl.out) Tryz.underlying27 rfl (jT hl.out) ?_)
 clear c1 c2
 refine (oO h hl c hc0 (by omega) _).mono ?_
 rintro e w1 ⟨v1, rfl, ho1, hb1⟩
 have yE := aa (HS.out.below hb1)
 have HR1 := aa (lM.out.below hb1)
 have Gm := aa (HV.out.below hb1)
 have HB1 := aa (ag iN.out hb1)
 obtain ⟨E, hE⟩ : ∃ E, h ++ jh c = E := ⟨_, rfl⟩
 have OG : Hid (E.length = 40) := aa (by rw [← hE, List.length_append, hl.out, fG])
 have Tj : Hid (ax E = true) := aa (by rw [← hE, gF, hb.out, pY]; rfl)
 rw [hE] at ho1
 obtain ⟨g1, Iu, e1, hg1, -, -, Kg⟩ := ho1.cells (by rw [OG.out]; decide)
 rw [OG.out] at e1
 subst e1
 have CV := aa Kg
 have OW : Kp (jg h c = xz E) := ⟨by rw [jg, hE]⟩
 clear hb1 ho1 hE Kg hg1
 go_wp2_with fail
 refine (D5 g1 0 Iu E 40 OG (by omega) Tj _ CV Gm).mono ?_
 rintro e w2 ⟨rfl, hb2⟩
 obtain ⟨R, hR⟩ : ∃ R, xz E = R := ⟨_, rfl⟩
 have wW : Hid (R.length = 32) := aa (by rw [← hR]; exact iy _)
 have Lb : Kp (jg h c = R) := ⟨by rw [OW.1, hR]⟩
 rw [hR]
 have HS2 := aa (yE.out.below hb2)
 have HR2 := aa (HR1.out.below hb2)
 have HB2 := aa (ag HB1.out hb2)
 clear hb2 hR CV
 go_upto_region 5 with ((with_reducible show wpList _ _ _ (⟨none, _, _, _, _, _⟩ :: _) _ _); refine wpList_store_row rfl 25 _ _ rfl w2.heap.size (arr .u8 R) rfl rfl _ _ (heap_alloc_new _ _) (aY wW.out) (iC (l := aH 32) rfl wW.out) (dG _) ?_)
 rw [World.setRow_alloc_new]
 try simp only [Act.put]
 have FD : Hid (aX .u8 25 (w2.alloc (.cells (arr .u8 R) 25)) w2.heap.size R) := aa (aX.new _ _)
 have oU := aa (HS2.out.below (af w2 (.cells (arr .u8 R) 25)))
 have HR3 := aa (HR2.out.below (af w2 (.cells (arr .u8 R) 25)))
 have HB3 := aa (ag HB2.out (af w2 (.cells (arr .u8 R) 25)))
 have Ow : Hid (b < w2.heap.size) := aa HS2.out.lt
 obtain ⟨W3, hW3⟩ : ∃ u, w2.alloc (.cells (arr .u8 R) 25) = u := ⟨_, rfl⟩
 rw [hW3] at FD oU HR3 HB3 ⊢
 clear hW3 HS2 HR2 HB2
 obtain ⟨c1, c2⟩ := oU.out.count hl.out
 have zX := aa (oU.out.set32 hl.out (c + 1))
 have HR4 : Hid (aX .u8 25 (W3.setCell ⟨b, 32, none⟩ (.int .i64 (c + 1))) w.heap.size (aH 32)) := aa (HR3.out.set_ne (by have := Le.out; omega))
 have MH : Hid (aX .u8 25 (W3.setCell ⟨b, 32, none⟩ (.int .i64 (c + 1))) w2.heap.size R) := aa (FD.out.set_ne (by have := Ow.out; omega))
 go_wp2_with (first
  | ((with_reducible show wpList _ _ _ (⟨some 29, _, _, _, _, _⟩ :: _) _ _); refine wpList_load_row rfl 25 _ rfl w2.heap.size rfl _ _ _ _ MH.out Tryz.underlying25 rfl (aY wW.out) ?_)
  | ((with_reducible show wpList _ _ _ (⟨none, 28, _, _, _, _⟩ :: _) _ _); fail)
  | (refine wpList_store_row rfl 25 _ _ rfl w.heap.size (arr .u8 R) rfl rfl _ _ HR4.out (aY wW.out) (iC (l := aH 32) rfl wW.out) (dG _) ?_))
 have HRR : Hid (aX .u8 25 ((W3.setCell ⟨b, 32, none⟩ (.int .i64 (c + 1))).setRow w.heap.size (arr .u8 R)) w.heap.size R) := aa HR4.out.setRow
 have Jf : bQ ((W3.setCell ⟨b, 32, none⟩ (.int .i64 (c + 1))).setRow w.heap.size (arr .u8 R)) b h (c + 1) false := (setRow_other _ _ b _ (by have := Le.out; omega)).trans zX.out
 have hGF : w.grownBy ((W3.setCell ⟨b, 32, none⟩ (.int .i64 (c + 1))).setRow w.heap.size (arr .u8 R)) (some b) := iK (bf (aA HB3.out _) (cZ b 32 _)) _ (Nat.le_refl _) _
 exact bodyPost_ret (v := .agg (arr .u8 R)) (iJ (p := 2) (ty := 25) rfl _ _ ⟨w.heap.size, 0, none⟩ _ rfl (run_loadVar_row _ _ _ _ _ _ _ HRR.out Tryz.underlying25 rfl (aY wW.out))) rfl ⟨by rw [Lb.1], Jf, hGF⟩
theorem rq : Tryz.prog.built 27 [] = some (aC (aH 32) 0) := by kernel_rfl
def JG (h : List Int) (c e : Int) : Value := .tuple #[.agg (aC h c), .int .i64 e]
theorem tY (h : List Int) (hl : Hid (h.length = 32)) (c : Int) (f : Bool) (b : Nat) (w : World) (hS : Hid (bQ w b h c f)) :
  Calls Tryz.prog 62 #[.pointer (some ⟨b, 0, none⟩)] w (Rt w (if f = true then JG (aH 32) 0 5 else JG h c 0)) := by
 obtain ⟨W, hW⟩ : ∃ W, w.alloc (.cells #[.int .u8 0, .int .u8 0, .int .u8 0, .int .u8 0, .int .u8 0, .int .u8 0, .int .u8 0, .int .u8 0, .int .u8 0, .int .u8 0, .int .u8 0, .int .u8 0, .int .u8 0, .int .u8 0, .int .u8 0, .int .u8 0, .int .u8 0, .int .u8 0, .int .u8 0, .int .u8 0, .int .u8 0, .int .u8 0, .int .u8 0, .int .u8 0, .int .u8 0, .int .u8 0, .int .u8 0, .int .u8 0, .int .u8 0, .int .u8 0, .int .u8 0, .int .u8 0, .int .i64 0] 27) = W := ⟨_, rfl⟩
 have iN : Hid (Below w.heap.size w W) := aa (by rw [← hW]; exact af _ _)
 have lM : Hid (aG W w.heap.size (aH 32) 0) := aa (by rw [← hW, I9]; exact heap_alloc_new _ _)
 have HS := aa (hS.out.below iN.out)
 have HW := aa hW
 clear hW
 obtain ⟨f1, f2⟩ := HS.out.full hl.out
 cases f with
 | true =>
  rw [if_pos rfl]
  go_in
  go_upto_region 1 with (fail)
  rw [HW.out]
  clear HW
  go_wp2_with (first
   | ((with_reducible show wpList _ _ _ (⟨some 8, _, _, _, _, _⟩ :: _) _ _); refine bS rfl 27 _ rfl _ rq ?_)
   | ((with_reducible show wpList _ _ _ (⟨none, _, _, _, _, _⟩ :: _) _ _); refine wpList_store_row rfl 27 _ _ rfl w.heap.size (aC (aH 32) 0) rfl rfl _ _ lM.out (aj rfl) rfl (aF _ _) ?_))
  have HRR : Hid (aG (W.setRow w.heap.size (aC (aH 32) 0)) w.heap.size (aH 32) 0) := aa lM.out.setRow
  exact bodyPost_ret (v := JG (aH 32) 0 5) (fu (p := 2) (q := 3) (ty := 27) rfl _ _ ⟨w.heap.size, 0, none⟩ _ _ rfl rfl (run_loadVar_row _ _ _ _ _ _ _ HRR.out Tryz.underlying27 rfl (aj rfl))) rfl ⟨rfl, ak iN.out (Nat.le_refl _)⟩
 | false =>
  rw [if_neg (by decide)]
  go_in
  go_upto_region 1 with (fail)
  rw [HW.out]
  clear HW
  go_wp2_with (first
   | ((with_reducible show wpList _ _ _ (⟨some 12, _, _, _, _, _⟩ :: _) _ _); refine wpList_load_mid rfl 27 _ rfl b 0 rfl (aC h c).toList _ (HS.out.range hl.out) Tryz.underlying27 rfl (jT hl.out) ?_)
   | ((with_reducible show wpList _ _ _ (⟨none, _, _, _, _, _⟩ :: _) _ _); refine wpList_store_row rfl 27 _ _ rfl w.heap.size (aC h c) rfl rfl _ _ lM.out (aj hl.out) (dK rfl hl.out) (aF _ _) ?_))
  have HRR : Hid (aG (W.setRow w.heap.size (aC h c)) w.heap.size h c) := aa lM.out.setRow
  exact bodyPost_ret (v := JG h c 0) (fu (p := 2) (q := 3) (ty := 27) rfl _ _ ⟨w.heap.size, 0, none⟩ _ _ rfl rfl (run_loadVar_row _ _ _ _ _ _ _ HRR.out Tryz.underlying27 rfl (aj hl.out))) rfl ⟨rfl, ak iN.out (Nat.le_refl _)⟩
def bG (q : Int) : Int := IntKind.u64.wrap (IntKind.u64.wrap (2 ^ min (Lib.bitLen (q - 1).toNat) 64) - 1)
def bF (h : List Int) (q m : Int) : Nat → Int → Int → Int × Int × Bool
 | 0, c, x => (x.tmod q, c, false)
 | k + 1, c, x => if c = 1099511627776 then (0, c, true) else if bits BinOp.and IntKind.u64 (iF (jg h c)) m < q then (bits BinOp.and IntKind.u64 (iF (jg h c)) m, c + 1, false) else bF h q m k (c + 1) (bits BinOp.and IntKind.u64 (iF (jg h c)) m)
theorem qG {h : List Int} {q m : Int} (hq : 1 ≤ q) : ∀ (k : Nat) (c x : Int), 0 ≤ x → 0 ≤ (bF h q m k c x).1 ∧ (bF h q m k c x).1 < q
 | 0, c, x, hx => by
  simp only [bF]
  rw [Int.tmod_eq_emod_of_nonneg hx]
  exact ⟨Int.emod_nonneg _ (by omega), Int.emod_lt_of_pos _ (by omega)⟩
 | k + 1, c, x, hx => by
  have hb := bits_lo_u64 BinOp.and (iF (jg h c)) m
  simp only [bF]
  by_cases hc : c = 1099511627776
  · rw [if_pos hc]; exact ⟨Int.le_refl _, by show (0 : Int) < q; omega⟩
  ·
   rw [if_neg hc]
   by_cases hy : bits BinOp.and IntKind.u64 (iF (jg h c)) m < q
   · rw [if_pos hy]; exact ⟨hb, hy⟩
   · rw [if_neg hy]; exact qG hq k _ _ hb
theorem jI {h : List Int} {q m : Int} : ∀ (k : Nat) (c x : Int), c ≤ 1099511627776 → c ≤ (bF h q m k c x).2.1 ∧ (bF h q m k c x).2.1 ≤ 1099511627776
 | 0, c, x, hc => ⟨Int.le_refl _, hc⟩
 | k + 1, c, x, hc => by
  simp only [bF]
  by_cases he : c = 1099511627776
  · rw [if_pos he]; exact ⟨Int.le_refl _, hc⟩
  ·
   rw [if_neg he]
   by_cases hy : bits BinOp.and IntKind.u64 (iF (jg h c)) m < q
   · rw [if_pos hy]; exact ⟨by show c ≤ c + 1; omega, by show c + 1 ≤ 1099511627776; omega⟩
   ·
    rw [if_neg hy]
    have h2 := jI (h := h) (q := q) (m := m) k (c + 1) (bits BinOp.and IntKind.u64 (iF (jg h c)) m) (by omega)
    exact ⟨by omega, h2.2⟩
theorem lG (h : List Int) (hl : Hid (h.length = 32)) (hb : Hid (ax h = true)) (q : Int) (hq1 : 1 ≤ q) (hq2 : q < 2305843009213693952) (c : Int) (hc0 : 0 ≤ c) (hc1 : c ≤ 1099511627776) (b : Nat) (w0 : World) (hv : Hid (dx w0)) (w : World) (hB0 : Hid (Below w0.heap.size w0 w)) (hB : w0.heap.size ≤ b) (f0 : Bool) (hf0 : f0 = true → c = 1099511627776) (hS : Hid (bQ w b h c f0)) (n c2 : Int) (f : Bool) (hN : Kp (bF h q (bG q) 256 c 0 = (n, c2, f))) :
  Calls Tryz.prog 61 #[.pointer (some ⟨b, 0, none⟩), .int .i64 q] w fun e w' => e = .returned (.int .i64 n) ∧ bQ w' b h c2 f ∧ w.grownBy w' (some b) := by
 have q0 : IntKind.i64.wrap (q - 1) = q - 1 := IntWalk.i64_in _ (by omega)
 have q2 : IntKind.u64.wrap (q - 1) = q - 1 := by simp [IntKind.wrap, IntKind.bits, IntKind.signed]; omega
 have q3 : IntKind.u64.wrap q = q := by simp [IntKind.wrap, IntKind.bits, IntKind.signed]; omega
 go_in
 go_wp2_with fail
 refine (Tryz.bits_Len64 (q - 1) _ (by omega) (by omega)).mono ?_
 rintro e w1 ⟨rfl, rfl⟩
 obtain ⟨ln, hln⟩ : ∃ n, Lib.bitLen (q - 1).toNat = n := ⟨_, rfl⟩
 obtain ⟨m1, hm1⟩ : ∃ m, IntKind.u64.wrap (2 ^ min ln 64) = m := ⟨_, rfl⟩
 obtain ⟨m, hm⟩ : ∃ m, IntKind.u64.wrap (m1 - 1) = m := ⟨_, rfl⟩
 have HN : Kp (bF h q m 256 c 0 = (n, c2, f)) := ⟨by rw [← hN.1, bG, hln, hm1, hm]⟩
 rw [hln]
 go_wp2
 clear hln hm hm1 hN
 go_loopw [6, 14] (fun x i u => ∃ (k : Nat) (y cc : Int) (ff : Bool), k ≤ 256 ∧ i = .int .i64 k ∧ x = .int .u64 y ∧ Hid (0 ≤ y) ∧ Hid (0 ≤ cc ∧ cc ≤ 1099511627776) ∧ Kp (bF h q m (256 - k) cc y = (n, c2, f)) ∧ Hid (bQ u b h cc ff) ∧ Hid ((ff = true → cc = 1099511627776) ∧ (0 < k → ff = false)) ∧ Hid (w1.grownBy u (some b))) (fun _ i _ => 256 - (intOf i).toNat)
 case atStart => exact ⟨0, 0, c, f0, by omega, rfl, rfl, aa (Int.le_refl _), aa ⟨hc0, hc1⟩, HN, hS, aa ⟨hf0, fun h0 => absurd h0 (Nat.lt_irrefl _)⟩, aa (aA (Below.refl _ _) _)⟩
 case round =>
  obtain ⟨k, y, cc, ff, hk, rfl, rfl, HY, HC, Dw, lK, ML, uD⟩ := hrel
  obtain ⟨Nw, Rc⟩ := HC.out
  by_cases hlt : k < 256
  ·
   have zk : 256 - k = (256 - (k + 1)) + 1 := by omega
   by_cases hcf : cc = 1099511627776
   ·
    subst hcf
    have HE : Kp ((0, 1099511627776, true) = (n, c2, f)) := ⟨by rw [← Dw.1, zk, bF, if_pos rfl]⟩
    go_wp2_with fail
    refine (uh h hl b ff _ lK).mono ?_
    rintro e w2 ⟨rfl, hS2, hG2⟩
    have HS2 := aa hS2
    have HG2 := aa (bf uD.out hG2)
    clear hS2 hG2
    go_upto_region 6 with ((with_reducible show wpList _ _ _ (⟨none, _, _, _, _, _⟩ :: _) _ _); refine wpList_store_row rfl 25 _ _ rfl w2.heap.size (arr .u8 (aH 32)) rfl rfl _ _ (heap_alloc_new _ _) (aY rfl) (iC (l := aH 32) rfl rfl) (dG _) ?_)
    rw [World.setRow_alloc_new]
    try simp only [Act.put]
    have oU := aa (HS2.out.below (af w2 (.cells (arr .u8 (aH 32)) 25)))
    have Lh := aa (jS HG2.out (.cells (arr .u8 (aH 32)) 25))
    obtain ⟨W3, hW3⟩ : ∃ u, w2.alloc (.cells (arr .u8 (aH 32)) 25) = u := ⟨_, rfl⟩
    rw [hW3] at oU Lh ⊢
    clear hW3
    obtain ⟨f1, f2⟩ := oU.out.full hl.out
    have he1 : n = 0 := by have h2 := HE.1; simp only [Prod.mk.injEq] at h2; exact h2.1.symm
    have he2 : c2 = 1099511627776 := by have h2 := HE.1; simp only [Prod.mk.injEq] at h2; exact h2.2.1.symm
    have H9 : f = true := by have h2 := HE.1; simp only [Prod.mk.injEq] at h2; exact h2.2.2.symm
    go_wp2
    go_ret
    exact ⟨by rw [he1]; rfl, by rw [he2, H9]; exact oU.out, Lh.out⟩
   ·
    have hcl : cc < 1099511627776 := by omega
    have EL : ff = false := by
     cases hq : ff with
     | false => rfl
     | true => exact absurd (ML.out.1 hq) hcf
    subst EL
    have zH := aa (hv.out.below (hB0.out.trans (gB uD.out hB hB0.out.size)))
    go_wp2_with fail
    refine (zw h hl hb cc Nw hcl b _ zH lK).mono ?_
    rintro e w2 ⟨rfl, hS2, hG2⟩
    obtain ⟨R, hR⟩ : ∃ R, jg h cc = R := ⟨_, rfl⟩
    have wW : Hid (R.length = 32) := aa (by rw [← hR]; exact CB _ _)
    have Sj : Hid (ax R = true) := aa (by rw [← hR]; exact wN _ _)
    have n_ : Kp ((if bits BinOp.and IntKind.u64 (iF R) m < q then (bits BinOp.and IntKind.u64 (iF R) m, cc + 1, false) else bF h q m (256 - (k + 1)) (cc + 1) (bits BinOp.and IntKind.u64 (iF R) m)) = (n, c2, f)) := ⟨by rw [← Dw.1, zk, bF, if_neg hcf, hR]⟩
    rw [hR]
    have HS2 := aa hS2
    have HG2 := aa (bf uD.out hG2)
    clear hS2 hG2 hR Dw zk
    go_upto_region 6 with ((with_reducible show wpList _ _ _ (⟨none, _, _, _, _, _⟩ :: _) _ _); refine wpList_store_row rfl 25 _ _ rfl w2.heap.size (arr .u8 R) rfl rfl _ _ (heap_alloc_new _ _) (aY wW.out) (iC (l := aH 32) rfl wW.out) (dG _) ?_)
    rw [World.setRow_alloc_new]
    try simp only [Act.put]
    have FD : Hid (aX .u8 25 (w2.alloc (.cells (arr .u8 R) 25)) w2.heap.size R) := aa (aX.new _ _)
    have oU := aa (HS2.out.below (af w2 (.cells (arr .u8 R) 25)))
    have Lh := aa (jS HG2.out (.cells (arr .u8 R) 25))
    obtain ⟨W3, hW3⟩ : ∃ u, w2.alloc (.cells (arr .u8 R) 25) = u := ⟨_, rfl⟩
    rw [hW3] at oU Lh FD ⊢
    clear hW3
    obtain ⟨f1, f2⟩ := oU.out.full hl.out
    go_wp2_with ((with_reducible show wpList _ _ _ (⟨some 22, _, _, _, _, _⟩ :: _) _ _); refine wpList_load_row rfl 25 _ rfl w2.heap.size rfl _ _ _ _ FD.out Tryz.underlying25 rfl (aY wW.out) ?_)
    clear f1 f2
    refine (wm R wW Sj _).mono ?_
    rintro e w4 ⟨rfl, hb4⟩
    have zX := aa (oU.out.below hb4)
    have Qm := aa (bf Lh.out (aA hb4 _))
    have hz0 := bits_lo_u64 BinOp.and (iF R) m
    obtain ⟨z, hz⟩ : ∃ z, bits BinOp.and IntKind.u64 (iF R) m = z := ⟨_, rfl⟩
    rw [hz] at hz0 n_
    obtain ⟨fr, hfr⟩ : ∃ z, iF R = z := ⟨_, rfl⟩
    rw [hfr] at hz ⊢
    clear hb4 hfr
    by_cases M8 : z < q
    ·
     have HE : Kp ((z, cc + 1, false) = (n, c2, f)) := ⟨by rw [← n_.1, if_pos M8]⟩
     have d1 : decide (z < q) = true := by simp [M8]
     have z1 : IntKind.i64.wrap z = z := IntWalk.i64_in _ (by omega)
     have he1 : n = z := by have h2 := HE.1; simp only [Prod.mk.injEq] at h2; exact h2.1.symm
     have he2 : c2 = cc + 1 := by have h2 := HE.1; simp only [Prod.mk.injEq] at h2; exact h2.2.1.symm
     have H9 : f = false := by have h2 := HE.1; simp only [Prod.mk.injEq] at h2; exact h2.2.2.symm
     have JD := aa he1
     have HE2 := aa he2
     have OH := aa H9
     clear n_ he1 he2 H9
     go_wp2
     go_ret
     exact ⟨by rw [JD.out]; rfl, by rw [HE2.out, OH.out]; exact zX.out, Qm.out⟩
    ·
     have HE : Kp (bF h q m (256 - (k + 1)) (cc + 1) z = (n, c2, f)) := ⟨by rw [← n_.1, if_neg M8]⟩
     have d1 : decide (z < q) = false := by simp; omega
     have HZ0 := aa hz0
     have JE : Hid (0 ≤ cc + 1 ∧ cc + 1 ≤ 1099511627776) := aa (by omega)
     clear n_
     go_wp2
     go_roundw
     case rel => exact ⟨k + 1, z, cc + 1, false, by omega, by go_num, rfl, HZ0, JE, HE, zX, aa ⟨(fun h0 => absurd h0 (by decide)), (fun _ => rfl)⟩, Qm⟩
     case measure => simp [intOf]; omega
  ·
   obtain rfl : k = 256 := by omega
   obtain rfl : ff = false := ML.out.2 (by omega)
   have hy := HY.out
   have HE : Kp ((y.tmod q, cc, false) = (n, c2, f)) := ⟨by rw [← Dw.1]; rfl⟩
   obtain ⟨z, hz⟩ : ∃ z, y.tmod q = z := ⟨_, rfl⟩
   have hz0 : 0 ≤ z ∧ z < q := by
    rw [← hz, Int.tmod_eq_emod_of_nonneg hy]
    exact ⟨Int.emod_nonneg _ (by omega), Int.emod_lt_of_pos _ (by omega)⟩
   have z1 : IntKind.i64.wrap z = z := IntWalk.i64_in _ (by omega)
   have qz : ((q : Int) == 0) = false := by simp; omega
   have TJ : ¬ (q = 0) := by omega
   have he1 : n = z := by have h2 := HE.1; simp only [Prod.mk.injEq] at h2; rw [← hz]; exact h2.1.symm
   have he2 : c2 = cc := by have h2 := HE.1; simp only [Prod.mk.injEq] at h2; exact h2.2.1.symm
   have H9 : f = false := by have h2 := HE.1; simp only [Prod.mk.injEq] at h2; exact h2.2.2.symm
   have JD := aa he1
   have HE2 := aa he2
   have OH := aa H9
   clear HE he1 he2 H9 hlt Dw
   go_wp2
   go_ret
   exact ⟨by rw [JD.out]; rfl, by rw [HE2.out, OH.out]; exact lK.out, uD.out⟩
def iU (h : List Int) (q c : Int) : Nat → Int × Bool
 | 0 => (c, false)
 | k + 1 => ((bF h q (bG q) 256 (iU h q c k).1 0).2.1, (bF h q (bG q) 256 (iU h q c k).1 0).2.2)
def xD (h : List Int) (q c : Int) (k : Nat) : Int := (bF h q (bG q) 256 (iU h q c k).1 0).1
def gL (h : List Int) (q c : Int) (n : Nat) : List Int := (List.range n).map (xD h q c)
theorem nD (h : List Int) (q c : Int) (n : Nat) : (gL h q c n).length = n := by simp [gL]
theorem y9 (h : List Int) (q c : Int) (k : Nat) : gL h q c (k + 1) = gL h q c k ++ [xD h q c k] := by simp [gL, List.range_succ]
theorem pK {h : List Int} {q m : Int} : ∀ (k : Nat) (c x : Int), (bF h q m k c x).2.2 = true → (bF h q m k c x).2.1 = 1099511627776
 | 0, c, x, hf => by simp [bF] at hf
 | k + 1, c, x, hf => by
  simp only [bF] at hf ⊢
  by_cases he : c = 1099511627776
  · rw [if_pos he]; exact he
  ·
   rw [if_neg he] at hf ⊢
   by_cases hy : bits BinOp.and IntKind.u64 (iF (jg h c)) m < q
   · rw [if_pos hy] at hf; cases hf
   · rw [if_neg hy] at hf ⊢; exact pK k _ _ hf
theorem Ap {h : List Int} {q c : Int} (hc0 : 0 ≤ c) (hc1 : c ≤ 1099511627776) : ∀ k, 0 ≤ (iU h q c k).1 ∧ (iU h q c k).1 ≤ 1099511627776 ∧ ((iU h q c k).2 = true → (iU h q c k).1 = 1099511627776)
 | 0 => ⟨hc0, hc1, fun h => by cases h⟩
 | k + 1 => by
  obtain ⟨h0, h1, _⟩ := Ap (h := h) (q := q) hc0 hc1 k
  have h2 := jI (h := h) (q := q) (m := bG q) 256 (iU h q c k).1 0 h1
  exact ⟨by show 0 ≤ (bF h q (bG q) 256 (iU h q c k).1 0).2.1; omega, h2.2, pK 256 _ _⟩
theorem JK {h : List Int} {q c : Int} (hq : 1 ≤ q) (k : Nat) : 0 ≤ xD h q c k ∧ xD h q c k < q := qG hq _ _ _ (Int.le_refl _)
theorem xP {h : List Int} {q c : Int} (hq : 1 ≤ q) (n : Nat) : (gL h q c n).all (aQ q) = true := by
 rw [List.all_eq_true]
 intro x hx
 obtain ⟨i, _, rfl⟩ := List.mem_map.1 hx
 have := JK (h := h) (c := c) hq i
 simp [aQ]; exact this
theorem Cz (h : List Int) (hl : h.length = 32) (c : Int) : Tryz.prog.built 87 [(0, .agg (aC h c))] = some (oI h c false) := by
 obtain ⟨a0, a1, a2, a3, a4, a5, a6, a7, a8, a9, Mi, Mh, a12, Mg, Mf, Me, a16, a17, Md, Mc, a20, a21, a22, a23, a24, a25, a26, a27, a28, a29, a30, a31, rfl⟩ := G5 h hl
 kernel_rfl
def rD (h : List Int) (q c : Int) (n : Nat) (w : World) (e : Ending) (w' : World) : Prop :=
 if (iU h q c n).2 = true then e = .returned (.tuple #[.agg (aC (aH 32) 0), .slice none 0 0, .int .i64 5]) ∧ Below w.heap.size w w'
 else ∃ v, e = .returned (.tuple #[.agg (aC h (iU h q c n).1), v, .int .i64 0]) ∧ aT w' w.heap.size v (gL h q c n) ∧ Below w.heap.size w w'
theorem pR (h : List Int) (hl : Hid (h.length = 32)) (hb : Hid (ax h = true)) (c : Int) (hdr : Hid (oN c = true)) (q : Int) (hq1 : 1 ≤ q) (hq2 : q < 2305843009213693952) (n : Nat) (hn : n ≤ 1000) (w : World) (hv : Hid (dx w)) :
  Calls Tryz.prog 24 #[.agg (aC h c), .int .i64 q, .int .i64 n] w (rD h q c n w) := by
 obtain ⟨hc0, hc1⟩ : 0 ≤ c ∧ c ≤ 1099511627776 := by have h2 := hdr.out; simp [oN] at h2; exact h2
 obtain ⟨i0, hi, hz0, hz1, hz2⟩ := info_parts fD
 obtain ⟨W, hW⟩ : ∃ W, (w.alloc (.cells (aC h c) 27)).alloc (.cells #[.int .u8 0, .int .u8 0, .int .u8 0, .int .u8 0, .int .u8 0, .int .u8 0, .int .u8 0, .int .u8 0, .int .u8 0, .int .u8 0, .int .u8 0, .int .u8 0, .int .u8 0, .int .u8 0, .int .u8 0, .int .u8 0, .int .u8 0, .int .u8 0, .int .u8 0, .int .u8 0, .int .u8 0, .int .u8 0, .int .u8 0, .int .u8 0, .int .u8 0, .int .u8 0, .int .u8 0, .int .u8 0, .int .u8 0, .int .u8 0, .int .u8 0, .int .u8 0, .int .i64 0] 27) = W := ⟨_, rfl⟩
 have iN : Hid (Below w.heap.size w W) := aa (by rw [← hW]; exact aZ (Below.refl _ _))
 have HT0 : Hid (aG W w.heap.size h c) := aa (by rw [← hW]; exact heap_alloc2_old _ _ _)
 have lM : Hid (aG W (w.heap.size + 1) (aH 32) 0) := aa (by rw [← hW, I9]; exact heap_alloc2_new _ _ _)
 have Dq : Hid (W.heap.size = w.heap.size + 2) := aa (by rw [← hW]; simp)
 have HV := aa (hv.out.below iN.out)
 have HW := aa hW
 clear hW hv
 go_in
 go_upto_region 1 with (fail)
 rw [HW.out]
 clear HW
 go_wp2_with ((with_reducible show wpList _ _ _ (⟨some 12, _, _, _, _, _⟩ :: _) _ _); refine wpList_load_row rfl 27 _ rfl w.heap.size rfl _ _ _ _ HT0.out Tryz.underlying27 rfl (aj hl.out) ?_)
 refine (kT h hl c hdr q 1 2305843009213693951 hq1 (by omega) _).mono ?_
 rintro e w1 ⟨rfl, hb1⟩
 have HT1 := aa (HT0.out.below hb1)
 have HB1 := aa (ag iN.out hb1)
 have Lp := aa hb1
 clear hb1
 go_wp2_with ((with_reducible show wpList _ _ _ (⟨some 17, _, _, _, _, _⟩ :: _) _ _); refine wpList_load_row rfl 27 _ rfl w.heap.size rfl _ _ _ _ HT1.out Tryz.underlying27 rfl (aj hl.out) ?_)
 refine (kT h hl c hdr n 0 1000 (by omega) (by omega) _).mono ?_
 rintro e w2 ⟨rfl, hb2⟩
 have HT2 := aa (HT1.out.below hb2)
 have HB2 := aa (ag HB1.out hb2)
 have uF := aa (ag Lp.out hb2)
 have IB := aa (HV.out.below uF.out)
 clear hb2 HT1 HB1 Lp
 go_wp2_with (first
  | ((with_reducible show wpList _ _ _ (⟨some 24, _, _, _, _, _⟩ :: _) _ _); refine wpList_load_row rfl 27 _ rfl w.heap.size rfl _ _ _ _ HT2.out Tryz.underlying27 rfl (aj hl.out) ?_)
  | ((with_reducible show wpList _ _ _ (⟨some 25, _, _, _, _, _⟩ :: _) _ _); refine bS rfl 87 _ rfl _ (Cz h hl.out c) ?_))
 have Ih : bQ (w2.alloc (.cells (oI h c false) 87)) w2.heap.size h c false := heap_alloc_new _ _
 have hb3 := af w2 (.cells (oI h c false) 87)
 have vH : (w2.alloc (.cells (oI h c false) 87)).heap.size = w2.heap.size + 1 := by simp
 obtain ⟨W3, hW3⟩ : ∃ u, w2.alloc (.cells (oI h c false) 87) = u := ⟨_, rfl⟩
 rw [hW3] at Ih hb3 vH ⊢
 have oU := aa Ih
 have HB3 := aa hb3
 have CS := aa vH
 obtain ⟨b, hbb⟩ : ∃ b, w2.heap.size = b := ⟨_, rfl⟩
 rw [hbb] at oU CS ⊢
 have FM := aa hbb
 have hbw : w.heap.size + 2 ≤ b := by have := uF.out.size; have := Dq.out; omega
 clear Ih hb3 vH hW3 hbb
 go_loopw [11, 28] (fun v i u => ∃ k : Nat, k ≤ n ∧ i = .int .i64 k ∧ Hid (bQ u b h (iU h q c k).1 (iU h q c k).2) ∧ Hid (aT u (b + 1) v (gL h q c k)) ∧ Hid (Below b w2 u) ∧ Hid (b + 1 ≤ u.heap.size)) (fun _ i _ => n - (intOf i).toNat)
 case atStart => exact ⟨0, by omega, rfl, oU, aa (jF _ _), aa (by have h2 := HB3.out; rwa [FM.out] at h2), aa (by have := CS.out; omega)⟩
 case round =>
  obtain ⟨k, hk, rfl, lK, HO, aB, KM⟩ := hrel
  by_cases hlt : k < n
  ·
   obtain ⟨hk0, hk1, Nt⟩ := Ap (h := h) (q := q) hc0 hc1 k
   have HST : Hid (iU h q c (k + 1) = ((bF h q (bG q) 256 (iU h q c k).1 0).2.1, (bF h q (bG q) 256 (iU h q c k).1 0).2.2)) := aa rfl
   have HX : Hid (xD h q c k = (bF h q (bG q) 256 (iU h q c k).1 0).1) := aa rfl
   have Qe := aa (y9 h q c k)
   have rF := aa (nD h q c k)
   obtain ⟨cc, hcc⟩ : ∃ x, (iU h q c k).1 = x := ⟨_, rfl⟩
   obtain ⟨ff, EL⟩ : ∃ x, (iU h q c k).2 = x := ⟨_, rfl⟩
   obtain ⟨L, hL⟩ : ∃ x, gL h q c k = x := ⟨_, rfl⟩
   obtain ⟨x, hx⟩ : ∃ x, xD h q c k = x := ⟨_, rfl⟩
   obtain ⟨r, hr⟩ : ∃ x, bF h q (bG q) 256 cc 0 = x := ⟨_, rfl⟩
   rw [hcc, hr] at HST HX
   rw [hL, hx] at Qe
   rw [hL] at rF HO
   rw [hx] at HX
   rw [hcc, EL] at lK
   rw [hcc] at hk0 hk1 Nt
   rw [EL] at Nt
   obtain ⟨rn, rc, rf⟩ := r
   have Lb : Kp (bF h q (bG q) 256 cc 0 = (rn, rc, rf)) := ⟨hr⟩
   obtain rfl : x = rn := HX.out
   clear hcc EL hL hx hr HX
   go_wp2_with fail
   refine (lG h hl hb q hq1 hq2 cc hk0 hk1 b w2 IB _ (aa (by have h2 := aB.out; rwa [← FM.out] at h2)) (by rw [FM.out]; exact Nat.le_refl _) ff Nt lK x rc rf Lb).mono ?_
   rintro e w4 ⟨rfl, Kq, hG4⟩
   have zX := aa Kq
   have yH : Hid (Below b w2 w4) := aa (aB.out.trans (gB hG4 (Nat.le_refl _) (by have := KM.out; omega)))
   have KN : Hid (b + 1 ≤ w4.heap.size) := aa (Nat.le_trans KM.out hG4.size)
   have IM : Hid (aT w4 (b + 1) u11 L) := aa (World.ownsRow.kept HO.out hG4 (Or.inr (fun e => by have := (World.ownsRow.lt HO.out _ e).1; omega)))
   have hown : w4.ownsRow (b + 1) 3 1 u11 k (L.map (Value.int .i64)) := by
    have h3 := IM.out
    unfold aT at h3
    rwa [rF.out] at h3
   have hbs := KN.out
   clear Kq hG4 HO
   go_wp2_with (at_builtin; refine wpList_append_own _ rfl _ _ 30 rfl (b + 1) 3 i0 (.int .i64 0) 1 8 Tryz.underlying30 hi hz0 hz1 hz2 rfl (by decide) _ _ _ rfl (hown.alloc _) ⟨w4.heap.size, 0, none⟩ 1 1 [.int .i64 x] rfl rfl (cell_one_new _ _ _) (ints_oneCell .i64 [x]) (by unfold maxLen; omega) (by omega) (by simp; omega) ?_; intro v' w5 hown1 hgrow1 _)
   have MB : Hid (aT w5 (b + 1) v' (gL h q c (k + 1))) := aa (by
    rw [Qe.out]
    exact aT.app rF.out.symm hown1)
   have Gx : Hid (Below b w2 w5) := aa ((yH.out.alloc (by omega) (.cells #[.int .i64 x] 3)).grown hgrow1 (by simp; omega) (fun j hj => by have := (World.ownsRow.lt IM.out j hj).1; omega))
   have RD : Hid (b + 1 ≤ w5.heap.size) := aa (by have h2 := hgrow1.size; simp at h2; omega)
   have Sd : Hid (bQ w5 b h (iU h q c (k + 1)).1 (iU h q c (k + 1)).2) := aa (by
    rw [HST.out]
    have h2 : bQ (w4.alloc (.cells #[.int .i64 x] 3)) b h rc rf := zX.out.below (af _ _)
    exact (hgrow1.block b h2.lt (fun e => by have := (World.ownsRow.lt IM.out _ e.symm).1; omega)).trans h2)
   clear hown hown1 hgrow1
   go_roundw
   case rel => exact ⟨k + 1, by omega, by go_num, Sd, MB, Gx, RD⟩
   case measure => simp [intOf]; omega
  ·
   obtain rfl : k = n := by omega
   clear hlt
   have HT3 : Hid (aG wr w.heap.size h c) := aa ((aB.out.block _ (by omega)).trans HT2.out)
   have HR3 : Hid (aG wr (w.heap.size + 1) (aH 32) 0) := aa ((aB.out.block _ (by omega)).trans (lM.out.below uF.out))
   have bO : Hid (Below w.heap.size w wr) := aa (HB2.out.trans (aB.out.mono (by omega)))
   have IQ : Hid (rD h q c k w = fun e w' => if (iU h q c k).2 = true then e = .returned (.tuple #[.agg (aC (aH 32) 0), .slice none 0 0, .int .i64 5]) ∧ Below w.heap.size w w' else ∃ v, e = .returned (.tuple #[.agg (aC h (iU h q c k).1), v, .int .i64 0]) ∧ aT w' w.heap.size v (gL h q c k) ∧ Below w.heap.size w w') := aa rfl
   obtain ⟨cc, hcc⟩ : ∃ x, (iU h q c k).1 = x := ⟨_, rfl⟩
   obtain ⟨ff, EL⟩ : ∃ x, (iU h q c k).2 = x := ⟨_, rfl⟩
   obtain ⟨L, hL⟩ : ∃ x, gL h q c k = x := ⟨_, rfl⟩
   rw [hcc, EL, hL] at IQ
   rw [hcc, EL] at lK
   rw [hL] at HO
   clear hcc EL hL aB HB2 HT2 lM uF
   go_wp2_with fail
   refine (tY h hl cc ff b _ lK).mono ?_
   rintro e w5 ⟨rfl, hb5⟩
   have N8 := aa (HT3.out.below hb5)
   have P8 := aa (HR3.out.below hb5)
   have Gx := aa (ag bO.out hb5)
   have MB : Hid (aT w5 (b + 1) u11 L) := aa (World.ownsRow.kept HO.out (aA hb5 none) (by cases hq : u11.ownBlock with | none => exact Or.inl rfl | some j => exact Or.inr (by simp)))
   clear hb5 HT3 HR3 bO HO lK
   cases ff with
   | true =>
    rw [if_pos rfl, show JG (aH 32) 0 5 = .tuple #[.agg (aC (aH 32) 0), .int .i64 5] from rfl]
    have K8 : Hid (aG (w5.setRow w.heap.size (aC (aH 32) 0)) (w.heap.size + 1) (aH 32) 0) := aa ((setRow_other _ _ _ _ (by omega)).trans P8.out)
    have OX := aa (ak (cs := aC (aH 32) 0) Gx.out (Nat.le_refl _))
    go_wp2_with (first
     | ((with_reducible show wpList _ _ _ (⟨some 44, _, _, _, _, _⟩ :: _) _ _); refine bS rfl 27 _ rfl _ rq ?_)
     | ((with_reducible show wpList _ _ _ (⟨none, Op.store _ (Operand.tmp 3) _, _, _, _, _⟩ :: _) _ _); refine wpList_store_row rfl 27 _ _ rfl w.heap.size (aC (aH 32) 0) rfl rfl _ _ N8.out (aj rfl) (dK hl.out rfl) (aF _ _) ?_)
     | ((with_reducible show wpList _ _ _ (⟨none, Op.store _ (Operand.tmp 6) _, _, _, _, _⟩ :: _) _ _); refine wpList_store_row rfl 27 _ _ rfl (w.heap.size + 1) (aC (aH 32) 0) rfl rfl _ _ K8.out (aj rfl) rfl (aF _ _) ?_))
    have HRR : Hid (aG ((w5.setRow w.heap.size (aC (aH 32) 0)).setRow (w.heap.size + 1) (aC (aH 32) 0)) (w.heap.size + 1) (aH 32) 0) := aa K8.out.setRow
    have og := ak (cs := aC (aH 32) 0) OX.out (Nat.le_succ _)
    exact bodyPost_ret (v := .tuple #[.agg (aC (aH 32) 0), .slice none 0 0, .int .i64 5]) (a_ (p := 6) (q := 7) (r := 8) (ty := 27) rfl _ _ ⟨w.heap.size + 1, 0, none⟩ _ _ _ rfl rfl rfl (run_loadVar_row _ _ _ _ _ _ _ HRR.out Tryz.underlying27 rfl (aj rfl))) rfl (by rw [IQ.out]; show (if True then _ else _ : Prop); rw [if_pos trivial]; exact ⟨rfl, og⟩)
   | false =>
    rw [if_neg (by decide), show JG h cc 0 = .tuple #[.agg (aC h cc), .int .i64 0] from rfl]
    have R4 : Hid (aG (w5.setRow w.heap.size (aC h cc)) w.heap.size h cc) := aa N8.out.setRow
    have K8 : Hid (aG (w5.setRow w.heap.size (aC h cc)) (w.heap.size + 1) (aH 32) 0) := aa ((setRow_other _ _ _ _ (by omega)).trans P8.out)
    have OX := aa (ak (cs := aC h cc) Gx.out (Nat.le_refl _))
    go_wp2_with (first
     | ((with_reducible show wpList _ _ _ (⟨some 46, _, _, _, _, _⟩ :: _) _ _); refine wpList_load_row rfl 27 _ rfl w.heap.size rfl _ _ _ _ R4.out Tryz.underlying27 rfl (aj hl.out) ?_)
     | ((with_reducible show wpList _ _ _ (⟨none, Op.store _ (Operand.tmp 3) _, _, _, _, _⟩ :: _) _ _); refine wpList_store_row rfl 27 _ _ rfl w.heap.size (aC h cc) rfl rfl _ _ N8.out (aj hl.out) (dK hl.out hl.out) (aF _ _) ?_)
     | ((with_reducible show wpList _ _ _ (⟨none, Op.store _ (Operand.tmp 6) _, _, _, _, _⟩ :: _) _ _); refine wpList_store_row rfl 27 _ _ rfl (w.heap.size + 1) (aC h cc) rfl rfl _ _ K8.out (aj hl.out) (dK rfl hl.out) (aF _ _) ?_))
    have HRR : Hid (aG ((w5.setRow w.heap.size (aC h cc)).setRow (w.heap.size + 1) (aC h cc)) (w.heap.size + 1) h cc) := aa K8.out.setRow
    have og := ak (cs := aC h cc) OX.out (Nat.le_succ _)
    have Gr : aT (w5.setRow w.heap.size (aC h cc)) (b + 1) u11 L := World.ownsRow.kept MB.out (gz _ _ _) (Or.inr (fun e => by have := (World.ownsRow.lt MB.out _ e).1; omega))
    have Ju : aT ((w5.setRow w.heap.size (aC h cc)).setRow (w.heap.size + 1) (aC h cc)) (b + 1) u11 L := World.ownsRow.kept Gr (gz _ _ _) (Or.inr (fun e => by have := (World.ownsRow.lt Gr _ e).1; omega))
    exact bodyPost_ret (v := .tuple #[.agg (aC h cc), u11, .int .i64 0]) (a_ (p := 6) (q := 7) (r := 8) (ty := 27) rfl _ _ ⟨w.heap.size + 1, 0, none⟩ _ _ _ rfl rfl rfl (run_loadVar_row _ _ _ _ _ _ _ HRR.out Tryz.underlying27 rfl (aj hl.out))) rfl (by rw [IQ.out]; show (if (false = true) then _ else _ : Prop); rw [if_neg (by decide)]; exact ⟨u11, rfl, aT.mono Ju (by omega), og⟩)
def pJ (h : List Int) (q : Int) : Nat → Int → Int × Int × Bool
 | 0, c => (1, c, false)
 | k + 1, c => if (bF h q (bG q) 256 c 0).2.2 = true then (0, (bF h q (bG q) 256 c 0).2.1, true) else if (bF h q (bG q) 256 c 0).1 = 0 then pJ h q k (bF h q (bG q) 256 c 0).2.1 else bF h q (bG q) 256 c 0
theorem vz {h : List Int} {q : Int} (hq : 2 ≤ q) : ∀ (k : Nat) (c : Int), c ≤ 1099511627776 → (pJ h q k c).2.2 = false → 0 < (pJ h q k c).1 ∧ (pJ h q k c).1 < q ∧ c ≤ (pJ h q k c).2.1 ∧ (pJ h q k c).2.1 ≤ 1099511627776
 | 0, c, hc, _ => by simp only [pJ]; omega
 | k + 1, c, hc, hf => by
  have h1 := qG (h := h) (m := bG q) (show 1 ≤ q by omega) 256 c 0 (Int.le_refl _)
  have h2 := jI (h := h) (q := q) (m := bG q) 256 c 0 hc
  simp only [pJ] at hf ⊢
  by_cases hF : (bF h q (bG q) 256 c 0).2.2 = true
  · rw [if_pos hF] at hf; cases hf
  ·
   rw [if_neg hF] at hf ⊢
   by_cases hz : (bF h q (bG q) 256 c 0).1 = 0
   ·
    rw [if_pos hz] at hf ⊢
    have h3 := vz hq k _ h2.2 hf
    omega
   ·
    rw [if_neg hz] at hf ⊢
    omega
theorem qU (h : List Int) (hl : Hid (h.length = 32)) (hb : Hid (ax h = true)) (c : Int) (hdr : Hid (oN c = true)) (q : Int) (hq1 : 2 ≤ q) (hq2 : q < 2305843009213693952) (n rc : Int) (f : Bool) (HN : Kp (pJ h q 256 c = (n, rc, f)))
  (hh : List Int) (cc ee nn : Int) (hR : Hid ((if f = true then uL (aH 32) 0 0 5 else uL h rc n 0) = uL hh cc nn ee)) (w : World) (hv : Hid (dx w)) :
  Calls Tryz.prog 23 #[.agg (aC h c), .int .i64 q] w (Rt w (uL hh cc nn ee)) := by
 obtain ⟨hc0, hc1⟩ : 0 ≤ c ∧ c ≤ 1099511627776 := by have h2 := hdr.out; simp [oN] at h2; exact h2
 obtain ⟨W, hW⟩ : ∃ W, (w.alloc (.cells (aC h c) 27)).alloc (.cells #[.int .u8 0, .int .u8 0, .int .u8 0, .int .u8 0, .int .u8 0, .int .u8 0, .int .u8 0, .int .u8 0, .int .u8 0, .int .u8 0, .int .u8 0, .int .u8 0, .int .u8 0, .int .u8 0, .int .u8 0, .int .u8 0, .int .u8 0, .int .u8 0, .int .u8 0, .int .u8 0, .int .u8 0, .int .u8 0, .int .u8 0, .int .u8 0, .int .u8 0, .int .u8 0, .int .u8 0, .int .u8 0, .int .u8 0, .int .u8 0, .int .u8 0, .int .u8 0, .int .i64 0] 27) = W := ⟨_, rfl⟩
 have iN : Hid (Below w.heap.size w W) := aa (by rw [← hW]; exact aZ (Below.refl _ _))
 have HT0 : Hid (aG W w.heap.size h c) := aa (by rw [← hW]; exact heap_alloc2_old _ _ _)
 have lM : Hid (aG W (w.heap.size + 1) (aH 32) 0) := aa (by rw [← hW, I9]; exact heap_alloc2_new _ _ _)
 have Dq : Hid (W.heap.size = w.heap.size + 2) := aa (by rw [← hW]; simp)
 have HV := aa (hv.out.below iN.out)
 have HW := aa hW
 clear hW hv
 go_in
 go_upto_region 1 with (fail)
 rw [HW.out]
 clear HW
 go_wp2_with ((with_reducible show wpList _ _ _ (⟨some 10, _, _, _, _, _⟩ :: _) _ _); refine wpList_load_row rfl 27 _ rfl w.heap.size rfl _ _ _ _ HT0.out Tryz.underlying27 rfl (aj hl.out) ?_)
 refine (kT h hl c hdr q 2 2305843009213693951 hq1 (by omega) _).mono ?_
 rintro e w2 ⟨rfl, hb2⟩
 have HT2 := aa (HT0.out.below hb2)
 have HR2 := aa (lM.out.below hb2)
 have HB2 := aa (ag iN.out hb2)
 have IB := aa (HV.out.below hb2)
 have HZ2 : Hid (w.heap.size + 2 ≤ w2.heap.size) := aa (by have := hb2.size; have := Dq.out; omega)
 clear hb2 HT0 lM iN HV
 go_wp2_with (first
  | ((with_reducible show wpList _ _ _ (⟨some 17, _, _, _, _, _⟩ :: _) _ _); refine wpList_load_row rfl 27 _ rfl w.heap.size rfl _ _ _ _ HT2.out Tryz.underlying27 rfl (aj hl.out) ?_)
  | ((with_reducible show wpList _ _ _ (⟨some 18, _, _, _, _, _⟩ :: _) _ _); refine bS rfl 87 _ rfl _ (Cz h hl.out c) ?_))
 have Ih : bQ (w2.alloc (.cells (oI h c false) 87)) w2.heap.size h c false := heap_alloc_new _ _
 have hb3 := af w2 (.cells (oI h c false) 87)
 have vH : (w2.alloc (.cells (oI h c false) 87)).heap.size = w2.heap.size + 1 := by simp
 obtain ⟨W3, hW3⟩ : ∃ u, w2.alloc (.cells (oI h c false) 87) = u := ⟨_, rfl⟩
 rw [hW3] at Ih hb3 vH ⊢
 have oU := aa Ih
 have HB3 := aa hb3
 have CS := aa vH
 obtain ⟨b, hbb⟩ : ∃ b, w2.heap.size = b := ⟨_, rfl⟩
 rw [hbb] at oU CS ⊢
 have FM := aa hbb
 have hbw : w.heap.size + 2 ≤ b := by have := HZ2.out; omega
 clear Ih hb3 vH hW3 hbb
 go_loopw [20] (fun i u => ∃ (k : Nat) (d : Int), k ≤ 256 ∧ i = .int .i64 k ∧ Hid (0 ≤ d ∧ d ≤ 1099511627776) ∧ Kp (pJ h q (256 - k) d = (n, rc, f)) ∧ Hid (bQ u b h d false) ∧ Hid (Below b w2 u) ∧ Hid (b + 1 ≤ u.heap.size)) (fun i _ => 256 - (intOf i).toNat)
 case atStart => exact ⟨0, c, by omega, rfl, aa ⟨hc0, hc1⟩, HN, oU, aa (by have h2 := HB3.out; rwa [FM.out] at h2), aa (by have := CS.out; omega)⟩
 case round =>
  obtain ⟨k, d, hk, rfl, HD, Dw, lK, aB, KM⟩ := hrel
  obtain ⟨hd0, hd1⟩ := HD.out
  by_cases hlt : k < 256
  ·
   have zk : 256 - k = (256 - (k + 1)) + 1 := by omega
   obtain ⟨r, hr⟩ : ∃ x, bF h q (bG q) 256 d 0 = x := ⟨_, rfl⟩
   obtain ⟨x, r2, rf⟩ := r
   have Lb : Kp (bF h q (bG q) 256 d 0 = (x, r2, rf)) := ⟨hr⟩
   have HD2 : Hid (0 ≤ r2 ∧ r2 ≤ 1099511627776) := aa (by
    have h2 := jI (h := h) (q := q) (m := bG q) 256 d 0 hd1
    rw [hr] at h2
    exact ⟨Int.le_trans hd0 h2.1, h2.2⟩)
   have n_ : Kp ((if rf = true then (0, r2, true) else if x = 0 then pJ h q (256 - (k + 1)) r2 else (x, r2, rf)) = (n, rc, f)) := ⟨by rw [← Dw.1, zk, pJ, hr]⟩
   clear hr Dw zk
   go_wp2_with fail
   refine (lG h hl hb q (by omega) hq2 d hd0 hd1 b w2 IB _ (aa (by have h2 := aB.out; rwa [← FM.out] at h2)) (by rw [FM.out]; exact Nat.le_refl _) false (fun e => by cases e) lK x r2 rf Lb).mono ?_
   rintro e w4 ⟨rfl, Kq, hG4⟩
   have zX := aa Kq
   have yH : Hid (Below b w2 w4) := aa (aB.out.trans (gB hG4 (Nat.le_refl _) (by have := KM.out; omega)))
   have KN : Hid (b + 1 ≤ w4.heap.size) := aa (Nat.le_trans KM.out hG4.size)
   clear Kq hG4
   obtain ⟨f1, f2⟩ := zX.out.full hl.out
   have HR4 : Hid (aG w4 (w.heap.size + 1) (aH 32) 0) := aa ((yH.out.block _ (by omega)).trans HR2.out)
   have bO : Hid (Below w.heap.size w w4) := aa (HB2.out.trans (yH.out.mono (by omega)))
   cases rf with
   | true =>
    have Ga : uL (aH 32) 0 0 5 = uL hh cc nn ee := by
     have h2 := n_.1
     rw [if_pos rfl] at h2
     have h3 := hR.out
     rw [if_pos (by have h4 := congrArg (fun p => p.2.2) h2; exact h4.symm)] at h3
     exact h3
    have IJ := aa Ga
    clear Ga hR n_
    go_wp2_with (first
     | ((with_reducible show wpList _ _ _ (⟨some 29, _, _, _, _, _⟩ :: _) _ _); refine bS rfl 27 _ rfl _ rq ?_)
     | ((with_reducible show wpList _ _ _ (⟨none, _, _, _, _, _⟩ :: _) _ _); refine wpList_store_row rfl 27 _ _ rfl (w.heap.size + 1) (aC (aH 32) 0) rfl rfl _ _ HR4.out (aj rfl) rfl (aF _ _) ?_))
    have HRR : Hid (aG (w4.setRow (w.heap.size + 1) (aC (aH 32) 0)) (w.heap.size + 1) (aH 32) 0) := aa HR4.out.setRow
    exact bodyPost_ret (v := uL (aH 32) 0 0 5) (a_ (p := 4) (q := 5) (r := 6) (ty := 27) rfl _ _ ⟨w.heap.size + 1, 0, none⟩ _ _ _ rfl rfl rfl (run_loadVar_row _ _ _ _ _ _ _ HRR.out Tryz.underlying27 rfl (aj rfl))) rfl ⟨congrArg Ending.returned IJ.out, ak bO.out (Nat.le_succ _)⟩
   | false =>
    by_cases hx : x = 0
    ·
     subst hx
     have Om : Kp (pJ h q (256 - (k + 1)) r2 = (n, rc, f)) := ⟨by rw [← n_.1, if_neg (by decide), if_pos rfl]⟩
     go_wp2_with fail
     go_roundw
     case rel => exact ⟨k + 1, r2, by omega, by go_num, HD2, Om, zX, yH, KN⟩
     case measure => simp [intOf]; omega
    ·
     have Ga : uL h r2 x 0 = uL hh cc nn ee := by
      have h2 := n_.1
      rw [if_neg (by decide), if_neg hx] at h2
      simp only [Prod.mk.injEq] at h2
      obtain ⟨rfl, rfl, rfl⟩ := h2
      have h3 := hR.out
      rw [if_neg (by decide)] at h3
      exact h3
     have hx1 : (x == 0) = false := by simp [hx]
     have IJ := aa Ga
     clear Ga hR n_
     go_wp2_with (first
      | ((with_reducible show wpList _ _ _ (⟨some 35, _, _, _, _, _⟩ :: _) _ _); refine wpList_load_mid rfl 27 _ rfl b 0 rfl (aC h r2).toList _ (zX.out.range hl.out) Tryz.underlying27 rfl (jT hl.out) ?_)
      | ((with_reducible show wpList _ _ _ (⟨none, _, _, _, _, _⟩ :: _) _ _); refine wpList_store_row rfl 27 _ _ rfl (w.heap.size + 1) (aC h r2) rfl rfl _ _ HR4.out (aj hl.out) (dK rfl hl.out) (aF _ _) ?_))
     have HRR : Hid (aG (w4.setRow (w.heap.size + 1) (aC h r2)) (w.heap.size + 1) h r2) := aa HR4.out.setRow
     exact bodyPost_ret (v := uL h r2 x 0) (a_ (p := 4) (q := 5) (r := 6) (ty := 27) rfl _ _ ⟨w.heap.size + 1, 0, none⟩ _ _ _ rfl rfl rfl (run_loadVar_row _ _ _ _ _ _ _ HRR.out Tryz.underlying27 rfl (aj hl.out))) rfl ⟨congrArg Ending.returned IJ.out, ak bO.out (Nat.le_succ _)⟩
  ·
   obtain rfl : k = 256 := by omega
   have Ga : uL h d 1 0 = uL hh cc nn ee := by
    have h2 := Dw.1
    rw [show 256 - 256 = 0 from rfl, pJ] at h2
    simp only [Prod.mk.injEq] at h2
    obtain ⟨rfl, rfl, rfl⟩ := h2
    have h3 := hR.out
    rw [if_neg (by decide)] at h3
    exact h3
   have IJ := aa Ga
   have HR4 : Hid (aG wr (w.heap.size + 1) (aH 32) 0) := aa ((aB.out.block _ (by omega)).trans HR2.out)
   have bO : Hid (Below w.heap.size w wr) := aa (HB2.out.trans (aB.out.mono (by omega)))
   clear Ga hR Dw hlt
   go_wp2_with (first
    | ((with_reducible show wpList _ _ _ (⟨some 41, _, _, _, _, _⟩ :: _) _ _); refine wpList_load_mid rfl 27 _ rfl b 0 rfl (aC h d).toList _ (lK.out.range hl.out) Tryz.underlying27 rfl (jT hl.out) ?_)
    | ((with_reducible show wpList _ _ _ (⟨none, _, _, _, _, _⟩ :: _) _ _); refine wpList_store_row rfl 27 _ _ rfl (w.heap.size + 1) (aC h d) rfl rfl _ _ HR4.out (aj hl.out) (dK rfl hl.out) (aF _ _) ?_))
   have HRR : Hid (aG (wr.setRow (w.heap.size + 1) (aC h d)) (w.heap.size + 1) h d) := aa HR4.out.setRow
   exact bodyPost_ret (v := uL h d 1 0) (a_ (p := 4) (q := 5) (r := 6) (ty := 27) rfl _ _ ⟨w.heap.size + 1, 0, none⟩ _ _ _ rfl rfl rfl (run_loadVar_row _ _ _ _ _ _ _ HRR.out Tryz.underlying27 rfl (aj hl.out))) rfl ⟨congrArg Ending.returned IJ.out, ak bO.out (Nat.le_succ _)⟩
end Go.Proofs.YticegghameafgaaGreatDoor
namespace Go.Proofs.YticegghameafgaaGreatDoor
open Go Go.RowKit jk
theorem yQ {n : Nat} {P : Program} {row : String} {args : Array Value} {w : World} {R : Value → World → Prop} (l : Nat) (h : Rows P row args w R) : RowsIn (Fence.wide.inRound l) n P row args w R :=
 fun c cs _ => let ⟨v, w', r, s⟩ := h c cs; ⟨v, w', r, stepsIn_wide.2 s⟩
theorem Bu {P : Program} {o : Oper} {a : Act} {w : World} {K : Act → World → Prop} {Q : Exit → Act → World → Prop} (l n : Nat) (hd : ∀ c, o.op ≠ .defer c) (h : o.wp P a w K Q) : o.wpIn (Fence.wide.inRound l) n P a w K Q := by
 refine ⟨fun _ _ => trivial, ?_⟩
 rw [Fence.inRound_round, Oper.semAt_some l a.eval o hd]
 unfold Oper.wp at h
 generalize (execOp a.eval o).run P w = r at *
 cases r with
 | ok x w' =>
  cases x <;> simp only [Oper.upon, Oper.uponIn] at h ⊢ <;>
   first
    | exact h
    | exact h.elim
    | exact ⟨fun e => (by cases e), CallsIn.inRound l (callsIn_wide.2 h)⟩
    | exact ⟨fun e => (by cases e), yQ l h⟩
 | halt x w' => cases x <;> simp only [Oper.upon, Oper.uponIn] at h ⊢ <;> first | exact h | exact h.elim
def jK (ops : Array Oper) : Bool := ops.all fun o => match o.op with | .defer _ => false | _ => true
theorem qH {ops : Array Oper} (h : jK ops = true) {i : Nat} {o : Oper} (ho : ops[i]? = some o) (c : Call) : o.op ≠ .defer c := fun e => by
 unfold jK at h
 rw [Array.all_eq_true] at h
 obtain ⟨hi, hv⟩ := Array.getElem?_eq_some_iff.1 ho
 have h2 := h i hi
 rw [hv, e] at h2
 cases h2
section
variable {P : Program} {ops : Array Oper} {Q : Exit → Act → World → Prop} {md : Region.Mode}
theorem GV {i : Nat} {a : Act} {w : World} {K K' : Act → World → Prop} (l n : Nat) (hd : jK ops = true) (hQ : ¬ LetsOut Q) (hK : ∀ a w, K a w → K' a w) (h : wpOp P ops Q i K a w) : wpOpIn (Fence.wide.inRound l) n P ops Q i K' a w := by
 unfold wpOp at h
 unfold wpOpIn
 cases ho : ops[i]? with
 | none => simp only [ho] at h ⊢; exact hK _ _ h
 | some o =>
  simp only [ho] at h ⊢
  split
  ·
   rename_i hw
   rw [if_pos hw] at h
   exact Oper.wpIn_mono hK (Bu l n (qH hd ho) (h.resolve_right fun e => hQ e.2))
  ·
   rename_i hw
   rw [if_neg hw] at h
   exact ⟨fun _ _ => trivial, hK _ _ h⟩
theorem yw (l n : Nat) (hd : jK ops = true) (hQ : ¬ LetsOut Q) : ∀ (fuel : Nat) (listed : Array Bool) (a : Act) (w : World), wpAny P md ops Q fuel listed a w → wpAnyIn (Fence.wide.inRound l) n P md ops Q fuel listed a w
 | 0, _, _, _, h => h
 | fuel + 1, _, _, _, h => ⟨h.1, fun i hi => GV l n hd hQ (fun a w => yw l n hd hQ fuel _ a w) (h.2 i hi)⟩
theorem M5 {id : Nat} {a : Act} {w : World} (l n : Nat) (B : World → Prop) (E : List Nat) (hQ : ¬ LetsOut Q) (hS : Hid (B w.drew)) (h : Hid (B w.drew) → fQ P .any ops Q (fun u => Hid (B u)) E ops.size (Array.replicate ops.size false) a w.drew)
  (hd : jK ops = true := by kernel_rfl) (hm : P.follows .mixedOrders = true := by kernel_rfl) : (Code.region id ops true).wpIn (Fence.wide.inRound l) n P Q a w :=
 wpIn_region_any hm (yw l n hd hQ _ _ _ _ (iQ _ _ _ _ (h hS)))
end
def CF {α : Type} (f : Nat → α) (n k : Nat) : List α := (List.range k).map fun j => f (n - 1 - j)
theorem nT {α : Type} (f : Nat → α) (n k : Nat) : CF f n (k + 1) = CF f n k ++ [f (n - 1 - k)] := by simp [CF, List.range_succ]
theorem wO {α : Type} (f : Nat → α) (n k : Nat) : (CF f n k).length = k := by simp [CF]
def yB (N y : Nat) (W W' : World) : Prop := W.heap.size ≤ W'.heap.size ∧ ∀ b, b < N → b ≠ y → W'.heap[b]? = W.heap[b]?
theorem yB.refl (N y : Nat) (W : World) : yB N y W W := ⟨Nat.le_refl _, fun _ _ _ => rfl⟩
theorem yB.trans {N y : Nat} {A B C : World} (h : yB N y A B) (k : yB N y B C) : yB N y A C := ⟨Nat.le_trans h.1 k.1, fun b h1 h2 => (k.2 b h1 h2).trans (h.2 b h1 h2)⟩
theorem E_ {W W' : World} {b : Nat} (h : W'.heap[b]? = W.heap[b]?) (j : Nat) : W'.cell? ⟨b, j, none⟩ = W.cell? ⟨b, j, none⟩ := by simp [World.cell?, h]
theorem yB.cell {N y : Nat} {W W' : World} (h : yB N y W W') {b j : Nat} {v : Value} (h1 : b < N) (h2 : b ≠ y) (hc : W.cell? ⟨b, j, none⟩ = some v) : W'.cell? ⟨b, j, none⟩ = some v := (E_ (h.2 b h1 h2) j).trans hc
attribute [local go_sem] Oper.semAt_some
theorem Fe {α : Type} (f : Nat → α) (encs : α → Array Value) (n : Nat) (hn : 1 ≤ n) (l Bs n₀ y b off len cap : Nat) (zs : List Int) (hf : ∀ j, j < len → encs (f j) = #[.int .i64 (j : Int), .int .i64 (zs.getD j 0)]) (BS : len ≤ 1000000) (hb : b < n₀) (hby : b ≠ y) (hB : Bs < n₀) (NK : Bs ≠ y) (J Jx : List α → World → Prop)
  (hY : ∀ pre x W, J pre W → pre.length < len → YieldAt Fence.wide (n - 1) Tryz.prog l (encs x) W fun e W' =>
   (e = .returned (.bool true) ∧ J (pre ++ [x]) W' ∧ yB n₀ y W W') ∨ (e = .returned (.bool false) ∧ Jx (pre ++ [x]) W'))
  (W : World) (LY : W.cell? ⟨Bs, 0, none⟩ = some (.slice (some ⟨b, off, none⟩) len cap)) (hc : ∀ j, j < len → W.cell? ⟨b, off + j, none⟩ = some (.int .i64 (zs.getD j 0))) (h0 : J [] W) :
  CallsIn Fence.wide n Tryz.prog 93 #[.func (.yield l) #[] #[], .pointer (some ⟨Bs, 0, none⟩)] W fun e W' => (∃ v, e = .returned v) ∧
   ((∃ ys, ys = CF f len len ∧ J ys W') ∨ (∃ pre, (∃ k, k ≤ len ∧ pre = CF f len k) ∧ Jx pre W')) := by
 refine callsIn_of_wp Tryz.func93 rfl trivial ?_ rfl
 simp only [Tryz.ntmps93, List.size_toArray, List.length_cons, List.length_nil, Nat.reduceAdd, Nat.reduceSub, Array.replicate_succ, Array.replicate_zero, List.push_toArray, List.append_toArray, List.nil_append, List.cons_append]
 gi_wp2
 gi_loopw [3] (fun i wr => ∃ k : Nat, k ≤ len ∧ i = .int .i64 ((len : Int) - 1 - (k : Int)) ∧ J (CF f len k) wr ∧ yB n₀ y W wr)
  (fun i _ => (intOf i + 1).toNat)
 case atStart => exact ⟨0, Nat.zero_le _, by simp, h0, yB.refl _ _ _⟩
 case round =>
  obtain ⟨k, hk, rfl, hJs, hnx⟩ := hrel
  have hBw := hnx.cell hB NK LY
  by_cases hlt : k < len
  ·
   have hcx : wr.cell? ⟨b, off + (len - 1 - k), none⟩ = some (.int .i64 (zs.getD (len - 1 - k) 0)) := hnx.cell hb hby (hc _ (by omega))
   obtain ⟨j, hj⟩ : ∃ j, len - 1 - k = j := ⟨_, rfl⟩
   have e1 : (len : Int) - 1 - (k : Int) = (j : Int) := by omega
   rw [hj] at hcx
   have hj2 : j < len := by omega
   obtain ⟨v, hv⟩ : ∃ v, zs.getD j 0 = v := ⟨_, rfl⟩
   have hY2 := hY _ (f j) wr hJs (by rw [wO]; exact hlt)
   rw [hf j hj2, hv] at hY2
   obtain ⟨fn, tmps, assign, body, hy, hR⟩ := hY2
   rw [hv] at hcx
   have hv := aa hv
   rw [e1]
   gi_wp2
   refine hR.mono ?_
   rintro e W3 (⟨rfl, hJ3, hk3⟩ | ⟨rfl, hJx3⟩)
   ·
    gi_wp2
    go_roundw
    case rel => exact ⟨k + 1, by omega, by simp <;> omega, by rw [nT, hj]; exact hJ3, hnx.trans hk3⟩
    case measure => simp [intOf] <;> omega
   ·
    gi_wp2
    refine bodyPost_ret (results_none rfl _ _ _) rfl ?_
    exact ⟨⟨_, rfl⟩, .inr ⟨_, ⟨k + 1, by omega, by rw [nT, hj]⟩, hJx3⟩⟩
  ·
   obtain rfl : k = len := by omega
   have e1 : (k : Int) - 1 - (k : Int) = -1 := by omega
   rw [e1]
   gi_wp2
   go_end0
   exact ⟨⟨_, rfl⟩, .inl ⟨_, rfl, hJs⟩⟩
theorem CE {α : Type} (n : Nat) (l Bs : Nat) (A : Option Addr) (cap : Nat) (J : List α → World → Prop) (W : World) (LY : W.cell? ⟨Bs, 0, none⟩ = some (.slice A 0 cap)) (h0 : J [] W) :
  CallsIn Fence.wide n Tryz.prog 93 #[.func (.yield l) #[] #[], .pointer (some ⟨Bs, 0, none⟩)] W fun e W' => (∃ v, e = .returned v) ∧ J [] W' := by
 refine callsIn_of_wp Tryz.func93 rfl trivial ?_ rfl
 simp only [Tryz.ntmps93, List.size_toArray, List.length_cons, List.length_nil, Nat.reduceAdd, Nat.reduceSub, Array.replicate_succ, Array.replicate_zero, List.push_toArray, List.append_toArray, List.nil_append, List.cons_append]
 gi_wp2
 gi_loopw [3] (fun i wr => i = .int .i64 (-1) ∧ J [] wr) (fun _ _ => 0)
 case atStart => exact ⟨rfl, h0⟩
 case round =>
  obtain ⟨rfl, hJs⟩ := hrel
  gi_wp2
  go_end0
  exact ⟨⟨_, rfl⟩, hJs⟩
theorem Iw (n : Nat) (a : Option Addr) (len cap : Nat) (w : World) :
  CallsIn Fence.wide n Tryz.prog 72 #[.slice a len cap] w fun e w' => e = .returned (.func (.func 93) #[] #[.pointer (some ⟨w.heap.size, 0, none⟩)]) ∧ w' = w.alloc (.cells #[.slice a len cap] 30) := by
 refine callsIn_of_wp Tryz.func72 rfl trivial ?_ rfl
 simp only [Tryz.ntmps72, List.size_toArray, List.length_cons, List.length_nil, Nat.reduceAdd, Nat.reduceSub, Array.replicate_succ, Array.replicate_zero, List.push_toArray, List.append_toArray, List.nil_append, List.cons_append]
 gi_wp2
 go_ret
 exact ⟨rfl, rfl⟩
def Gl (N y : Nat) (W : World) (A : Option Addr) (zs : List Int) : Prop :=
 zs = [] ∨ ∃ b off, A = some ⟨b, off, none⟩ ∧ b < N ∧ b ≠ y ∧ ∀ j, j < zs.length → W.cell? ⟨b, off + j, none⟩ = some (.int .i64 (zs.getD j 0))
theorem BM {w W : World} {N y : Nat} {A : Option Addr} {zs : List Int} (h : Sl w A zs) (hb : Below w.heap.size w W) (hN : w.heap.size ≤ N) (hy : w.heap.size ≤ y) : Gl N y W A zs := by
 by_cases e : zs.length = 0
 · exact .inl (List.length_eq_zero_iff.1 e)
 ·
  obtain ⟨b, o, h1, h2⟩ := h 0 (by omega)
  have hlt := World.block_lt_of_cell? _ _ h2
  dsimp only at hlt
  refine .inr ⟨b, o, h1, by omega, by omega, fun j hj => ?_⟩
  obtain ⟨b', o', h3, h4⟩ := h.below hb j hj
  rw [h1] at h3
  injection h3 with h3
  injection h3 with e1 e2
  rw [e1, e2]; exact h4
theorem zC {α : Type} (f : Nat → α) (encs : α → Array Value) (n : Nat) (hn : 1 ≤ n) (Bs N y : Nat) (A : Option Addr) (m cap : Nat) (zs : List Int) (hm : zs.length = m) (hf : ∀ j, j < m → encs (f j) = #[.int .i64 (j : Int), .int .i64 (zs.getD j 0)]) (BS : m ≤ 1000000) (w : World) (LY : Bs < w.heap.size) (hN : N ≤ w.heap.size) (hB : Bs < N) (NK : Bs ≠ y)
  (hc : w.cell? ⟨Bs, 0, none⟩ = some (.slice A m cap)) (hI : Gl N y w A zs) :
  SeqStopsK Fence.wide n Tryz.prog 93 #[.pointer (some ⟨Bs, 0, none⟩)] encs (yB N y) (fun ys => ys = CF f m m)
   (fun pre => ∃ k, k ≤ m ∧ pre = CF f m k) m w := fun l J Jx W hW _ _ hY h0 => by
 have hc' := (hW.cell (p := ⟨Bs, 0, none⟩) LY).trans hc
 rcases hI with rfl | ⟨b, off, rfl, hb, hby, hcs⟩
 ·
  obtain rfl : 0 = m := hm
  exact (CE n l Bs A cap J W hc' h0).mono fun e W' ⟨he, hj⟩ => ⟨he, .inl ⟨_, rfl, hj⟩⟩
 · exact Fe f encs n hn l Bs N y b off m cap zs hf BS hb hby hB NK J Jx hY W hc' (fun j hj => (hW.cell (p := ⟨b, off + j, none⟩) (Nat.lt_of_lt_of_le hb hN)).trans (hcs j (by omega))) h0
theorem J5 {N y : Nat} (W : World) (l : Nat) (o : Obj) (h : N ≤ l) : yB N y W (W.putObj l o) :=
 ⟨by simp [World.putObj], fun b h1 h2 => by simp [World.putObj, Array.getElem?_setIfInBounds]; omega⟩
def xX (q x : Int) (zs : List Int) : Nat → Int
 | 0 => 0
 | k + 1 => (xX q x zs k * x % q + zs.getD (zs.length - 1 - k) 0) % q
theorem nJ {q : Int} (hq : 1 ≤ q) (x : Int) (zs : List Int) : ∀ k, 0 ≤ xX q x zs k ∧ xX q x zs k < q
 | 0 => ⟨Int.le_refl _, by rw [xX]; omega⟩
 | k + 1 => ⟨Int.emod_nonneg _ (by omega), Int.emod_lt_of_pos _ (by omega)⟩
abbrev I8 (q : Int) := { v : Nat × Int // 0 ≤ v.2 ∧ v.2 < q }
def Gf (q x : Int) (l : List (I8 q)) : Int := l.foldl (fun y c => (y * x % q + c.1.2) % q) 0
theorem nK (q x : Int) (l : List (I8 q)) (c : I8 q) : Gf q x (l ++ [c]) = (Gf q x l * x % q + c.1.2) % q := by simp [Gf]
theorem vV {q : Int} (hq : 1 ≤ q) (x : Int) (l : List (I8 q)) : 0 ≤ Gf q x l ∧ Gf q x l < q := by
 rcases List.eq_nil_or_concat l with rfl | ⟨l', c, rfl⟩
 · exact ⟨Int.le_refl _, by show (0 : Int) < q; omega⟩
 ·
  rw [List.concat_eq_append, nK]
  exact ⟨Int.emod_nonneg _ (by omega), Int.emod_lt_of_pos _ (by omega)⟩
theorem xY {q : Int} (x : Int) (zs : List Int) (f : Nat → I8 q) (hf : ∀ j, (f j).1.2 = zs.getD j 0) (n : Nat) (hn : zs.length = n) : ∀ k, Gf q x (CF f n k) = xX q x zs k
 | 0 => rfl
 | k + 1 => by rw [nT, nK, xY x zs f hf n hn k, xX, hf, hn]
attribute [local go_sem] Oper.semAt_some
theorem kJ (q : Int) (A : Option Addr) (zs : List Int) (n c : Nat) (x : Int) (h1 : 1 ≤ q) (h2 : q < 2305843009213693952) (hs : Hid (zs.all (aQ q) = true)) (hn : Hid (zs.length = n)) (hbig : n ≤ 1000000) (hx0 : 0 ≤ x) (hx1 : x < q) (w : World) (hS : Hid (Sl w A zs)) :
  Calls Tryz.prog 45 #[.int .i64 q, .slice A n c, .int .i64 x] w (Rt w (.int .i64 (xX q x zs n))) := by
 refine (callsIn_wide (n := 9)).1 ?_
 refine callsIn_of_wp_marks Tryz.func45 rfl trivial ?_ rfl
 simp only [Tryz.ntmps45, List.size_toArray, List.length_cons, List.length_nil, Nat.reduceAdd, Nat.reduceSub, Array.replicate_succ, Array.replicate_zero, List.push_toArray, List.append_toArray, List.nil_append, List.cons_append]
 gi_wp2_with (refine ⟨trivial, ?_⟩; gi_at_call 72; refine (Iw 8 _ _ _ _).mono ?_; rintro e w' ⟨rfl, rfl⟩)
 obtain ⟨w1, HW, bO, kC⟩ := QN (.cells #[.int .i64 q] 3) NR (.cells #[.int .i64 x] 3) NR (.cells #[.int .i64 0] 3) NR (.cells #[.slice A n c] 30) RA w
 have hsz : w1.heap.size = w.heap.size + 4 := by rw [← HW.out]; simp
 have hyb : w1.heap[w.heap.size + 2]? = some (.cells #[.int .i64 0] 3) := by
  rw [← HW.out, Below.heap_alloc _ _ _ (by simp), show w.heap.size + 2 = ((w.alloc (.cells #[.int .i64 q] 3)).alloc (.cells #[.int .i64 x] 3)).heap.size by simp]
  exact heap_alloc_new _ _
 obtain ⟨c0, c1, c2, c3⟩ := kC.out _ (kr w1)
 have f2 : w1.frozen? ⟨w.heap.size + 2, 0, none⟩ = false := bq hyb 0
 have hsc : ∀ j, 0 ≤ zs.getD j 0 ∧ zs.getD j 0 < q := fun j => by
  by_cases hj : j < zs.length
  ·
   have h9 := (List.all_eq_true.1 hs.out) (zs.getD j 0) (by rw [List.getD_eq_getElem?_getD, List.getElem?_eq_getElem hj]; exact List.getElem_mem _)
   simpa [aQ] using h9
  ·
   rw [List.getD_eq_getElem?_getD, List.getElem?_eq_none (by omega)]
   exact ⟨Int.le_refl _, by show (0 : Int) < q; omega⟩
 obtain ⟨f, Ph⟩ : ∃ f : Nat → I8 q, ∀ j, (f j).1 = (j, zs.getD j 0) := ⟨fun j => ⟨(j, zs.getD j 0), hsc j⟩, fun _ => rfl⟩
 simp only [show w.heap.size + 1 + 1 = w.heap.size + 2 from rfl, show w.heap.size + 2 + 1 = w.heap.size + 3 from rfl]
 rw [HW.out]
 have hQn : ¬ (q = 0) := by omega
 have Jg : ((q : Int) == 0) = false := by simp; omega
 refine wpIn_rangeFunc_ownG rfl (show 1 ≤ 9 by decide) (gf := 93) (lb := #[.pointer (some ⟨w.heap.size + 3, 0, none⟩)]) rfl trivial (enters_of Tryz.func93 (by kernel_rfl) rfl)
  (zC f (fun v : I8 q => #[Value.int .i64 (v.1.1 : Int), Value.int .i64 v.1.2]) 8 (by decide) (w.heap.size + 3) (w.heap.size + 4) (w.heap.size + 2) A n c zs hn.out (fun j _ => by rw [Ph j]) hbig w1 (by omega) (by omega) (by omega) (by omega) c3 (BM hS.out bO.out (by omega) (by omega)))
  (fun h k => h.trans k) (fun W l o o' hl _ _ _ => J5 W l o' (by omega)) (Below.refl _ _) (fun _ => rfl)
  (fun pre W => W.cell? ⟨w.heap.size + 2, 0, none⟩ = some (.int .i64 (Gf q x pre)) ∧ W.frozen? ⟨w.heap.size + 2, 0, none⟩ = false ∧ W.cell? ⟨w.heap.size, 0, none⟩ = some (.int .i64 q) ∧ W.cell? ⟨w.heap.size + 1, 0, none⟩ = some (.int .i64 x) ∧ Below w.heap.size w W ∧ w.heap.size + 4 ≤ W.heap.size)
  (fun _ _ _ => False)
  (fun s W W' row hs hg hr => ⟨cell_kept hs.1 hg (fun r e => (hr r e).2), (frozen_kept hs.1 hg (fun r e => (hr r e).2)).trans hs.2.1, cell_kept hs.2.2.1 hg (fun r e => (hr r e).2), cell_kept hs.2.2.2.1 hg (fun r e => (hr r e).2), hs.2.2.2.2.1.grown hg hs.2.2.2.2.1.size (fun k e => by have := (hr k e).1; omega), Nat.le_trans hs.2.2.2.2.2 hg.size⟩)
  (fun _ _ _ _ _ hs _ _ => hs)
  ⟨c2, f2, c0, c1, bO.out, by omega⟩
  (fun v => { tmps := #[.int .i64 q, .slice A n c, .int .i64 x, .pointer (some ⟨w.heap.size, 0, none⟩), undef, .pointer (some ⟨w.heap.size + 1, 0, none⟩), .int .i64 0, .pointer (some ⟨w.heap.size + 2, 0, none⟩), undef, .int .i64 v.1.2, .slice A n c, .func (.func 93) #[] #[.pointer (some ⟨w.heap.size + 3, 0, none⟩)], .int .i64 (v.1.1 : Int), .int .i64 v.1.2, undef, undef, undef, undef, undef, undef, undef, undef, undef], defers := [] }) ?assign ?body ?done ?stop
 case assign =>
  intro l x W K hK
  gi_wp2
  exact hK
 case body =>
  rintro l pre ⟨⟨ix, v⟩, v0, v1⟩ W ⟨hy, hf, hq, hx, hB, T_⟩ _
  dsimp only at v0 v1 ⊢
  obtain ⟨Y, hY⟩ : ∃ Y, Gf q x pre = Y := ⟨_, rfl⟩
  obtain ⟨Y0, Y1⟩ := vV h1 x pre
  rw [hY] at hy Y0 Y1
  obtain ⟨M, hM⟩ : ∃ M, Y * x % q = M := ⟨_, rfl⟩
  have M0 : 0 ≤ M := by rw [← hM]; exact Int.emod_nonneg _ (by omega)
  have M1 : M < q := by rw [← hM]; exact Int.emod_lt_of_pos _ (by omega)
  obtain ⟨R, hR⟩ : ∃ R, (M + v) % q = R := ⟨_, rfl⟩
  have R0 : 0 ≤ R := by rw [← hR]; exact Int.emod_nonneg _ (by omega)
  have R1 : R < q := by rw [← hR]; exact Int.emod_lt_of_pos _ (by omega)
  have HR := aa hR
  have HM := aa hM
  have HY := aa hY
  have d1 : IntKind.i64.wrap (M + v) = M + v := IntWalk.i64_in _ (by omega)
  have e1 : wrap64 (M + v) = M + v := IntWalk.wrap64_in _ (by omega)
  have Kc : (M + v).tmod q = R := iq (by omega) hR
  have hwt : IntKind.i64.wrap R = R := IntWalk.i64_in _ (by omega)
  have Hq : wrap64 R = R := IntWalk.wrap64_in _ (by omega)
  clear hR hM hY
  have hO : Hid (∀ u, Hid (Below W.heap.size W u) → u.cell? ⟨w.heap.size, 0, none⟩ = some (.int .i64 q) ∧ u.cell? ⟨w.heap.size + 2, 0, none⟩ = some (.int .i64 Y) ∧ u.cell? ⟨w.heap.size + 1, 0, none⟩ = some (.int .i64 x)) :=
   aa (fun u h => ⟨(h.out.cell (World.block_lt_of_cell? _ _ hq)).trans hq, (h.out.cell (World.block_lt_of_cell? _ _ hy)).trans hy, (h.out.cell (World.block_lt_of_cell? _ _ hx)).trans hx⟩)
  refine wpIn_block ?_
  refine M5 l _ (fun u => Below W.heap.size W u) [8] (fun ⟨_, _, h⟩ => h) (aa (Below.refl _ _).drew) (fun hHeld => ?_)
  refine gJ 0 1 2 4 ?_
  refine lC 6 ?_
  have FB := hHeld
  refine mK 3 fun K hK => ?_
  go_simp
  refine (eO q Y x M HM h2 Y0 Y1 hx0 hx1 _).mono ?_
  rintro e u1 ⟨rfl, hq1⟩
  have rJ := aa (ag FB.out hq1)
  refine hK.out _ _ rJ (fun hHeld => ?_)
  clear hK K
  try simp only [qq]
  refine lC 5 ?_
  refine lC 7 ?_
  refine Jb 8 fun K hK => ?_
  have MZ := (rJ.out.cell (World.block_lt_of_cell? _ _ hy)).trans hy
  have NP := (rJ.out.frozen (World.block_lt_of_cell? _ _ hy)).trans hf
  go_simp
  refine hK.out _ _ ?_
  clear hK K
  try simp only [qq]
  refine Aj ?_
  have hyl := World.block_lt_of_cell? _ _ hy
  dsimp only at hyl
  have hz := rJ.out.size
  have q7 := (rJ.out.cell (World.block_lt_of_cell? _ _ hq)).trans hq
  have x7 := (rJ.out.cell (World.block_lt_of_cell? _ _ hx)).trans hx
  show KeepsFrom _ _ _ ∧ yB _ _ _ _ ∧ _
  refine ⟨⟨by simpa using hz, fun k o hk hko _ => (Go.Deep.blk_setCell_other _ _ _ _ (show k ≠ w.heap.size + 2 by omega)).trans ((rJ.out.block k (Array.getElem?_eq_some_iff.1 hko).1).trans hko)⟩,
   ⟨by simpa using hz, fun b b1 b2 => (Go.Deep.blk_setCell_other _ _ _ _ b2).trans (rJ.out.block b (by have := hB.size; omega))⟩, ?_⟩
  refine ⟨?_, ?_, ?_, ?_, ?_, by simp; omega⟩
  ·
   rw [nK, HY.out]
   show _ = some (Value.int .i64 ((Y * x % q + v) % q))
   rw [HM.out, HR.out]
   exact World.cell?_setCell_same _ _ _ MZ
  · rw [World.frozen?_setCell]; exact NP
  · rw [World.cell?_setCell_other _ _ _ _ (by simp)]; exact q7
  · rw [World.cell?_setCell_other _ _ _ _ (by simp)]; exact x7
  · exact (hB.trans (rJ.out.mono hB.size)).setCell (by show w.heap.size ≤ w.heap.size + 2; omega) _
 case done =>
  rintro D ys W hD rfl ⟨hy, _, _, _, hB, _⟩ hK
  rw [xY x zs f (fun j => by rw [Ph j]) n hn.out n] at hy
  obtain ⟨V, hV⟩ : ∃ V, xX q x zs n = V := ⟨_, rfl⟩
  rw [hV] at hy ⊢
  gi_wp2
  refine ⟨by simp, .inl ⟨_, _, rfl, run_takeDeferred hK, ?_⟩⟩
  exact ⟨_, results_tmp rfl _ _ _, by rw [hV]; rfl, hB.trans (belowK_b (w := w) (Nat.le_refl _) W D _ _ (by omega) hK rfl rfl)⟩
 case stop =>
  rintro D c pre W _ _ h _
  exact h.elim
end Go.Proofs.YticegghameafgaaGreatDoor
namespace Go.Proofs.YticegghameafgaaGreatDoor
open Go.RowKit jk
theorem Cj (q x : Int) (zs : List Int) : ∀ k, k ≤ zs.length → xX q x zs k = hv q (zs.drop (zs.length - k)) x
 | 0, _ => by rw [Nat.sub_zero, List.drop_length]; rfl
 | k + 1, h => by
  have e : zs.length - (k + 1) + 1 = zs.length - k := by omega
  rw [xX, Cj q x zs k (by omega), show zs.length - 1 - k = zs.length - (k + 1) by omega, xS (k := zs.length - (k + 1)) (by omega), e]
theorem vU {q : Int} (hq : 1 ≤ q) (x : Int) (zs : List Int) (n : Nat) (hn : zs.length = n) : xX q x zs n = pv zs x % q := by
 rw [Cj q x zs n (by omega), hn, Nat.sub_self, List.drop_zero, FX (by omega)]
def di (xs : List Int) : Nat → Nat
 | 0 => 0
 | k + 1 => if xs.getD k 0 = 0 then di xs k else k + 1
theorem r9 (xs : List Int) : ∀ k, di xs k ≤ k
 | 0 => Nat.le_refl _
 | k + 1 => by rw [di]; split; exact Nat.le_succ_of_le (r9 xs k); exact Nat.le_refl _
theorem rZ (xs : List Int) (X : Int) : ∀ k, k ≤ xs.length → pv (xs.take (di xs k)) X = pv (xs.take k) X
 | 0, _ => rfl
 | k + 1, h => by
  rw [di]
  split
  · rename_i h0; rw [rZ xs X k (by omega), En h h0]
  · rfl
theorem mI (xs : List Int) : ∀ k, di xs k = 0 ∨ xs.getD (di xs k - 1) 0 ≠ 0
 | 0 => .inl rfl
 | k + 1 => by
  rw [di]
  split
  · exact mI xs k
  · rename_i h0; exact .inr (by rw [Nat.add_sub_cancel]; exact h0)
def lI (q : Int) (m : Nat) (v : Int → Int) (w : World) (e : Ending) (w' : World) : Prop := ∃ A c L, e = .returned (.slice A L.length c) ∧ Sl w' A L ∧ Pl q m L ∧ (∀ X, Cg q (pv L X) (v X)) ∧ Below w.heap.size w w'
theorem Ao {q : Int} {xs : List Int} (h : xs.all (aQ q) = true) (k : Nat) : (xs.take k).all (aQ q) = true := by
 rw [List.all_eq_true] at h ⊢
 exact fun x hx => h x (List.mem_of_mem_take hx)
theorem xM {q : Int} {xs : List Int} {n m : Nat} (hn : xs.length = n) (hm : n ≤ m) (h : xs.all (aQ q) = true) : Pl q m (xs.take (di xs n)) ∧ ∀ X, Cg q (pv (xs.take (di xs n)) X) (pv xs X) := by
 have h1 := r9 xs n
 have hl : (xs.take (di xs n)).length = di xs n := by rw [List.length_take]; omega
 refine ⟨⟨Ao h _, by omega, ?_⟩, fun X => Cg.of_eq ?_⟩
 ·
  rw [hl]
  rcases mI xs n with e | e
  · exact .inl e
  ·
   by_cases e0 : di xs n = 0
   · exact .inl e0
   ·
    refine .inr ?_
    rw [List.getD_eq_getElem?_getD, List.getElem?_take_of_lt (by omega), ← List.getD_eq_getElem?_getD]; exact e
 · rw [rZ xs X n (by omega), List.take_of_length_le (by omega)]
theorem fM (q : Int) (A : Option Addr) (xs : List Int) (n c m : Nat) (hn : Hid (xs.length = n)) (hnc : n ≤ c) (hm : n ≤ m) (hbig : n < 1000000) (hs : Hid (xs.all (aQ q) = true)) (w : World) (hS : Hid (Sl w A xs)) :
  Calls Tryz.prog 64 #[.slice A n c] w (lI q m (pv xs) w) := by
 go_in
 go_wp2
 go_loopw [3] (fun i wr => ∃ k : Nat, k ≤ n ∧ i = .int .i64 k ∧ di xs n = di xs k ∧ Hid (Below w.heap.size w wr)) (fun i _ => (intOf i).toNat)
 case atStart => exact ⟨n, by omega, rfl, rfl, aa (Below.refl _ _)⟩
 case round =>
  obtain ⟨k, hk, rfl, htr, aB⟩ := hrel
  have lK := aa (hS.out.below aB.out)
  by_cases h0 : k = 0
  ·
   subst h0
   have HM := aa (xM hn.out hm hs.out)
   rw [htr] at HM
   clear htr
   have HST : Hid (Sl wr A (xs.take 0)) := aa (iw lK.out 0)
   have hd : decide ((0 : Int) < ((0 : Nat) : Int)) = false := by simp
   go_wp2_with fail
   refine (jf A (xs.take 0) 0 c (aa rfl) (by omega) _ HST).mono ?_
   rintro e w2 ⟨A2, c2, rfl, hs2, _, hb2⟩
   have HQ := aa (ag aB.out hb2)
   have KW := aa hs2
   clear hs2 hb2
   go_wp2
   go_ret
   exact ⟨A2, c2, _, rfl, KW.out, HM.out.1, HM.out.2, HQ.out⟩
  ·
   obtain ⟨j, rfl⟩ : ∃ j, k = j + 1 := ⟨k - 1, by omega⟩
   have hjn : j < n := by omega
   have e1 : ((j + 1 : Nat) : Int) - 1 = (j : Int) := by omega
   have e2 : (j : Int) + 1 - 1 = (j : Int) := by omega
   have d1 : decide ((0 : Int) < ((j + 1 : Nat) : Int)) = true := by simp <;> omega
   obtain ⟨b, o, hA, hi0⟩ := lK.out j (by rw [hn.out]; omega)
   subst hA
   obtain ⟨v, hv⟩ : ∃ v, xs.getD j 0 = v := ⟨_, rfl⟩
   rw [hv] at hi0
   by_cases hv0 : v = 0
   ·
    have dz : ((v : Int) == 0) = true := by simpa using hv0
    have EG : di xs n = di xs j := by rw [htr, di, if_pos (by rw [hv]; exact hv0)]
    clear htr hv
    go_wp2
    go_roundw
    case rel => exact ⟨j, by omega, rfl, EG, aB⟩
    case measure => simp [intOf] <;> omega
   ·
    have dz : ((v : Int) == 0) = false := by simpa using hv0
    have EG : di xs n = j + 1 := by rw [htr, di, if_neg (by rw [hv]; exact hv0)]
    have HM := aa (xM hn.out hm hs.out)
    rw [EG] at HM
    have HL : Hid ((xs.take (j + 1)).length = j + 1) := aa (by rw [List.length_take, hn.out]; omega)
    have HST : Hid (Sl wr (some ⟨b, o, none⟩) (xs.take (j + 1))) := aa (iw lK.out (j + 1))
    have hjc : j + 1 ≤ c := by omega
    clear htr EG hv
    go_wp2_with fail
    refine (jf (some ⟨b, o, none⟩) (xs.take (j + 1)) (j + 1) c HL (by omega) _ HST).mono ?_
    rintro e w2 ⟨A2, c2, rfl, hs2, _, hb2⟩
    have HQ := aa (ag aB.out hb2)
    have KW := aa hs2
    clear hs2 hb2
    go_wp2
    go_ret
    exact ⟨A2, c2, _, by rw [HL.out]; rfl, KW.out, HM.out.1, HM.out.2, HQ.out⟩
def Rl (w : World) (g : Nat) (xs : List Int) : Prop := (∀ j, j < xs.length → w.cell? ⟨g, j, none⟩ = some (.int .i64 (xs.getD j 0))) ∧ ∀ j, w.frozen? ⟨g, j, none⟩ = false
theorem Rl.set {w : World} {g k : Nat} {xs : List Int} (h : Rl w g xs) (hk : k < xs.length) (v : Int) : Rl (w.setCell ⟨g, k, none⟩ (.int .i64 v)) g (xs.set k v) := by
 refine ⟨fun j hj => ?_, fun j => by rw [World.frozen?_setCell]; exact h.2 j⟩
 rw [List.length_set] at hj
 by_cases e : j = k
 ·
  subst e
  rw [World.cell?_setCell_same _ _ _ (h.1 j hj), List.getD_eq_getElem?_getD, List.getElem?_set_self hk]; rfl
 · rw [World.cell?_setCell_other _ _ _ _ (by intro e2; injection e2 with _ e3; omega), h.1 j hj, List.getD_eq_getElem?_getD, List.getD_eq_getElem?_getD, List.getElem?_set_ne (by omega)]
theorem Rl.below {w w' : World} {g : Nat} {xs : List Int} (h : Rl w g xs) (hb : Below w.heap.size w w') (hg : g < w.heap.size) : Rl w' g xs :=
 ⟨fun j hj => (hb.cell (p := ⟨g, j, none⟩) hg).trans (h.1 j hj), fun j => (hb.frozen (p := ⟨g, j, none⟩) hg).trans (h.2 j)⟩
theorem Rl.sl {w : World} {g : Nat} {xs : List Int} (h : Rl w g xs) : Sl w (some ⟨g, 0, none⟩) xs := fun k hk => ⟨g, 0, rfl, by rw [Nat.zero_add]; exact h.1 k hk⟩
theorem aT.rl {w : World} {B : Nat} {v : Value} {xs : List Int} (h : aT w B v xs) (hne : 0 < xs.length) : ∃ g cap, v = .slice (some ⟨g, 0, none⟩) xs.length cap ∧ B ≤ g ∧ xs.length ≤ cap ∧ Rl w g xs ∧ g < w.heap.size := by
 obtain ⟨h1, h2⟩ := h
 rcases h2 with ⟨_, h0⟩ | ⟨g, cap, cur, rfl, hg, hh, hn, hc, hs, ht⟩
 · omega
 ·
  refine ⟨g, cap, rfl, hg, by omega, ⟨fun j hj => ?_, fun j => bq hh j⟩, (Array.getElem?_eq_some_iff.1 hh).1⟩
  rw [ai hh]
  have e : cur.toList[j]? = (xs.map (Value.int .i64))[j]? := by
   rw [← ht, List.getElem?_take_of_lt (by omega)]
  rw [← Array.getElem?_toList, e, List.getElem?_map, List.getElem?_eq_getElem hj, List.getD_eq_getElem?_getD, List.getElem?_eq_getElem hj]
  rfl
theorem ym (A : Option Addr) (xs : List Int) (n c : Nat) (hn : Hid (xs.length = n)) (h0 : 0 < n) (hbig : n < 1000000) (w : World) (hA : Hid (Sl w A xs)) :
  Calls Tryz.prog 74 #[.slice A n c] w fun e w' => ∃ g cap, e = .returned (.slice (some ⟨g, 0, none⟩) n cap) ∧ w.heap.size ≤ g ∧ n ≤ cap ∧ Rl w' g xs ∧ g < w'.heap.size ∧ Below w.heap.size w w' := by
 have hn' := hn.out
 obtain ⟨b1, o1, rfl, hc1⟩ := hA.out.at0 (by omega)
 refine (Tryz.slices_Clone_int b1 o1 n c xs w (by omega) (by omega) hc1).mono ?_
 rintro e w' ⟨v', rfl, ho, _, hb⟩
 rw [List.take_of_length_le (by omega), ← hn'] at ho
 obtain ⟨g, cc, hv, hg, hcc, hr, hl⟩ := aT.rl (xs := xs) ho (by omega)
 exact ⟨g, cc, by rw [hv, hn'], hg, by omega, hr, hl, hb⟩
def dJ (q : Int) (a b : List Int) : Nat → List Int
 | 0 => a
 | k + 1 => (dJ q a b k).set k ((a.getD k 0 + b.getD k 0) % q)
theorem d_ (q : Int) (a b : List Int) : ∀ k, (dJ q a b k).length = a.length
 | 0 => rfl
 | k + 1 => by rw [dJ, List.length_set, d_ q a b k]
theorem j5 (q : Int) (a b : List Int) : ∀ k j, k ≤ j → (dJ q a b k).getD j 0 = a.getD j 0
 | 0, _, _ => rfl
 | k + 1, j, h => by
  rw [dJ, List.getD_eq_getElem?_getD, List.getElem?_set_ne (by omega), ← List.getD_eq_getElem?_getD]
  exact j5 q a b k j (by omega)
theorem nW {q : Int} (hq : 1 ≤ q) (a b : List Int) (h : a.all (aQ q) = true) : ∀ k, (dJ q a b k).all (aQ q) = true
 | 0 => h
 | k + 1 => by rw [dJ]; exact yx (nW hq a b h k) (lX hq)
theorem rA {q : Int} (a b : List Int) (X : Int) : ∀ k, k ≤ a.length → k ≤ b.length → Cg q (pv (dJ q a b k) X) (pv a X + pv (b.take k) X)
 | 0, _, _ => Cg.of_eq (by rw [dJ, List.take_zero, pv]; omega)
 | k + 1, h1, h2 => by
  rw [dJ, iB X b k (by omega)]
  refine (Bi (by rw [d_]; omega) (by rw [j5 q a b k k (Nat.le_refl _)])).trans ?_
  exact ((rA a b X k (by omega) (by omega)).add (Cg.refl _ _)).trans (Cg.of_eq (by omega))
theorem lI.to {q : Int} {m : Nat} {v v' : Int → Int} {w0 w w' : World} {e : Ending} (h : lI q m v w e w') (hv : ∀ X, Cg q (v X) (v' X)) (hb : Below w0.heap.size w0 w) : lI q m v' w0 e w' := by
 obtain ⟨A, c, L, h1, h2, h3, h4, h5⟩ := h
 exact ⟨A, c, L, h1, h2, h3, fun X => (h4 X).trans (hv X), hb.trans (h5.mono hb.size)⟩
theorem cK {q : Int} {xs : List Int} (h : xs.all (aQ q) = true) {k : Nat} (hk : k < xs.length) : 0 ≤ xs.getD k 0 ∧ xs.getD k 0 < q := by
 have h9 := (List.all_eq_true.1 h) (xs.getD k 0) (by rw [List.getD_eq_getElem?_getD, List.getElem?_eq_getElem hk]; exact List.getElem_mem _)
 simpa [aQ] using h9
theorem GQ (q : Int) (A : Option Addr) (xs : List Int) (n c : Nat) (B : Option Addr) (ys : List Int) (m d M : Nat) (h1 : 1 ≤ q) (h2 : q < 2305843009213693952) (hn : Hid (xs.length = n)) (hm : Hid (ys.length = m)) (hM : n ≤ M) (hnm : m ≤ n) (hbig : n < 1000000) (hx : Hid (xs.all (aQ q) = true)) (hy : Hid (ys.all (aQ q) = true)) (w : World) (hS : Hid (Sl w A xs)) (hT : Hid (Sl w B ys)) :
  Calls Tryz.prog 47 #[.int .i64 q, .slice A n c, .slice B m d] w (lI q M (fun X => pv xs X + pv ys X) w) := by
 have d0 : decide ((n : Int) < (m : Int)) = false := by simp; omega
 have hQn : ¬ (q = 0) := by omega
 have Jg : ((q : Int) == 0) = false := by simp; omega
 have zL : Hid (∀ X, Cg q (pv (dJ q xs ys m) X) (pv xs X + pv ys X)) := aa (fun X => by
  have h9 := rA (q := q) xs ys X m (by rw [hn.out]; omega) (by rw [hm.out]; exact Nat.le_refl _)
  rwa [List.take_of_length_le (by rw [hm.out]; exact Nat.le_refl _)] at h9)
 have JF : Hid ((dJ q xs ys m).all (aQ q) = true) := aa (nW h1 xs ys hx.out m)
 have ic : Hid ((dJ q xs ys m).length = n) := aa (by rw [d_]; exact hn.out)
 by_cases h0 : n = 0
 ·
  subst h0
  obtain rfl : m = 0 := by omega
  go_in
  go_wp2_with fail
  refine (jf A xs 0 c hn (by omega) _ hS).mono ?_
  rintro e w2 ⟨A2, c2, rfl, hs2, _, hb2⟩
  have HQ := aa hb2
  have KW : Hid (Sl w2 A2 (dJ q xs ys 0)) := aa hs2
  clear hs2 hb2
  go_wp2
  go_loopw [21] (fun i wr => i = .int .i64 0 ∧ wr = w2) (fun _ _ => 0)
  case atStart => exact ⟨rfl, rfl⟩
  case round =>
   obtain ⟨rfl, rfl⟩ := hrel
   go_wp2_with fail
   refine (fM q A2 (dJ q xs ys 0) 0 c2 M ic (by omega) (by omega) (by omega) JF _ KW).mono ?_
   rintro e w3 ⟨A3, c3, L3, rfl, hs3, hp3, hv3, hb3⟩
   have HR := aa hs3
   have HP := aa hp3
   have HV := aa hv3
   have HB3 := aa (ag HQ.out hb3)
   clear hs3 hp3 hv3 hb3
   go_wp2
   go_ret
   exact ⟨A3, c3, L3, rfl, HR.out, HP.out, fun X => (HV.out X).trans (zL.out X), HB3.out⟩
 ·
  go_in
  go_wp2_with fail
  refine (ym A xs n c hn (by omega) hbig _ hS).mono ?_
  rintro e w2 ⟨g, cap, rfl, hg, hcap, hr2, hgl, hb2⟩
  have HQ := aa hb2
  have Oh := aa hr2
  have hgw : w.heap.size ≤ g := hg
  clear hr2 hb2 hg
  go_wp2
  go_loopw [21] (fun i wr => ∃ k : Nat, k ≤ m ∧ i = .int .i64 k ∧ Hid (Rl wr g (dJ q xs ys k)) ∧ Hid (Below w.heap.size w wr)) (fun i _ => m - (intOf i).toNat)
  case atStart => exact ⟨0, by omega, rfl, Oh, HQ⟩
  case round =>
   obtain ⟨k, hk, rfl, Fw, aB⟩ := hrel
   by_cases hlt : k < m
   ·
    have KR := aa (hT.out.below aB.out)
    obtain ⟨b, o, hB, hi0⟩ := KR.out k (by rw [hm.out]; exact hlt)
    subst hB
    have hkn : k < n := by omega
    have hi1 : wr.cell? ⟨g, k, none⟩ = some (.int .i64 (xs.getD k 0)) := by rw [← j5 q xs ys k k (Nat.le_refl _)]; exact Fw.out.1 k (by rw [d_, hn.out]; exact hkn)
    have fz := Fw.out.2 k
    obtain ⟨x0, x1⟩ := cK hx.out (k := k) (by rw [hn.out]; exact hkn)
    obtain ⟨y0, y1⟩ := cK hy.out (k := k) (by rw [hm.out]; exact hlt)
    have HN := aa (Fw.out.set (k := k) (by rw [d_, hn.out]; exact hkn) ((xs.getD k 0 + ys.getD k 0) % q))
    have Kr : (dJ q xs ys k).set k ((xs.getD k 0 + ys.getD k 0) % q) = dJ q xs ys (k + 1) := rfl
    rw [Kr] at HN
    clear Kr
    obtain ⟨x, hxv⟩ : ∃ x, xs.getD k 0 = x := ⟨_, rfl⟩
    obtain ⟨y, hyv⟩ : ∃ y, ys.getD k 0 = y := ⟨_, rfl⟩
    rw [hxv] at hi1 HN x0 x1
    rw [hyv] at hi0 HN y0 y1
    obtain ⟨R, hR⟩ : ∃ R, (x + y) % q = R := ⟨_, rfl⟩
    rw [hR] at HN
    have R0 : 0 ≤ R := by rw [← hR]; exact Int.emod_nonneg _ (by omega)
    have R1 : R < q := by rw [← hR]; exact Int.emod_lt_of_pos _ (by omega)
    have e1 : IntKind.i64.wrap (x + y) = x + y := IntWalk.i64_in _ (by omega)
    have e2 : wrap64 (x + y) = x + y := IntWalk.wrap64_in _ (by omega)
    have Kc : (x + y).tmod q = R := iq (by omega) hR
    have hwt : IntKind.i64.wrap R = R := IntWalk.i64_in _ (by omega)
    have Hq : wrap64 R = R := IntWalk.wrap64_in _ (by omega)
    have HB2 : Hid (Below w.heap.size w (wr.setCell ⟨g, k, none⟩ (.int .i64 R))) := aa (aB.out.setCell hgw _)
    clear hxv hyv hR
    go_wp2
    go_roundw
    case rel => exact ⟨k + 1, by omega, by go_num, HN, HB2⟩
    case measure => simp [intOf]; omega
   ·
    obtain rfl : k = m := by omega
    have rE : Hid (Sl wr (some ⟨g, 0, none⟩) (dJ q xs ys k)) := aa Fw.out.sl
    go_wp2_with fail
    refine (fM q (some ⟨g, 0, none⟩) (dJ q xs ys k) n cap M ic hcap hM hbig JF _ rE).mono ?_
    rintro e w3 ⟨A3, c3, L3, rfl, hs3, hp3, hv3, hb3⟩
    have HR := aa hs3
    have HP := aa hp3
    have HV := aa hv3
    have HB3 := aa (ag aB.out hb3)
    clear hs3 hp3 hv3 hb3
    go_wp2
    go_ret
    exact ⟨A3, c3, L3, rfl, HR.out, HP.out, fun X => (HV.out X).trans (zL.out X), HB3.out⟩
theorem GN (q : Int) (A : Option Addr) (xs : List Int) (n c : Nat) (B : Option Addr) (ys : List Int) (m d M : Nat) (h1 : 1 ≤ q) (h2 : q < 2305843009213693952) (hn : Hid (xs.length = n)) (hm : Hid (ys.length = m)) (hM : n ≤ M) (hnm : m < n) (hbig : n < 1000000) (hx : Hid (xs.all (aQ q) = true)) (hy : Hid (ys.all (aQ q) = true)) (w : World) (hS : Hid (Sl w A xs)) (hT : Hid (Sl w B ys)) :
  Calls Tryz.prog 47 #[.int .i64 q, .slice B m d, .slice A n c] w (lI q M (fun X => pv xs X + pv ys X) w) := by
 have d0 : decide ((m : Int) < (n : Int)) = true := by simp; omega
 have hQn : ¬ (q = 0) := by omega
 have Jg : ((q : Int) == 0) = false := by simp; omega
 have zL : Hid (∀ X, Cg q (pv (dJ q xs ys m) X) (pv xs X + pv ys X)) := aa (fun X => by
  have h9 := rA (q := q) xs ys X m (by rw [hn.out]; omega) (by rw [hm.out]; exact Nat.le_refl _)
  rwa [List.take_of_length_le (by rw [hm.out]; exact Nat.le_refl _)] at h9)
 have JF : Hid ((dJ q xs ys m).all (aQ q) = true) := aa (nW h1 xs ys hx.out m)
 have ic : Hid ((dJ q xs ys m).length = n) := aa (by rw [d_]; exact hn.out)
 by_cases h0 : n = 0
 · omega
 ·
  go_in
  go_wp2_with fail
  refine (ym A xs n c hn (by omega) hbig _ hS).mono ?_
  rintro e w2 ⟨g, cap, rfl, hg, hcap, hr2, hgl, hb2⟩
  have HQ := aa hb2
  have Oh := aa hr2
  have hgw : w.heap.size ≤ g := hg
  clear hr2 hb2 hg
  go_wp2
  go_loopw [21] (fun i wr => ∃ k : Nat, k ≤ m ∧ i = .int .i64 k ∧ Hid (Rl wr g (dJ q xs ys k)) ∧ Hid (Below w.heap.size w wr)) (fun i _ => m - (intOf i).toNat)
  case atStart => exact ⟨0, by omega, rfl, Oh, HQ⟩
  case round =>
   obtain ⟨k, hk, rfl, Fw, aB⟩ := hrel
   by_cases hlt : k < m
   ·
    have KR := aa (hT.out.below aB.out)
    obtain ⟨b, o, hB, hi0⟩ := KR.out k (by rw [hm.out]; exact hlt)
    subst hB
    have hkn : k < n := by omega
    have hi1 : wr.cell? ⟨g, k, none⟩ = some (.int .i64 (xs.getD k 0)) := by rw [← j5 q xs ys k k (Nat.le_refl _)]; exact Fw.out.1 k (by rw [d_, hn.out]; exact hkn)
    have fz := Fw.out.2 k
    obtain ⟨x0, x1⟩ := cK hx.out (k := k) (by rw [hn.out]; exact hkn)
    obtain ⟨y0, y1⟩ := cK hy.out (k := k) (by rw [hm.out]; exact hlt)
    have HN := aa (Fw.out.set (k := k) (by rw [d_, hn.out]; exact hkn) ((xs.getD k 0 + ys.getD k 0) % q))
    have Kr : (dJ q xs ys k).set k ((xs.getD k 0 + ys.getD k 0) % q) = dJ q xs ys (k + 1) := rfl
    rw [Kr] at HN
    clear Kr
    obtain ⟨x, hxv⟩ : ∃ x, xs.getD k 0 = x := ⟨_, rfl⟩
    obtain ⟨y, hyv⟩ : ∃ y, ys.getD k 0 = y := ⟨_, rfl⟩
    rw [hxv] at hi1 HN x0 x1
    rw [hyv] at hi0 HN y0 y1
    obtain ⟨R, hR⟩ : ∃ R, (x + y) % q = R := ⟨_, rfl⟩
    rw [hR] at HN
    have R0 : 0 ≤ R := by rw [← hR]; exact Int.emod_nonneg _ (by omega)
    have R1 : R < q := by rw [← hR]; exact Int.emod_lt_of_pos _ (by omega)
    have e1 : IntKind.i64.wrap (x + y) = x + y := IntWalk.i64_in _ (by omega)
    have e2 : wrap64 (x + y) = x + y := IntWalk.wrap64_in _ (by omega)
    have Kc : (x + y).tmod q = R := iq (by omega) hR
    have hwt : IntKind.i64.wrap R = R := IntWalk.i64_in _ (by omega)
    have Hq : wrap64 R = R := IntWalk.wrap64_in _ (by omega)
    have HB2 : Hid (Below w.heap.size w (wr.setCell ⟨g, k, none⟩ (.int .i64 R))) := aa (aB.out.setCell hgw _)
    clear hxv hyv hR
    go_wp2
    go_roundw
    case rel => exact ⟨k + 1, by omega, by go_num, HN, HB2⟩
    case measure => simp [intOf]; omega
   ·
    obtain rfl : k = m := by omega
    have rE : Hid (Sl wr (some ⟨g, 0, none⟩) (dJ q xs ys k)) := aa Fw.out.sl
    go_wp2_with fail
    refine (fM q (some ⟨g, 0, none⟩) (dJ q xs ys k) n cap M ic hcap hM hbig JF _ rE).mono ?_
    rintro e w3 ⟨A3, c3, L3, rfl, hs3, hp3, hv3, hb3⟩
    have HR := aa hs3
    have HP := aa hp3
    have HV := aa hv3
    have HB3 := aa (ag aB.out hb3)
    clear hs3 hp3 hv3 hb3
    go_wp2
    go_ret
    exact ⟨A3, c3, L3, rfl, HR.out, HP.out, fun X => (HV.out X).trans (zL.out X), HB3.out⟩
theorem Bn (q : Int) (A : Option Addr) (xs : List Int) (n c : Nat) (B : Option Addr) (ys : List Int) (m d M : Nat) (h1 : 1 ≤ q) (h2 : q < 2305843009213693952) (hn : Hid (xs.length = n)) (hm : Hid (ys.length = m)) (hM : n ≤ M) (hM2 : m ≤ M) (hbig : M < 1000000) (hx : Hid (xs.all (aQ q) = true)) (hy : Hid (ys.all (aQ q) = true)) (w : World) (hS : Hid (Sl w A xs)) (hT : Hid (Sl w B ys)) :
  Calls Tryz.prog 47 #[.int .i64 q, .slice A n c, .slice B m d] w (lI q M (fun X => pv xs X + pv ys X) w) := by
 by_cases h : m ≤ n
 · exact GQ q A xs n c B ys m d M h1 h2 hn hm hM h (by omega) hx hy w hS hT
 · exact (GN q B ys m d A xs n c M h1 h2 hm hn hM2 (by omega) (by omega) hy hx w hT hS).mono fun e w' h => h.to (fun X => Cg.of_eq (Int.add_comm _ _)) (Below.refl _ _)
def rO (q x : Int) (ys : List Int) (i : Nat) (L : List Int) : Nat → List Int
 | 0 => L
 | k + 1 => (rO q x ys i L k).set (i + k) (((rO q x ys i L k).getD (i + k) 0 + x * ys.getD k 0 % q) % q)
def ow (q : Int) (xs ys : List Int) (N : Nat) : Nat → List Int
 | 0 => List.replicate N 0
 | i + 1 => rO q (xs.getD i 0) ys i (ow q xs ys N i) ys.length
theorem lZ (q x : Int) (ys : List Int) (i : Nat) (L : List Int) : ∀ k, (rO q x ys i L k).length = L.length
 | 0 => rfl
 | k + 1 => by rw [rO, List.length_set, lZ q x ys i L k]
theorem l5 (q : Int) (xs ys : List Int) (N : Nat) : ∀ i, (ow q xs ys N i).length = N
 | 0 => List.length_replicate
 | i + 1 => by rw [ow, lZ, l5 q xs ys N i]
theorem qB {q x : Int} (hq : 1 ≤ q) (ys : List Int) (i : Nat) {L : List Int} (h : L.all (aQ q) = true) : ∀ k, (rO q x ys i L k).all (aQ q) = true
 | 0 => h
 | k + 1 => by rw [rO]; exact yx (qB hq ys i h k) (lX hq)
theorem qC {q : Int} (hq : 1 ≤ q) (xs ys : List Int) (N : Nat) : ∀ i, (ow q xs ys N i).all (aQ q) = true
 | 0 => zF hq N
 | i + 1 => qB hq ys i (qC hq xs ys N i) _
theorem Bo {q x : Int} (ys : List Int) (i : Nat) (L : List Int) (X : Int) : ∀ k, i + k ≤ L.length → k ≤ ys.length → Cg q (pv (rO q x ys i L k) X) (pv L X + x * X ^ i * pv (ys.take k) X)
 | 0, _, _ => Cg.of_eq (by rw [rO, List.take_zero, pv]; omega)
 | k + 1, h1, h2 => by
  rw [rO, iB X ys k (by omega)]
  refine (Bi (by rw [lZ]; omega) rfl).trans ?_
  refine ((Bo ys i L X k (by omega) (by omega)).add ((Cg.mod _ _).mul (Cg.refl _ _))).trans (Cg.of_eq ?_)
  rw [Int.pow_add]
  grind
theorem Bp {q : Int} (xs ys : List Int) (N : Nat) (X : Int) (hN : xs.length + ys.length ≤ N + 1) (hy : 1 ≤ ys.length) : ∀ i, i ≤ xs.length → Cg q (pv (ow q xs ys N i) X) (pv (xs.take i) X * pv ys X)
 | 0, _ => Cg.of_eq (by rw [ow, sM, List.take_zero, pv, Int.zero_mul])
 | i + 1, h => by
  rw [ow, iB X xs i (by omega)]
  refine (Bo ys i _ X ys.length (by rw [l5]; omega) (Nat.le_refl _)).trans ?_
  rw [List.take_of_length_le (Nat.le_refl _)]
  refine ((Bp xs ys N X hN hy i (by omega)).add (Cg.refl _ _)).trans (Cg.of_eq ?_)
  grind
theorem Ec (w : World) (T : TypeId) (n : Nat) : Rl (w.alloc (.cells (madeCells #[.int .i64 0] n) T)) w.heap.size (List.replicate n 0) := by
 obtain ⟨h1, h2⟩ := kG w T n
 refine ⟨fun j hj => ?_, h2⟩
 rw [List.length_replicate] at hj
 rw [h1 j hj, List.getD_eq_getElem?_getD, List.getElem?_replicate, if_pos hj]; rfl
theorem pF (q : Int) (A : Option Addr) (xs : List Int) (n c : Nat) (B : Option Addr) (ys : List Int) (m d M : Nat) (h1 : 1 ≤ q) (h2 : q < 2305843009213693952) (hn : Hid (xs.length = n)) (hm : Hid (ys.length = m)) (hM : n + m ≤ M + 1) (hbig : M < 100000) (hx : Hid (xs.all (aQ q) = true)) (hy : Hid (ys.all (aQ q) = true)) (w : World) (hS : Hid (Sl w A xs)) (hT : Hid (Sl w B ys)) :
  Calls Tryz.prog 48 #[.int .i64 q, .slice A n c, .slice B m d] w (lI q M (fun X => pv xs X * pv ys X) w) := by
 by_cases hn0 : n = 0
 ·
  subst hn0
  have e0 : xs = [] := List.eq_nil_of_length_eq_zero hn.out
  subst e0
  go_in
  go_wp2
  go_ret
  exact ⟨none, 0, [], rfl, sl0 _ _, Pl.nil q M, fun X => Cg.of_eq (by show (0 : Int) = 0 * _; rw [Int.zero_mul]), Below.refl _ _⟩
 by_cases hm0 : m = 0
 ·
  subst hm0
  have e0 : ys = [] := List.eq_nil_of_length_eq_zero hm.out
  subst e0
  have dn : ((n : Int) == 0) = false := by simp; omega
  go_in
  go_wp2
  go_ret
  exact ⟨none, 0, [], rfl, sl0 _ _, Pl.nil q M, fun X => Cg.of_eq (by show (0 : Int) = _ * 0; rw [Int.mul_zero]), Below.refl _ _⟩
 have dn : ((n : Int) == 0) = false := by simp; omega
 have dm : ((m : Int) == 0) = false := by simp; omega
 obtain ⟨N, hN⟩ : ∃ N, n + m - 1 = N := ⟨_, rfl⟩
 have eN : (n : Int) + (m : Int) - 1 = (N : Int) := by omega
 have hmm := fun W => run_make_row' (P := Tryz.prog) 30 3 (.int .i64 0) 8 Tryz.underlying30 fD rfl .i64 .i64 N (by omega) (by omega) W
 have lM := aa (Ec w 3 N)
 have zL : Hid (∀ X, Cg q (pv (ow q xs ys N n) X) (pv xs X * pv ys X)) := aa (fun X => by
  have h9 := Bp (q := q) xs ys N X (by rw [hn.out, hm.out]; omega) (by rw [hm.out]; omega) n (by rw [hn.out]; exact Nat.le_refl _)
  rwa [List.take_of_length_le (by rw [hn.out]; exact Nat.le_refl _)] at h9)
 have JF : Hid ((ow q xs ys N n).all (aQ q) = true) := aa (qC h1 xs ys N n)
 have ic : Hid ((ow q xs ys N n).length = N) := aa (l5 q xs ys N n)
 have hQn : ¬ (q = 0) := by omega
 have Jg : ((q : Int) == 0) = false := by simp; omega
 go_in
 go_wp2
 obtain ⟨W, hW⟩ : ∃ W, w.alloc (.cells (madeCells #[.int .i64 0] N) 3) = W := ⟨_, rfl⟩
 have uG : Hid (Below w.heap.size w W) := aa (by rw [← hW]; exact af _ _)
 rw [hW] at lM ⊢
 clear hW hmm
 go_loopw [29] (fun i wr => ∃ k : Nat, k ≤ n ∧ i = .int .i64 k ∧ Hid (Rl wr w.heap.size (ow q xs ys N k)) ∧ Hid (Below w.heap.size w wr)) (fun i _ => n - (intOf i).toNat)
 case atStart => exact ⟨0, by omega, rfl, lM, uG⟩
 case round =>
  obtain ⟨i, hi, rfl, P5, OT⟩ := hrel
  by_cases hin : i < n
  ·
   have R7 := aa (hS.out.below OT.out)
   obtain ⟨b, o, hA, hi0⟩ := R7.out i (by rw [hn.out]; exact hin)
   subst hA
   obtain ⟨x0, x1⟩ := cK hx.out (k := i) (by rw [hn.out]; exact hin)
   obtain ⟨x, hxv⟩ : ∃ x, xs.getD i 0 = x := ⟨_, rfl⟩
   have Sn : Hid (ow q xs ys N (i + 1) = rO q x ys i (ow q xs ys N i) m) := aa (by rw [ow, hxv, hm.out])
   rw [hxv] at hi0 x0 x1
   clear hxv lM uG
   go_wp2
   go_loopw [36] (fun j wr => ∃ k : Nat, k ≤ m ∧ j = .int .i64 k ∧ Hid (Rl wr w.heap.size (rO q x ys i (ow q xs ys N i) k)) ∧ Hid (Below w.heap.size w wr)) (fun j _ => m - (intOf j).toNat)
   case atStart => exact ⟨0, by omega, rfl, P5, OT⟩
   case round =>
    obtain ⟨k, hk, rfl, K5, uE⟩ := hrel
    by_cases hkm : k < m
    ·
     have RY := aa (hT.out.below uE.out)
     obtain ⟨b2, o2, hB, hk0⟩ := RY.out k (by rw [hm.out]; exact hkm)
     subst hB
     obtain ⟨y0, y1⟩ := cK hy.out (k := k) (by rw [hm.out]; exact hkm)
     obtain ⟨J, hJ⟩ : ∃ J, i + k = J := ⟨_, rfl⟩
     have eJ : (i : Int) + (k : Int) = (J : Int) := by omega
     have NJ : J < N := by omega
     have Ov : Hid ((rO q x ys i (ow q xs ys N i) k).length = N) := aa (by rw [lZ, l5])
     have hz0 := K5.out.1 J (by rw [Ov.out]; exact NJ)
     have QY := K5.out.2 J
     obtain ⟨z0, z1⟩ := cK (qB (x := x) h1 ys i (qC h1 xs ys N i) k) (k := J) (by rw [Ov.out]; exact NJ)
     obtain ⟨y, hyv⟩ : ∃ y, ys.getD k 0 = y := ⟨_, rfl⟩
     obtain ⟨z, hzv⟩ : ∃ z, (rO q x ys i (ow q xs ys N i) k).getD J 0 = z := ⟨_, rfl⟩
     have Jz : Hid (rO q x ys i (ow q xs ys N i) (k + 1) = (rO q x ys i (ow q xs ys N i) k).set J ((z + x * y % q) % q)) := aa (by rw [rO, hJ, hyv, hzv])
     rw [hyv] at hk0 y0 y1
     rw [hzv] at hz0 z0 z1
     obtain ⟨m1, hm1⟩ : ∃ m1, x * y % q = m1 := ⟨_, rfl⟩
     have SI := aa hm1
     have a0 : 0 ≤ m1 := by rw [← hm1]; exact Int.emod_nonneg _ (by omega)
     have a1 : m1 < q := by rw [← hm1]; exact Int.emod_lt_of_pos _ (by omega)
     rw [hm1] at Jz
     obtain ⟨R, hR⟩ : ∃ R, (z + m1) % q = R := ⟨_, rfl⟩
     rw [hR] at Jz
     have e1 : IntKind.i64.wrap (z + m1) = z + m1 := IntWalk.i64_in _ (by omega)
     have e2 : wrap64 (z + m1) = z + m1 := IntWalk.wrap64_in _ (by omega)
     have Kc : (z + m1).tmod q = R := iq (by omega) hR
     have R0 : 0 ≤ R := by rw [← hR]; exact Int.emod_nonneg _ (by omega)
     have R1 : R < q := by rw [← hR]; exact Int.emod_lt_of_pos _ (by omega)
     have hwt : IntKind.i64.wrap R = R := IntWalk.i64_in _ (by omega)
     have Hq : wrap64 R = R := IntWalk.wrap64_in _ (by omega)
     have e3 : IntKind.i64.wrap (J : Int) = (J : Int) := IntWalk.i64_in _ (by omega)
     have e4 : wrap64 (J : Int) = (J : Int) := IntWalk.wrap64_in _ (by omega)
     clear hyv hzv hm1 hR hJ
     go_upto_region 10 with (fail)
     have hO : Hid (∀ u, Hid (Below wr.heap.size wr u) → u.cell? ⟨w.heap.size, J, none⟩ = some (.int .i64 z)) := aa (fun u h => (h.out.cell (World.block_lt_of_cell? _ _ hz0)).trans hz0)
     refine Jd (fun u => Below wr.heap.size wr u) [18] (aa (Below.refl _ _).drew) (fun hHeld => ?_)
     refine gJ 0 1 2 3 ?_
     refine gJ 4 5 6 7 ?_
     refine gJ 8 9 10 11 ?_
     refine lC 12 ?_
     refine lC 15 ?_
     have FB := hHeld
     refine mK 13 fun K hK => ?_
     go_simp
     refine (eO q x y m1 SI h2 x0 x1 y0 y1 _).mono ?_
     rintro e u1 ⟨rfl, hq1⟩
     have rJ := aa (ag FB.out hq1)
     refine hK.out _ _ rJ (fun hHeld => ?_)
     clear hK K
     try simp only [qq]
     refine lC 14 ?_
     refine lC 16 ?_
     refine lC 17 ?_
     refine Jb 18 fun K hK => ?_
     have MZ := (rJ.out.cell (World.block_lt_of_cell? _ _ hz0)).trans hz0
     have NP := (rJ.out.frozen (World.block_lt_of_cell? _ _ hz0)).trans QY
     have kz : Hid (Below w.heap.size w (u1.setCell ⟨w.heap.size, J, none⟩ (.int .i64 R))) := aa ((ag uE.out rJ.out).setCell (Nat.le_refl _) _)
     have Sg : Hid (Rl (u1.setCell ⟨w.heap.size, J, none⟩ (.int .i64 R)) w.heap.size (rO q x ys i (ow q xs ys N i) (k + 1))) := aa (by
      rw [Jz.out]
      exact (K5.out.below rJ.out (World.block_lt_of_cell? _ _ hz0)).set (by rw [Ov.out]; exact NJ) R)
     go_simp
     refine hK.out _ _ ?_
     clear hK K
     try simp only [qq]
     refine Aj ?_
     clear MZ NP
     go_wp2
     go_roundw
     case rel => exact ⟨k + 1, by omega, by go_num, Sg, kz⟩
     case measure => simp [intOf]; omega
    ·
     obtain rfl : k = m := by omega
     rw [← Sn.out] at K5
     go_wp2
     go_roundw
     case rel => exact ⟨i + 1, by omega, by go_num, K5, uE⟩
     case measure => simp [intOf]; omega
  ·
   obtain rfl : i = n := by omega
   have rE : Hid (Sl wr (some ⟨w.heap.size, 0, none⟩) (ow q xs ys N i)) := aa P5.out.sl
   go_wp2_with fail
   refine (fM q (some ⟨w.heap.size, 0, none⟩) (ow q xs ys N i) N N M ic (Nat.le_refl _) (by omega) (by omega) JF _ rE).mono ?_
   rintro e w3 ⟨A3, c3, L3, rfl, hs3, hp3, hv3, hb3⟩
   have HR := aa hs3
   have HP := aa hp3
   have HV := aa hv3
   have HB3 := aa (ag OT.out hb3)
   clear hs3 hp3 hv3 hb3
   go_wp2
   go_ret
   exact ⟨A3, c3, L3, rfl, HR.out, HP.out, fun X => (HV.out X).trans (zL.out X), HB3.out⟩
def KJ (q : Int) (xs ys : List Int) (n : Nat) (w : World) (e : Ending) (w' : World) : Prop := ∃ A c L, e = .returned (.tuple #[.slice A L.length c, .int .i64 0]) ∧ Sl w' A L ∧ Pl q n L ∧ rC q xs ys n L ∧ Below w.heap.size w w'
theorem Bj (k X : Int) : pv [k] X = k := by show k + X * 0 = k; omega
theorem GM (a X : Int) : pv [a, 1] X = a + X := by show a + X * (1 + X * 0) = a + X; simp
theorem Es (q : Int) (A : Option Addr) (xs : List Int) (n c : Nat) (B : Option Addr) (ys : List Int) (d : Nat) (h2 : q < 2305843009213693952) (hp : Hid (dB q = true)) (hn : Hid (xs.length = n)) (hm : Hid (ys.length = n)) (hbig : n ≤ 100) (hcap : n ≤ c)
  (hx : Hid (xs.all (aQ q) = true)) (hy : Hid (ys.all (aQ q) = true)) (hnt : Hid (bI xs)) (hu : Hid (∀ i j, i < n → j < n → i ≠ j → Un q (bV xs i - bV xs j))) (w : World) (hv : Hid (Vars w)) (hS : Hid (Sl w A xs)) (hT : Hid (Sl w B ys)) :
  Calls Tryz.prog 12 #[.int .i64 q, .slice A n c, .slice B n d] w (KJ q xs ys n w) := by
 have q2 := fB hp.out
 have q1 : 1 ≤ q := by omega
 have dn : ((n : Int) != (n : Int)) = false := by simp
 go_in
 go_wp2_with fail
 refine (pG q A xs n c B ys n d h2 hp hn hbig hcap hm hbig hx hy hnt _ hv hS hT).mono ?_
 rintro e W ⟨rfl, hb0⟩
 have uG := aa hb0
 clear hb0
 go_wp2
 have hb1 := af W (.cells #[.int .i64 1] 3)
 have yE : Hid (Sl (W.alloc (.cells #[.int .i64 1] 3)) (some ⟨W.heap.size, 0, none⟩) [1]) := aa (dU (nS W 3 1))
 have Jt : Hid (Pl q (0 + 1) [1]) := aa ⟨lW (by omega) (by omega), by simp, .inr (by simp)⟩
 have Gu : Hid (∀ X, Cg q (pv [1] X) (gp (bV xs) X 0)) := aa (fun X => Cg.of_eq (by rw [Bj]; rfl))
 have HB1 : Hid (Below w.heap.size w (W.alloc (.cells #[.int .i64 1] 3))) := aa (ag uG.out hb1)
 clear hb1
 go_loopw [9, 10, 29] (fun vf vg i wr => ∃ (k : Nat) (Af : Option Addr) (cf : Nat) (F : List Int) (Ag : Option Addr) (cg : Nat) (G : List Int), k ≤ n ∧ i = .int .i64 k ∧ vf = .slice Af F.length cf ∧ vg = .slice Ag G.length cg ∧ Hid (Sl wr Af F) ∧ Hid (Sl wr Ag G) ∧ Hid (Pl q k F) ∧ Hid (Pl q (k + 1) G) ∧ Hid (rC q xs ys k F) ∧ Hid (∀ X, Cg q (pv G X) (gp (bV xs) X k)) ∧ Hid (Below w.heap.size w wr)) (fun _ _ i _ => n - (intOf i).toNat)
 case atStart => exact ⟨0, none, 0, [], some ⟨W.heap.size, 0, none⟩, 1, [1], by omega, rfl, rfl, rfl, aa (sl0 _ _), yE, aa (Pl.nil q 0), Jt, aa (y7 q xs ys), Gu, HB1⟩
 case round =>
  obtain ⟨k, Af, cf, F, Ag, cg, G, hk, rfl, rfl, rfl, Gn, Ob, Js, Mx, P_, OC, aB⟩ := hrel
  obtain ⟨lf, hlf⟩ : ∃ l, F.length = l := ⟨_, rfl⟩
  obtain ⟨lg, LH⟩ : ∃ l, G.length = l := ⟨_, rfl⟩
  have MG := aa hlf
  have MF := aa LH
  have lf1 : lf ≤ k := by rw [← hlf]; exact Js.out.len
  have TV : lg ≤ k + 1 := by rw [← LH]; exact Mx.out.len
  rw [hlf, LH]
  clear hlf LH
  by_cases hlt : k < n
  ·
   have lK := aa (hS.out.below aB.out)
   have KR := aa (hT.out.below aB.out)
   obtain ⟨b, o, hA, hi0⟩ := lK.out k (by rw [hn.out]; exact hlt)
   subst hA
   obtain ⟨b2, o2, hB, hk0⟩ := KR.out k (by rw [hm.out]; exact hlt)
   subst hB
   obtain ⟨x0, x1⟩ := cK hx.out (k := k) (by rw [hn.out]; exact hlt)
   obtain ⟨y0, y1⟩ := cK hy.out (k := k) (by rw [hm.out]; exact hlt)
   have RX : Hid (Un q (pv G (bV xs k))) := aa ((B_ k (fun j hj => hu.out k j hlt (by omega) (by omega))).cg (OC.out _).symm)
   obtain ⟨x, hxv⟩ : ∃ x, xs.getD k 0 = x := ⟨_, rfl⟩
   obtain ⟨y, hyv⟩ : ∃ y, ys.getD k 0 = y := ⟨_, rfl⟩
   have HX : Hid (bV xs k = x) := aa hxv
   have HY : Hid (bV ys k = y) := aa hyv
   rw [hxv] at hi0 x0 x1
   rw [hyv] at hk0 y0 y1
   clear hxv hyv
   obtain ⟨E1, hE1⟩ : ∃ z, xX q x F lf = z := ⟨_, rfl⟩
   obtain ⟨a0, a1⟩ := nJ q1 x F lf
   obtain ⟨E2, hE2⟩ : ∃ z, xX q x G lg = z := ⟨_, rfl⟩
   obtain ⟨c0, c1⟩ := nJ q1 x G lg
   rw [hE1] at a0 a1
   rw [hE2] at c0 c1
   have JD := aa hE1
   have HE2 := aa hE2
   obtain ⟨S1, hS1⟩ : ∃ z, (y - E1 + q) % q = z := ⟨_, rfl⟩
   have s0 : 0 ≤ S1 := by rw [← hS1]; exact Int.emod_nonneg _ (by omega)
   have s1 : S1 < q := by rw [← hS1]; exact Int.emod_lt_of_pos _ (by omega)
   have K4 := aa hS1
   obtain ⟨V, hV⟩ : ∃ z, fC E2 q = z := ⟨_, rfl⟩
   have HV := aa hV
   obtain ⟨v0, v1⟩ := Hl q2 hV
   obtain ⟨KK, LW⟩ : ∃ z, S1 * V % q = z := ⟨_, rfl⟩
   have k0 : 0 ≤ KK := by rw [← LW]; exact Int.emod_nonneg _ (by omega)
   have k1 : KK < q := by rw [← LW]; exact Int.emod_lt_of_pos _ (by omega)
   have HKK := aa LW
   obtain ⟨N1, hN1⟩ : ∃ z, (0 - x + q) % q = z := ⟨_, rfl⟩
   have n0 : 0 ≤ N1 := by rw [← hN1]; exact Int.emod_nonneg _ (by omega)
   have n1 : N1 < q := by rw [← hN1]; exact Int.emod_lt_of_pos _ (by omega)
   have Jz := aa hN1
   clear hE1 hE2 hS1 hV LW hN1
   go_upto_region 11 with (fail)
   have hO : Hid (∀ u, Hid (Below wr.heap.size wr u) → u.cell? ⟨b2, o2 + k, none⟩ = some (.int .i64 y)) := aa (fun u h => (h.out.cell (World.block_lt_of_cell? _ _ hk0)).trans hk0)
   refine Jd (fun u => Below wr.heap.size wr u) [] (aa (Below.refl _ _).drew) (fun hHeld => ?_)
   refine gJ 0 1 2 3 ?_
   refine gJ 4 5 6 7 ?_
   refine gJ 8 11 12 13 ?_
   refine lC 14 ?_
   have QL := hHeld
   refine mK 9 fun K hK => ?_
   go_simp
   refine (kJ q Af F lf cf x q1 h2 (aa Js.out.sc) MG (by omega) x0 x1 _ (aa (Gn.out.below QL.out))).mono ?_
   rintro e u1 ⟨rfl, hq1⟩
   rw [JD.out]
   have QK := aa (ag QL.out hq1)
   refine hK.out _ _ QK (fun hHeld => ?_)
   clear hK K hq1
   try simp only [qq]
   refine mK 10 fun K hK => ?_
   go_simp
   refine (jy q y E1 S1 K4 q1 h2 y0 y1 a0 a1 _).mono ?_
   rintro e u2 ⟨rfl, hq1⟩
   have rJ := aa (ag QK.out hq1)
   refine hK.out _ _ rJ (fun hHeld => ?_)
   clear hK K hq1
   try simp only [qq]
   refine mK 15 fun K hK => ?_
   go_simp
   refine (kJ q Ag G lg cg x q1 h2 (aa Mx.out.sc) MF (by omega) x0 x1 _ (aa (Ob.out.below rJ.out))).mono ?_
   rintro e u3 ⟨rfl, hq1⟩
   rw [HE2.out]
   have QJ := aa (ag rJ.out hq1)
   refine hK.out _ _ QJ (fun hHeld => ?_)
   clear hK K hq1
   try simp only [qq]
   refine mK 16 fun K hK => ?_
   go_simp
   refine (sN q E2 V HV q2 h2 c0 c1 _).mono ?_
   rintro e u4 ⟨rfl, _, _, hq1⟩
   have QI := aa (ag QJ.out hq1)
   refine hK.out _ _ QI (fun hHeld => ?_)
   clear hK K hq1
   try simp only [qq]
   refine mK 17 fun K hK => ?_
   go_simp
   refine (eO q S1 V KK HKK h2 s0 s1 v0 v1 _).mono ?_
   rintro e u5 ⟨rfl, hq1⟩
   have QH := aa (ag QI.out hq1)
   refine hK.out _ _ QH (fun hHeld => ?_)
   clear hK K hq1
   try simp only [qq]
   refine lC 18 ?_
   refine Aj ?_
   clear hO
   go_wp2_with fail
   have QG := aa (ag QH.out (af u5 (.cells #[.int .i64 KK] 3)))
   have CV := aa (dU (nS u5 3 KK))
   have CW := aa (Ob.out.below QG.out)
   refine (pF q (some ⟨u5.heap.size, 0, none⟩) [KK] 1 1 Ag G lg cg (k + 1) q1 h2 (aa rfl) MF (by omega) (by omega) (aa (lW k0 k1)) (aa Mx.out.sc) _ CV CW).mono ?_
   rintro e u6 ⟨A6, c6, P6, rfl, hs6, Nh, hv6, hb6⟩
   have K3 := aa hs6
   have Su := aa Nh
   have RV := aa hv6
   have QF := aa (ag QG.out hb6)
   obtain ⟨l6, LJ⟩ : ∃ l, P6.length = l := ⟨_, rfl⟩
   have QW : l6 ≤ k + 1 := by rw [← LJ]; exact Nh.len
   have SV := aa LJ
   rw [LJ]
   clear hs6 Nh hv6 hb6 LJ CV CW
   have KY := aa (Gn.out.below QF.out)
   go_wp2_with fail
   refine (Bn q Af F lf cf A6 P6 l6 c6 (k + 1) q1 h2 MG SV (by omega) QW (by omega) (aa Js.out.sc) (aa Su.out.sc) _ KY K3).mono ?_
   rintro e u7 ⟨A7, c7, F7, rfl, hs7, Pe, hv7, Ib⟩
   have Sc := aa hs7
   have Sr := aa Pe
   have RU := aa hv7
   have Ty := aa (ag QF.out Ib)
   clear hs7 Pe hv7 Ib KY
   obtain ⟨l7, Ns⟩ : ∃ l, F7.length = l := ⟨_, rfl⟩
   have SQ := aa Ns
   rw [Ns]
   clear Ns
   go_wp2_with fail
   refine (jy q 0 x N1 Jz q1 h2 (by omega) (by omega) x0 x1 _).mono ?_
   rintro e u8 ⟨rfl, LK⟩
   have Tx := aa (ag Ty.out LK)
   have Oe := aa (Sc.out.below LK)
   clear LK
   go_wp2_with fail
   have hbx := af u8 (.cells #[.int .i64 N1, .int .i64 1] 3)
   have Ls := aa (ag Tx.out hbx)
   have PY := aa (dU (Cy u8 3 N1 1))
   have Od := aa (Oe.out.below hbx)
   have CW := aa (Ob.out.below Ls.out)
   have Oo : Hid ([N1, 1].all (aQ q) = true) := aa (by simp [aQ]; omega)
   clear hbx
   refine (pF q Ag G lg cg (some ⟨u8.heap.size, 0, none⟩) [N1, 1] 2 2 (k + 1 + 1) q1 h2 MF (aa rfl) (by omega) (by omega) (aa Mx.out.sc) Oo _ CW PY).mono ?_
   rintro e u9 ⟨A9, c9, G9, rfl, Dl, Pd, Dk, zU⟩
   have wV := aa Dl
   have Sq := aa Pd
   have NV := aa Dk
   have OW := aa (ag (ag aB.out Ls.out) zU)
   have Oc := aa (Od.out.below zU)
   obtain ⟨l9, Nr⟩ : ∃ l, G9.length = l := ⟨_, rfl⟩
   have SN := aa Nr
   rw [Nr]
   clear Dl Pd Dk zU Nr CW PY
   have Ol : Hid (rC q xs ys (k + 1) F7) := aa (by
    refine y8 (k := KK) P_.out OC.out ?_ (fun X => (RU.out X).trans ((Cg.refl _ _).add ((RV.out X).trans (Cg.of_eq (by rw [Bj])))))
    have e2 : Cg q E2 (pv G (bV xs k)) := by rw [HX.out, ← HE2.out, vU q1 x G lg MF.out]; exact Cg.mod _ _
    have e1 : Cg q E1 (pv F (bV xs k)) := by rw [HX.out, ← JD.out, vU q1 x F lf MG.out]; exact Cg.mod _ _
    have e3 : Cg q (V * E2) 1 := by rw [← HV.out]; exact jO q2 (RX.out.cg e2.symm)
    have e4 : Cg q S1 (bV ys k - pv F (bV xs k)) := by
     rw [← K4.out, HY.out]
     exact (Cg.mod _ _).trans ((((Cg.refl _ _).sub e1).add ⟨1, by omega⟩).trans (Cg.of_eq (Int.add_zero _)))
    rw [← HKK.out]
    refine ((Cg.mod _ _).mul e2.symm).trans ?_
    refine (Cg.of_eq (show S1 * V * E2 = S1 * (V * E2) from Int.mul_assoc _ _ _)).trans ?_
    exact (((Cg.refl _ _).mul e3).trans (Cg.of_eq (Int.mul_one _))).trans e4)
   have OB : Hid (∀ X, Cg q (pv G9 X) (gp (bV xs) X (k + 1))) := aa (fun X => by
    refine (NV.out X).trans ?_
    rw [gp]
    dsimp only
    rw [GM]
    refine (OC.out X).mul ?_
    have e5 : Cg q N1 (0 - x) := by rw [← Jz.out]; exact (Cg.mod _ _).trans ⟨1, by omega⟩
    exact (e5.add (Cg.refl _ _)).trans (Cg.of_eq (by rw [HX.out]; omega)))
   go_wp2
   go_roundw
   case rel => exact ⟨k + 1, A7, c7, F7, A9, c9, G9, by omega, by go_num, by rw [SQ.out], by rw [SN.out], Oc, wV, Sr, Sq, Ol, OB, OW⟩
   case measure => simp [intOf]; omega
  ·
   obtain rfl : k = n := by omega
   go_wp2
   go_ret2
   exact ⟨Af, cf, F, by rw [MG.out]; rfl, Gn.out, Js.out, P_.out, aB.out⟩
end Go.Proofs.YticegghameafgaaGreatDoor