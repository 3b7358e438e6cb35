/- Contracts and lemmas: TruC, DigE, Itm, EncA, EncD, TrB, DrA, DrC, Two, TruD, LcA, LcB, LinK, LinO, LinP, LinQ, LinS, EqA, EqE, Base, EscA, TruF, OpT, OpSh, TruJ, Ply, Pts, Rnd, Pev. -/
import Derived.Maps.OwnSet
import Derived.Deep.AppendLies
import Derived.Deep.MidRow
import Derived.Deep.Heap
import Derived.RangeFuncBox
import Derived.RangeFuncLeaves
import Derived.RangeFuncCalls
import Derived.OrdersIn
import Derived.Shelf.Abstract
import Derived.WalkKit
import Derived.OwnWalkIn
import Derived.TacticsInMore
import Derived.LoopNIn
import Derived.LoopIn
import Derived.Test.YtchcllcbknfikaaGreatDoorTs2
set_option linter.unusedVariables false
set_option linter.unusedSimpArgs false
set_option maxRecDepth 100000
set_option maxHeartbeats 25600000
namespace Go.Proofs.YtchcllcbknfikaaGreatDoor
open Go.RowKit jK Go.Maps
theorem pJ : Keyed Tryz.prog 3 := int_keyed Tryz.underlying3
theorem CL (w : World) : (zeroValue 4).run Tryz.prog w = .ok (.bool false) w := by kernel_rfl
theorem iU {a b : Int} (h : a ≠ b) : (Lit.int .i64 a) ≠ Lit.int .i64 b := fun e => h (by injection e)
theorem iE {P : Program} {e : TypeId} (he : P.underlying e = some .bool) {v : Value} {z : DataW Unit × List MemPlace} (h : plainElem P e v = some z) : ∃ x, v = .bool x ∧ z.1 = .lit (.bool x) := by
 unfold plainElem at h
 rw [he] at h
 cases v <;> simp at h
 exact ⟨_, rfl, by rw [← h]⟩
theorem pI {a b : Bool} (h : (DataW.lit (.bool a) : DataW Unit) = .lit (.bool b)) : a = b := by
 injection h with h1
 injection h1
def Ey (xs : List Int) (wr : World) (B k : Nat) : Prop :=
 ∃ D : DataW Unit, wr.ownsMap Tryz.prog 3 (plainElem Tryz.prog 4) B k D ∧ (∀ a : Int, has D (.int .i64 a) = true → D.atKey (.int .i64 a) (.lit (.bool false)) = .lit (.bool true) ∧ ∃ j, j < k ∧ a = xs.getD j 0) ∧ (∀ j, j < k → has D (.int .i64 (xs.getD j 0)) = true)
theorem uz (xs : List Int) (w : World) : Ey xs (w.alloc (.map #[] 0)) w.heap.size 0 :=
 ⟨.map [], World.ownsMap_made _ _ _ _, fun a h => by simp [has] at h, fun j h => absurd h (by omega)⟩
theorem yI {xs : List Int} {w' : World} {B k : Nat} {x : Int} {D : DataW Unit} (hx : xs.getD k 0 = x) (ht : Tidy D)
  (h1 : w'.ownsMap Tryz.prog 3 (plainElem Tryz.prog 4) B (k + 1) (D.put (.int .i64 x) (.lit (.bool true))))
  (hA : ∀ a : Int, has D (.int .i64 a) = true → D.atKey (.int .i64 a) (.lit (.bool false)) = .lit (.bool true) ∧ ∃ j, j < k ∧ a = xs.getD j 0) (hB : ∀ j, j < k → has D (.int .i64 (xs.getD j 0)) = true) : Ey xs w' B (k + 1) := by
 refine ⟨_, h1, fun a ha => ?_, fun j hj => ?_⟩
 ·
  by_cases hax : a = x
  ·
   subst hax
   exact ⟨atKey_put_same ht.isMap (by simp [WideAt.IsKeyLit]) _ _, k, by omega, hx.symm⟩
  ·
   rw [has_put_other (iU hax)] at ha
   rw [atKey_put_other (iU hax)]
   obtain ⟨e1, j, hj, e2⟩ := hA a ha
   exact ⟨e1, j, by omega, e2⟩
 ·
  by_cases Cv : xs.getD j 0 = x
  · rw [Cv]; exact has_put_same ht.isMap (by simp [WideAt.IsKeyLit]) _
  ·
   rw [has_put_other (iU Cv)]
   have hjk : j ≠ k := fun e => Cv (by rw [e]; exact hx)
   exact hB j (by omega)
def zQ (xs : List Int) (k : Nat) : Prop := ∀ i j, i < k → j < i → xs.getD i 0 ≠ xs.getD j 0
theorem mD (A : Option Addr) (xs : List Int) (n c : Nat) (r : Bool) (hr : Hid (r = false ↔ aP xs)) (hn : Hid (xs.length = n)) (hbig : n < 1000000) (hw : Hid (∀ k, k < n → -9223372036854775808 ≤ xs.getD k 0 ∧ xs.getD k 0 < 9223372036854775808)) (w : World) (hs : Hid (Sl w A xs)) :
  Calls Tryz.prog 33 #[.slice A n c] w (Rt w (.bool r)) := by
 have hmm := fun t w => run_makeMap (P := Tryz.prog) t w
 have CG := aa (uz xs w)
 have Il : Hid (Below w.heap.size w (w.alloc (.map #[] 0))) := aa (ag _ _)
 obtain ⟨B, Es⟩ : ∃ B, w.heap.size = B := ⟨_, rfl⟩
 obtain ⟨W, En⟩ : ∃ W, w.alloc (.map #[] 0) = W := ⟨_, rfl⟩
 rw [Es, En] at CG Il
 have EJ := aa Es
 have Jd := aa En
 have xO : Hid (B ≤ W.heap.size) := aa (by rw [← Es, ← En]; simp)
 clear Es En
 go_in
 go_wp2
 rw [Jd.out, EJ.out]
 go_loopw [9] (fun i wr => ∃ k : Nat, k ≤ n ∧ i = .int .i64 k ∧ Hid (zQ xs k) ∧ Hid (Ey xs wr B k) ∧ Hid (Below B w wr)) (fun i _ => n - (intOf i).toNat)
 case atStart => exact ⟨0, by omega, rfl, aa (fun i j h _ => absurd h (by omega)), CG, Il⟩
 case round =>
  obtain ⟨k, hk, rfl, yj, JG, ax⟩ := hrel
  by_cases hlt : k < n
  ·
   have hkl : k < xs.length := by rw [hn.out]; exact hlt
   obtain ⟨b, o, hA, hi0⟩ := (hs.out.below (show Below w.heap.size w wr by rw [EJ.out]; exact ax.out)) k hkl
   subst hA
   obtain ⟨w1, w2⟩ := hw.out k hlt
   obtain ⟨x, hx⟩ : ∃ x, xs.getD k 0 = x := ⟨_, rfl⟩
   rw [hx] at hi0 w1 w2
   obtain ⟨D, hown, hA, hB⟩ := JG.out
   have HX := aa hx
   have EM := aa hA
   have Cj := aa hB
   have HT := aa (hown.tidy pJ)
   have wf1 : (Lit.int .i64 x).wf = true := WalkArith.wf_i64 (by omega)
   have hkey : keyOf Tryz.prog 3 (.int .i64 x) = some (.int .i64 x) := keyOf_int_mk Tryz.underlying3 wf1
   obtain ⟨v9, Kn, hrun, qG⟩ := hown.lookup pJ Tryz.underlying123 (CL wr) (plainElem_bool Tryz.underlying4 false) hkey
   obtain ⟨bv, rfl, hbv⟩ := iE Tryz.underlying4 qG
   clear qG hA hB hx
   cases hh : has D (.int .i64 x) with
   | true =>
    obtain ⟨e1, j, hj, e2⟩ := EM.out x hh
    have hbt : bv = true := by
     rw [e1] at hbv
     exact (pI hbv).symm
    subst hbt
    obtain rfl : r = true := by
     cases hrr : r with
     | true => rfl
     | false => exact absurd (HX.out.trans e2) ((hr.out.1 hrr) k j hkl hj)
    clear e1 e2 hbv hh
    go_wp2
    go_ret
    exact ⟨rfl, by rw [EJ.out]; exact ax.out⟩
   | false =>
    have hbf : bv = false := by
     rw [atKey_of_not_has hh] at hbv
     exact (pI hbv).symm
    subst hbf
    have t_ : Hid (zQ xs (k + 1)) := aa (fun i j hi hj => by
     by_cases e : i = k
     ·
      subst e
      intro h
      have := Cj.out j hj
      rw [← h, HX.out, hh] at this
      cases this
     · exact yj.out i j (by omega) hj)
    clear hbv hh
    go_wp2_with (at_mapUpdate; refine wpList_mapUpdate_own _ rfl _ _ _ 123 rfl 3 4 pJ Tryz.underlying123 _ B k _ rfl hown (by unfold maxLen; omega) _ _ _ rfl rfl hkey _ [] (plainElem_bool Tryz.underlying4 true) ?_; intro xS hown1 hgrow1)
    have zX : Hid (Ey xs xS B (k + 1)) := aa (yI HX.out HT.out hown1 EM.out Cj.out)
    have IL := hown.lt
    have Aa : Hid (Below B w xS) := aa (ax.out.grown hgrow1 (by omega) (fun j hj => by cases hj; exact Nat.le_refl _))
    clear hown hown1 hgrow1
    go_roundw
    case rel => exact ⟨k + 1, by omega, by go_num, t_, zX, Aa⟩
    case measure => simp [intOf]; omega
  ·
   obtain rfl : k = n := by omega
   obtain rfl : r = false := hr.out.2 (fun i j hi hj => yj.out i j (by rw [← hn.out]; exact hi) hj)
   go_wp2
   go_ret
   exact ⟨rfl, by rw [EJ.out]; exact ax.out⟩
theorem kD (A : Option Addr) (xs : List Int) (n c : Nat) (r : Bool) (hr : Hid (r = false ↔ aP xs)) (hn : Hid (xs.length = n)) (hbig : n < 1000000) (w : World) (hs : Hid (Sl w A xs)) :
  Calls Tryz.prog 52 #[.slice A n c] w (Rt w (.bool r)) := by
 go_in
 go_wp2
 go_loopw [3] (fun i wr => ∃ k : Nat, k ≤ n ∧ i = .int .i64 k ∧ Hid (zQ xs k) ∧ Hid (Below w.heap.size w wr)) (fun i _ => n - (intOf i).toNat)
 case atStart => exact ⟨0, by omega, rfl, aa (fun i j h _ => absurd h (by omega)), aa (Below.refl _ _)⟩
 case round =>
  obtain ⟨k, hk, rfl, yj, ax⟩ := hrel
  by_cases hlt : k < n
  ·
   have hkl : k < xs.length := by rw [hn.out]; exact hlt
   go_wp2
   go_loopw [4] (fun i wz => ∃ j : Nat, j ≤ k ∧ i = .int .i64 j ∧ Hid (∀ m, m < j → xs.getD k 0 ≠ xs.getD m 0) ∧ Hid (Below w.heap.size w wz)) (fun i _ => k - (intOf i).toNat)
   case atStart => exact ⟨0, by omega, rfl, aa (fun m h => absurd h (by omega)), ax⟩
   case round =>
    obtain ⟨j, hj, rfl, Ig, dG⟩ := hrel
    by_cases hlj : j < k
    ·
     have hjl : j < xs.length := by omega
     have DF := aa (hs.out.below dG.out)
     obtain ⟨b, o, hA, hi0⟩ := DF.out k hkl
     obtain ⟨b2, o2, hA2, hi1⟩ := DF.out j hjl
     subst hA
     cases hA2
     obtain ⟨x, hx⟩ : ∃ x, xs.getD k 0 = x := ⟨_, rfl⟩
     obtain ⟨y, hy⟩ : ∃ x, xs.getD j 0 = x := ⟨_, rfl⟩
     rw [hx] at hi0
     rw [hy] at hi1
     cases hxy : (x == y) with
     | true =>
      obtain rfl : r = true := by
       cases hrr : r with
       | true => rfl
       | false => exact absurd (hx.trans ((eq_of_beq hxy).trans hy.symm)) ((hr.out.1 hrr) k j hkl hlj)
      clear hx hy hjl hkl
      go_wp2
      go_quiet (fail)
      have HB2 := aa (aj dG.out nq)
      go_wp2
      go_ret
      exact ⟨rfl, HB2.out⟩
     | false =>
      have DV : Hid (∀ m, m < j + 1 → xs.getD k 0 ≠ xs.getD m 0) := aa (fun m hm => by
       by_cases e : m = j
       ·
        subst e
        rw [hx, hy]
        simpa using hxy
       · exact Ig.out m (by omega))
      clear hx hy hjl hkl
      go_wp2
      go_quiet (fail)
      have HB2 := aa (aj dG.out nq)
      go_wp2
      go_roundw
      case rel => exact ⟨j + 1, by omega, by go_num, DV, HB2⟩
      case measure => simp [intOf]; omega
    ·
     obtain rfl : j = k := by omega
     have t_ : Hid (zQ xs (j + 1)) := aa (fun i m hi hm => by
      by_cases e : i = j
      · subst e; exact Ig.out m hm
      · exact yj.out i m (by omega) hm)
     go_wp2
     go_roundw
     case rel => exact ⟨j + 1, by omega, by go_num, t_, dG⟩
     case measure => simp [intOf]; omega
  ·
   obtain rfl : k = n := by omega
   obtain rfl : r = false := hr.out.2 (fun i j hi hj => yj.out i j (by rw [← hn.out]; exact hi) hj)
   go_wp2
   go_ret
   exact ⟨rfl, ax.out⟩
theorem jv {P Q G : Int} (h : au P Q G = true) : aA P Q G = true := by
 obtain ⟨h1, h2, h3, h4⟩ := aB h
 simp [au] at h
 simp [aA]
 omega
abbrev xU (ix v : Int) : Value := .agg #[.int .i64 ix, .int .i64 v]
abbrev h_ (ix v : Int) : Obj := .cells #[.int .i64 ix, .int .i64 v] 35
def dU (n : Nat) (i : Int) : Bool := decide (1 ≤ i) && decide (i ≤ n)
def cK (P Q G : Int) (ks : List Int) (ix v : Int) : Bool := dU ks.length ix && (aQ Q v && (pw G (v % Q) P == ks.getD (ix - 1).toNat 0))
theorem fH {n : Nat} {i : Int} (h : dU n i = true) : ∃ m : Nat, m < n ∧ i = (m : Int) + 1 := by
 unfold dU at h
 simp only [Bool.and_eq_true, decide_eq_true_eq] at h
 exact ⟨(i - 1).toNat, by omega, by omega⟩
theorem bW (need : Int) (Cs : Option Addr) (cn cc : Nat) (Ks : Option Addr) (kn kc : Nat) (i : Int) (r : Bool) (hr : Hid (dU kn i = r)) (w : World) :
  Calls Tryz.prog 37 #[fA need Cs cn cc Ks kn kc, .int .i64 i] w (Rt w (.bool r)) := by
 have HX := ag w (fB need Cs cn cc Ks kn kc)
 have hc : (w.alloc (fB need Cs cn cc Ks kn kc)).cell? ⟨w.heap.size, 0, none⟩ = some (.int .i64 need) ∧ (w.alloc (fB need Cs cn cc Ks kn kc)).cell? ⟨w.heap.size, 1, none⟩ = some (.slice Cs cn cc) ∧ (w.alloc (fB need Cs cn cc Ks kn kc)).cell? ⟨w.heap.size, 2, none⟩ = some (.slice Ks kn kc) := ⟨ah (heap_alloc_new _ _) 0, ah (heap_alloc_new _ _) 1, ah (heap_alloc_new _ _) 2⟩
 obtain ⟨c0, c1, c2⟩ := hc
 have hr1 := hr.out
 unfold dU at hr1
 by_cases h0 : (1 : Int) ≤ i
 ·
  have d0 : decide ((1 : Int) ≤ i) = true := by simp; omega
  by_cases h1 : i ≤ (kn : Int)
  ·
   have d1 : decide (i ≤ (kn : Int)) = true := by simp; omega
   obtain rfl : r = true := by rw [← hr1]; simp; omega
   go_in
   go_wp2
   go_ret
   exact ⟨rfl, HX⟩
  ·
   have d1 : decide (i ≤ (kn : Int)) = false := by simp; omega
   obtain rfl : r = false := by rw [← hr1]; simp; omega
   go_in
   go_wp2
   go_ret
   exact ⟨rfl, HX⟩
 ·
  have d0 : decide ((1 : Int) ≤ i) = false := by simp; omega
  obtain rfl : r = false := by rw [← hr1]; simp; omega
  go_in
  go_wp2
  go_ret
  exact ⟨rfl, HX⟩
theorem bF (need : Int) (Cs : Option Addr) (cn cc : Nat) (Ks : Option Addr) (kn kc : Nat) (i : Int) (r : Bool) (hr : Hid (dU kn i = r)) (w : World) :
  Calls Tryz.prog 50 #[fA need Cs cn cc Ks kn kc, .int .i64 i] w (Rt w (.bool r)) := by
 have HX := ag w (fB need Cs cn cc Ks kn kc)
 have hc : (w.alloc (fB need Cs cn cc Ks kn kc)).cell? ⟨w.heap.size, 0, none⟩ = some (.int .i64 need) ∧ (w.alloc (fB need Cs cn cc Ks kn kc)).cell? ⟨w.heap.size, 1, none⟩ = some (.slice Cs cn cc) ∧ (w.alloc (fB need Cs cn cc Ks kn kc)).cell? ⟨w.heap.size, 2, none⟩ = some (.slice Ks kn kc) := ⟨ah (heap_alloc_new _ _) 0, ah (heap_alloc_new _ _) 1, ah (heap_alloc_new _ _) 2⟩
 obtain ⟨c0, c1, c2⟩ := hc
 have hr1 := hr.out
 unfold dU at hr1
 by_cases h0 : (1 : Int) ≤ i
 ·
  have d0 : decide ((1 : Int) ≤ i) = true := by simp; omega
  by_cases h1 : i ≤ (kn : Int)
  ·
   have d1 : decide (i ≤ (kn : Int)) = true := by simp; omega
   obtain rfl : r = true := by rw [← hr1]; simp; omega
   go_in
   go_wp2
   go_ret
   exact ⟨rfl, HX⟩
  ·
   have d1 : decide (i ≤ (kn : Int)) = false := by simp; omega
   obtain rfl : r = false := by rw [← hr1]; simp; omega
   go_in
   go_wp2
   go_ret
   exact ⟨rfl, HX⟩
 ·
  have d0 : decide ((1 : Int) ≤ i) = false := by simp; omega
  obtain rfl : r = false := by rw [← hr1]; simp; omega
  go_in
  go_wp2
  go_ret
  exact ⟨rfl, HX⟩
theorem fD (P Q G x : Int) (r : Bool) (hr : Hid (aQ Q x = r)) (w : World) :
  Calls Tryz.prog 38 #[gv P Q G, .int .i64 x] w (Rt w (.bool r)) := by
 have HX := ag w (aG P Q G)
 have hc : (w.alloc (aG P Q G)).cell? ⟨w.heap.size, 0, none⟩ = some (.int .i64 P) ∧ (w.alloc (aG P Q G)).cell? ⟨w.heap.size, 1, none⟩ = some (.int .i64 Q) ∧ (w.alloc (aG P Q G)).cell? ⟨w.heap.size, 2, none⟩ = some (.int .i64 G) := ⟨ah (heap_alloc_new _ _) 0, ah (heap_alloc_new _ _) 1, ah (heap_alloc_new _ _) 2⟩
 obtain ⟨c0, c1, c2⟩ := hc
 have hr1 := hr.out
 unfold aQ at hr1
 by_cases h0 : (0 : Int) ≤ x
 ·
  have d0 : decide ((0 : Int) ≤ x) = true := by simp; omega
  by_cases h1 : x < Q
  ·
   have d1 : decide (x < Q) = true := by simp; omega
   obtain rfl : r = true := by rw [← hr1]; simp; omega
   go_in
   go_wp2
   go_ret
   exact ⟨rfl, HX⟩
  ·
   have d1 : decide (x < Q) = false := by simp; omega
   obtain rfl : r = false := by rw [← hr1]; simp; omega
   go_in
   go_wp2
   go_ret
   exact ⟨rfl, HX⟩
 ·
  have d0 : decide ((0 : Int) ≤ x) = false := by simp; omega
  obtain rfl : r = false := by rw [← hr1]; simp; omega
  go_in
  go_wp2
  go_ret
  exact ⟨rfl, HX⟩
theorem dK (P Q G x : Int) (r : Bool) (hr : Hid (aQ Q x = r)) (w : World) :
  Calls Tryz.prog 51 #[gv P Q G, .int .i64 x] w (Rt w (.bool r)) := by
 have HX := ag w (aG P Q G)
 have hc : (w.alloc (aG P Q G)).cell? ⟨w.heap.size, 0, none⟩ = some (.int .i64 P) ∧ (w.alloc (aG P Q G)).cell? ⟨w.heap.size, 1, none⟩ = some (.int .i64 Q) ∧ (w.alloc (aG P Q G)).cell? ⟨w.heap.size, 2, none⟩ = some (.int .i64 G) := ⟨ah (heap_alloc_new _ _) 0, ah (heap_alloc_new _ _) 1, ah (heap_alloc_new _ _) 2⟩
 obtain ⟨c0, c1, c2⟩ := hc
 have hr1 := hr.out
 unfold aQ at hr1
 by_cases h0 : (0 : Int) ≤ x
 ·
  have d0 : decide ((0 : Int) ≤ x) = true := by simp; omega
  by_cases h1 : x < Q
  ·
   have d1 : decide (x < Q) = true := by simp; omega
   obtain rfl : r = true := by rw [← hr1]; simp; omega
   go_in
   go_wp2
   go_ret
   exact ⟨rfl, HX⟩
  ·
   have d1 : decide (x < Q) = false := by simp; omega
   obtain rfl : r = false := by rw [← hr1]; simp; omega
   go_in
   go_wp2
   go_ret
   exact ⟨rfl, HX⟩
 ·
  have d0 : decide ((0 : Int) ≤ x) = false := by simp; omega
  obtain rfl : r = false := by rw [← hr1]; simp; omega
  go_in
  go_wp2
  go_ret
  exact ⟨rfl, HX⟩
theorem right_1 (P Q G need : Int) (Cs : Option Addr) (cn cc : Nat) (Ks : Option Addr) (kn kc : Nat) (ix v : Int) (hm : Hid (dU kn ix = false)) (w : World) :
  Calls Tryz.prog 32 #[gv P Q G, fA need Cs cn cc Ks kn kc, xU ix v] w (Rt w (.bool false)) := by
 obtain ⟨w0, HW, az, kC⟩ := Ab (aG P Q G) gy (fB need Cs cn cc Ks kn kc) gy (h_ ix v) rY w
 have ai := bI w0
 go_in
 go_wp2_with fail
 rw [HW.out]
 have zc := kC.out _ ai
 go_wp2_with fail
 clear zc
 refine bH kC ai (bW need Cs cn cc Ks kn kc ix false hm _) fun w1 aD zc => ?_
 go_wp2
 go_ret
 exact ⟨rfl, gW az aD⟩
theorem yR (P Q G need : Int) (Cs : Option Addr) (cn cc : Nat) (Ks : Option Addr) (kn kc : Nat) (ix v : Int) (hm : Hid (dU kn ix = true)) (hsc : Hid (aQ Q v = false)) (w : World) :
  Calls Tryz.prog 32 #[gv P Q G, fA need Cs cn cc Ks kn kc, xU ix v] w (Rt w (.bool false)) := by
 obtain ⟨w0, HW, az, kC⟩ := Ab (aG P Q G) gy (fB need Cs cn cc Ks kn kc) gy (h_ ix v) rY w
 have ai := bI w0
 go_in
 go_wp2_with fail
 rw [HW.out]
 have zc := kC.out _ ai
 go_wp2_with fail
 clear zc
 refine bH kC ai (bW need Cs cn cc Ks kn kc ix true hm _) fun w1 aD zc => ?_
 go_wp2_with fail
 clear zc
 refine bH kC aD (fD P Q G v false hsc _) fun w2 ak zc => ?_
 go_wp2
 go_ret
 exact ⟨rfl, gW az ak⟩
theorem yQ (P Q G need : Int) (Cs : Option Addr) (cn cc : Nat) (bK oK : Nat) (ks : List Int) (kn kc : Nat) (m : Nat) (hmk : m < kn) (v : Int) (hkn : Hid (ks.length = kn)) (hkb : kn ≤ 8) (hm : Hid (dU kn ((m : Int) + 1) = true)) (hsc : Hid (aQ Q v = true)) (bf : Hid (au P Q G = true)) (a y : Int) (ha : Hid (pw G (v % Q) P = a)) (hy : Hid (ks.getD m 0 = y)) (b : Bool) (hb : (a == y) = b) (w : World) (hv : Hid (Vars w)) (hK : Hid (Sl w (some ⟨bK, oK, none⟩) ks)) :
  Calls Tryz.prog 32 #[gv P Q G, fA need Cs cn cc (some ⟨bK, oK, none⟩) kn kc, xU ((m : Int) + 1) v] w (Rt w (.bool b)) := by
 obtain ⟨p1, p2, p3, p4⟩ := aB bf.out
 have v0 := dQ hsc.out
 have v1 := dR hsc.out
 obtain ⟨dj, Hu, Ht, Hr, Hq⟩ := kZ hmk hkb
 have hml : m < ks.length := by rw [hkn.out]; exact hmk
 have ck : Hid (jQ P Q G [G] = 0) := aa (nT bf.out (by simp [jv bf.out]))
 obtain ⟨w0, HW, az, kC⟩ := Ab (aG P Q G) gy (fB need Cs cn cc (some ⟨bK, oK, none⟩) kn kc) gy (h_ ((m : Int) + 1) v) rY w
 have kV := mkV az hv
 have dA := mkS az hK
 have ai := bI w0
 clear hv hK
 have kI := aa (show ∀ u : World, Hid (Below w0.heap.size w0 u) → u.cell? ⟨bK, oK + m, none⟩ = some (.int .i64 y) from fun u h => by
  obtain ⟨b9, o9, hA, hi⟩ := (dA.out u h).out m hml
  cases hA
  rwa [hy.out] at hi)
 go_in
 go_wp2_with fail
 rw [HW.out]
 have zc := kC.out _ ai
 have qh := kI.out _ ai
 go_wp2_with fail
 clear zc qh
 refine Ew ai (bW need Cs cn cc (some ⟨bK, oK, none⟩) kn kc ((m : Int) + 1) true hm _) fun w1 aD => ?_
 have zc := kC.out _ aD
 have qh := kI.out _ aD
 go_wp2_with fail
 clear zc qh
 refine Ew aD (fD P Q G v true hsc _) fun w2 ak => ?_
 have zc := kC.out _ ak
 have qh := kI.out _ ak
 go_wp2_with fail
 clear zc qh
 refine Ew ak (rR P Q G G v a ck ha (by omega) (by omega) _ (kV.out _ ak)) fun w3 aH => ?_
 have zc := kC.out _ aH
 have qh := kI.out _ aH
 have dD := af az.out aH.out
 go_wp2
 go_ret
 exact ⟨by first | rfl | rw [hb] | simp [hb], dD⟩
theorem ji (P Q G need : Int) (Cs : Option Addr) (cn cc : Nat) (Ks : Option Addr) (ks : List Int) (kn kc : Nat) (ix v : Int) (hkn : Hid (ks.length = kn)) (hkb : kn ≤ 8) (bf : Hid (au P Q G = true)) (r : Bool) (hr : Hid (cK P Q G ks ix v = r)) (w : World) (hv : Hid (Vars w)) (hK : Hid (Sl w Ks ks)) :
  Calls Tryz.prog 32 #[gv P Q G, fA need Cs cn cc Ks kn kc, xU ix v] w (Rt w (.bool r)) := by
 have hr1 := hr.out
 unfold cK at hr1
 rw [hkn.out] at hr1
 cases h1 : dU kn ix with
 | false =>
  obtain rfl : r = false := by rw [← hr1, h1]; rfl
  exact right_1 P Q G need Cs cn cc Ks kn kc ix v (aa h1) w
 | true =>
  cases h2 : aQ Q v with
  | false =>
   obtain rfl : r = false := by rw [← hr1, h1, h2]; rfl
   exact yR P Q G need Cs cn cc Ks kn kc ix v (aa h1) (aa h2) w
  | true =>
   obtain ⟨m, hmk, rfl⟩ := fH h1
   obtain ⟨bK, oK, rfl⟩ := gL hK.out (by rw [hkn.out]; omega)
   exact yQ P Q G need Cs cn cc bK oK ks kn kc m hmk v hkn hkb (aa h1) (aa h2) bf _ _ (aa rfl) (aa rfl) r (by rw [← hr1, h1, h2, show ((m : Int) + 1 - 1).toNat = m by omega]; rfl) w hv hK
theorem vo (P Q G need : Int) (Cs : Option Addr) (cn cc : Nat) (Ks : Option Addr) (kn kc : Nat) (ix v : Int) (hm : Hid (dU kn ix = false)) (w : World) :
  Calls Tryz.prog 15 #[gv P Q G, fA need Cs cn cc Ks kn kc, xU ix v] w (Rt w (.bool false)) := by
 obtain ⟨w0, HW, az, kC⟩ := Ab (aG P Q G) gy (fB need Cs cn cc Ks kn kc) gy (h_ ix v) rY w
 have ai := bI w0
 go_in
 go_wp2_with fail
 rw [HW.out]
 have hO := kC
 refine Bi [] ai (fun hHeld => ?_)
 refine aM 0 ?_
 refine aM 1 ?_
 refine aM 2 ?_
 refine eX 3 fun K hK => ?_
 go_simp
 refine (bF need Cs cn cc Ks kn kc ix false hm _).mono ?_
 rintro e wA ⟨rfl, dL⟩
 refine hK.out _ _ (lV hHeld dL) (fun hHeld => ?_)
 clear hK K
 refine aM 4 ?_
 refine ko 5 6 7 8 ?_
 refine aM 9 ?_
 refine aM 10 ?_
 refine ko 11 12 13 14 ?_
 refine ko 15 16 17 18 ?_
 refine ko 19 20 21 22 ?_
 refine Cu 23 ?_
 refine Cu 24 ?_
 refine aM 25 ?_
 refine aM 26 ?_
 refine jD ?_
 clear hO
 have fP := hHeld
 clear hHeld
 have zc := kC.out _ fP
 go_wp2
 go_ret
 exact ⟨rfl, gW az fP⟩
theorem vk (P Q G need : Int) (Cs : Option Addr) (cn cc : Nat) (Ks : Option Addr) (kn kc : Nat) (ix v : Int) (hm : Hid (dU kn ix = true)) (hsc : Hid (aQ Q v = false)) (w : World) :
  Calls Tryz.prog 15 #[gv P Q G, fA need Cs cn cc Ks kn kc, xU ix v] w (Rt w (.bool false)) := by
 obtain ⟨w0, HW, az, kC⟩ := Ab (aG P Q G) gy (fB need Cs cn cc Ks kn kc) gy (h_ ix v) rY w
 have ai := bI w0
 go_in
 go_wp2_with fail
 rw [HW.out]
 have hO := kC
 refine Bi [] ai (fun hHeld => ?_)
 refine aM 0 ?_
 refine aM 1 ?_
 refine aM 2 ?_
 refine eX 3 fun K hK => ?_
 go_simp
 refine (bF need Cs cn cc Ks kn kc ix true hm _).mono ?_
 rintro e wA ⟨rfl, dL⟩
 refine hK.out _ _ (lV hHeld dL) (fun hHeld => ?_)
 clear hK K
 refine aK 4 5 6 7 ?_
 refine eX 8 fun K hK => ?_
 go_simp
 refine (dK P Q G v false hsc _).mono ?_
 rintro e wA ⟨rfl, dL⟩
 refine hK.out _ _ (lV hHeld dL) (fun hHeld => ?_)
 clear hK K
 refine aM 9 ?_
 refine aM 10 ?_
 refine ko 11 12 13 14 ?_
 refine ko 15 16 17 18 ?_
 refine ko 19 20 21 22 ?_
 refine Cu 23 ?_
 refine Cu 24 ?_
 refine aM 25 ?_
 refine aM 26 ?_
 refine jD ?_
 clear hO
 have fP := hHeld
 clear hHeld
 have zc := kC.out _ fP
 go_wp2
 go_ret
 exact ⟨rfl, gW az fP⟩
theorem ve (P Q G need : Int) (Cs : Option Addr) (cn cc : Nat) (bK oK : Nat) (ks : List Int) (kn kc : Nat) (m : Nat) (hmk : m < kn) (v : Int) (hkn : Hid (ks.length = kn)) (hkb : kn ≤ 8) (hm : Hid (dU kn ((m : Int) + 1) = true)) (hsc : Hid (aQ Q v = true)) (bf : Hid (au P Q G = true)) (a y : Int) (ha : Hid (pw G (v % Q) P = a)) (hy : Hid (ks.getD m 0 = y)) (b : Bool) (hb : (a == y) = b) (w : World) (hK : Hid (Sl w (some ⟨bK, oK, none⟩) ks)) :
  Calls Tryz.prog 15 #[gv P Q G, fA need Cs cn cc (some ⟨bK, oK, none⟩) kn kc, xU ((m : Int) + 1) v] w (Rt w (.bool b)) := by
 obtain ⟨p1, p2, p3, p4⟩ := aB bf.out
 have v0 := dQ hsc.out
 have v1 := dR hsc.out
 obtain ⟨dj, Hu, Ht, Hr, Hq⟩ := kZ hmk hkb
 have hml : m < ks.length := by rw [hkn.out]; exact hmk
 have gu := gP (jv bf.out)
 have gl := gN (jv bf.out)
 obtain ⟨w0, HW, az, kC⟩ := Ab (aG P Q G) gy (fB need Cs cn cc (some ⟨bK, oK, none⟩) kn kc) gy (h_ ((m : Int) + 1) v) rY w
 have dA := mkS az hK
 have ai := bI w0
 clear hK
 have kI := aa (show ∀ u : World, Hid (Below w0.heap.size w0 u) → u.cell? ⟨bK, oK + m, none⟩ = some (.int .i64 y) from fun u h => by
  obtain ⟨b9, o9, hA, hi⟩ := (dA.out u h).out m hml
  cases hA
  rwa [hy.out] at hi)
 go_in
 go_wp2_with fail
 rw [HW.out]
 have hO := aa (fun (u : World) (h : Hid (Below w0.heap.size w0 u)) => And.intro (kC.out u h) (kI.out u h))
 refine Bi [] ai (fun hHeld => ?_)
 refine aM 0 ?_
 refine aM 1 ?_
 refine aM 2 ?_
 refine eX 3 fun K hK => ?_
 go_simp
 refine (bF need Cs cn cc (some ⟨bK, oK, none⟩) kn kc ((m : Int) + 1) true hm _).mono ?_
 rintro e wA ⟨rfl, dL⟩
 refine hK.out _ _ (lV hHeld dL) (fun hHeld => ?_)
 clear hK K
 refine aK 4 5 6 7 ?_
 refine eX 8 fun K hK => ?_
 go_simp
 refine (dK P Q G v true hsc _).mono ?_
 rintro e wA ⟨rfl, dL⟩
 refine hK.out _ _ (lV hHeld dL) (fun hHeld => ?_)
 clear hK K
 refine aK 9 10 11 12 ?_
 refine aK 13 14 15 17 ?_
 refine aK 18 19 20 21 ?_
 refine aM 22 ?_
 refine aM 23 ?_
 refine eX 16 fun K hK => ?_
 go_simp
 refine (kE P Q G G v a ha (by omega) p2 (by omega) (by omega) (by omega) gu (by omega) (by omega) _).mono ?_
 rintro e wA ⟨rfl, dL⟩
 refine hK.out _ _ (lV hHeld dL) (fun hHeld => ?_)
 clear hK K
 refine aM 24 ?_
 refine aM 25 ?_
 refine aM 26 ?_
 refine jD ?_
 clear hO
 have fP := hHeld
 clear hHeld
 have zc := kC.out _ fP
 have qh := kI.out _ fP
 have dD := af az.out fP.out
 go_wp2
 go_ret
 exact ⟨by first | rfl | rw [hb] | simp [hb], dD⟩
theorem iB (P Q G need : Int) (Cs : Option Addr) (cn cc : Nat) (Ks : Option Addr) (ks : List Int) (kn kc : Nat) (ix v : Int) (hkn : Hid (ks.length = kn)) (hkb : kn ≤ 8) (bf : Hid (au P Q G = true)) (r : Bool) (hr : Hid (cK P Q G ks ix v = r)) (w : World) (hK : Hid (Sl w Ks ks)) :
  Calls Tryz.prog 15 #[gv P Q G, fA need Cs cn cc Ks kn kc, xU ix v] w (Rt w (.bool r)) := by
 have hr1 := hr.out
 unfold cK at hr1
 rw [hkn.out] at hr1
 cases h1 : dU kn ix with
 | false =>
  obtain rfl : r = false := by rw [← hr1, h1]; rfl
  exact vo P Q G need Cs cn cc Ks kn kc ix v (aa h1) w
 | true =>
  cases h2 : aQ Q v with
  | false =>
   obtain rfl : r = false := by rw [← hr1, h1, h2]; rfl
   exact vk P Q G need Cs cn cc Ks kn kc ix v (aa h1) (aa h2) w
  | true =>
   obtain ⟨m, hmk, rfl⟩ := fH h1
   obtain ⟨bK, oK, rfl⟩ := gL hK.out (by rw [hkn.out]; omega)
   exact ve P Q G need Cs cn cc bK oK ks kn kc m hmk v hkn hkb (aa h1) (aa h2) bf _ _ (aa rfl) (aa rfl) r (by rw [← hr1, h1, h2, show ((m : Int) + 1 - 1).toNat = m by omega]; rfl) w hK
end Go.Proofs.YtchcllcbknfikaaGreatDoor
namespace Go.Proofs.YtchcllcbknfikaaGreatDoor
open Go.RowKit jK
theorem zK (b o i : Nat) : (⟨b, o, none⟩ : Addr).add i = ⟨b, o + i, none⟩ := by unfold Addr.add; split <;> simp_all
theorem Sk.news {K : IntKind} {w : World} {b o : Nat} {l : List Int} (h : Sk K w (some ⟨b, o, none⟩) l) : ∀ j u, (l.map (Value.int K))[j]? = some u → w.cell? ((⟨b, o, none⟩ : Addr).add j) = some u := fun j u hj => by
 rw [List.getElem?_map] at hj
 by_cases hl : j < l.length
 ·
  rw [List.getElem?_eq_getElem hl] at hj
  rw [zK, h.cell hl, List.getD_eq_getElem?_getD, List.getElem?_eq_getElem hl]
  exact hj
 · rw [List.getElem?_eq_none (by omega)] at hj; cases hj
inductive It where
 | int (n : Int)
 | byt (b : List Int)
 | lst (l : List It)
def Ex (n : Int) : List Int := [n / 16777216 % 256, n / 65536 % 256, n / 256 % 256, n % 256]
theorem zG (n : Int) : (Ex n).length = 4 := rfl
mutual
def enc : It → List Int
 | .int n => 1 :: FR (n % 18446744073709551616)
 | .byt b => 2 :: (Ex b.length ++ b)
 | .lst l => 3 :: (Ex l.length ++ wO l)
def wO : List It → List Int
 | [] => []
 | i :: l => enc i ++ wO l
end
theorem zx (n : Int) : enc (.int n) = 1 :: FR (n % 18446744073709551616) := by simp [enc]
theorem zw (l : List It) : enc (.lst l) = 3 :: (Ex l.length ++ wO l) := by simp [enc]
instance GI : Inhabited It := ⟨.int 0⟩
structure Ic where
 (kind n : Int)
 (B : Option Addr)
 (nb cb : Nat)
 (L : Option Addr)
 (nl cl : Nat)
def Ic.cs (c : Ic) : Array Value := #[.int .i64 c.kind, .int .i64 c.n, .slice c.B c.nb c.cb, .slice c.L c.nl c.cl]
def Ic.val (c : Ic) : Value := .agg c.cs
def Four (w : World) (b o : Nat) (c : Ic) : Prop := w.cell? ⟨b, o, none⟩ = some (.int .i64 c.kind) ∧ w.cell? ⟨b, o + 1, none⟩ = some (.int .i64 c.n) ∧ w.cell? ⟨b, o + 2, none⟩ = some (.slice c.B c.nb c.cb) ∧ w.cell? ⟨b, o + 3, none⟩ = some (.slice c.L c.nl c.cl)
theorem Four.below {w w' : World} {b o : Nat} {c : Ic} (h : Four w b o c) (hb : Below w.heap.size w w') : Four w' b o c :=
 ⟨cell_below h.1 hb, cell_below h.2.1 hb, cell_below h.2.2.1 hb, cell_below h.2.2.2 hb⟩
inductive BS (w : World) : It → Ic → Prop
 | int (n : Int) (c : Ic) (h1 : c.kind = 1) (h2 : c.n = n) (h3 : c.nb = 0) (h4 : c.nl = 0) : BS w (.int n) c
 | byt (b : List Int) (c : Ic) (h1 : c.kind = 2) (h2 : c.n = 0) (h3 : c.nb = b.length) (h4 : c.nl = 0) (h5 : Sk .u8 w c.B b) : BS w (.byt b) c
 | lst (l : List It) (c : Ic) (h1 : c.kind = 3) (h2 : c.n = 0) (h3 : c.nb = 0) (h4 : c.nl = l.length) (f : Nat → Ic)
   (h5 : ∀ k, k < l.length → ∃ b o, c.L = some ⟨b, o, none⟩ ∧ Four w b (o + k * 4) (f k)) (h6 : ∀ k, k < l.length → BS w (l.getD k default) (f k)) : BS w (.lst l) c
theorem BS.kept {w w' : World} {i : It} {c : Ic} (h : BS w i c) (hb : Below w.heap.size w w') : BS w' i c := by
 induction h with
 | int n c h1 h2 h3 h4 => exact .int n c h1 h2 h3 h4
 | byt b c h1 h2 h3 h4 h5 => exact .byt b c h1 h2 h3 h4 (h5.below hb)
 | lst l c h1 h2 h3 h4 f h5 h6 ih =>
  refine .lst l c h1 h2 h3 h4 f (fun k hk => ?_) ih
  obtain ⟨b, o, e, h⟩ := h5 k hk
  exact ⟨b, o, e, h.below hb⟩
theorem pV {w w1 w2 : World} {r r1 : Option Nat} (h : w.grownBy w1 r) (h2 : w1.grownBy w2 r1) (hr : r1 = r ∨ ∀ g, r1 = some g → w.heap.size ≤ g) : w.grownBy w2 r := by
 refine ⟨h2.os.trans h.os, h2.tape.trans h.tape, h2.output.trans h.output, Nat.le_trans h.size h2.size, fun k hk hne => ?_⟩
 refine (h2.block k (Nat.lt_of_lt_of_le hk h.size) ?_).trans (h.block k hk hne)
 intro e
 rcases hr with hr | hr
 · exact hne (by rw [e, hr])
 · have := hr k e.symm; omega
def App (base : Nat) (w : World) (v : Value) (xs ys : List Int) (w' : World) (v' : Value) : Prop :=
 bS .u8 5 w' base v' (xs ++ ys) ∧ w.grownBy w' v.ownBlock ∧ (v'.ownBlock = v.ownBlock ∨ ∀ g, v'.ownBlock = some g → w.heap.size ≤ g)
theorem App.refl {base : Nat} {w : World} {v : Value} {xs : List Int} (h : bS .u8 5 w base v xs) : App base w v xs [] w v :=
 ⟨by rw [List.append_nil]; exact h, World.grownBy.refl _ _, Or.inl rfl⟩
theorem App.trans {base : Nat} {w w1 w2 : World} {v v1 v2 : Value} {xs ys zs : List Int} (h : App base w v xs ys w1 v1) (h2 : App base w1 v1 (xs ++ ys) zs w2 v2) : App base w v xs (ys ++ zs) w2 v2 := by
 refine ⟨by rw [← List.append_assoc]; exact h2.1, pV h.2.1 h2.2.1 h.2.2, ?_⟩
 rcases h2.2.2 with e | e
 ·
  rcases h.2.2 with e1 | e1
  · exact Or.inl (e.trans e1)
  · exact Or.inr fun g hg => e1 g (e ▸ hg)
 · exact Or.inr fun g hg => Nat.le_trans h.2.1.size (e g hg)
theorem App.alloc {base : Nat} {w : World} {v : Value} {xs : List Int} (h : bS .u8 5 w base v xs) (o : Obj) : App base w v xs [] (w.alloc o) v :=
 ⟨by rw [List.append_nil]; exact h.keep (ag _ _), World.grownBy_alloc _ _ _, Or.inl rfl⟩
theorem App.pre {base : Nat} {w w1 w2 : World} {v v1 v2 : Value} {xs ys : List Int} (h : App base w v xs [] w1 v1) (h2 : App base w1 v1 xs ys w2 v2) : App base w v xs ys w2 v2 := by
 have h3 : App base w v xs ([] ++ ys) w2 v2 := h.trans (by rw [List.append_nil]; exact h2)
 exact h3
theorem App.below {B base : Nat} {w0 w w' : World} {v v' : Value} {xs ys : List Int} (h : App base w v xs ys w' v') (ho : bS .u8 5 w base v xs) (hb : Below B w0 w) (hB : B ≤ base) (hBw : B ≤ w.heap.size) : Below B w0 w' :=
 hb.grown h.2.1 hBw (fun j hj => Nat.le_trans hB (bS.lt ho j hj).1)
theorem App.cell {base : Nat} {w w' : World} {v v' : Value} {xs ys : List Int} (h : App base w v xs ys w' v') {p : Addr} {u : Value} (hc : w.cell? p = some u) (hne : v.ownBlock ≠ some p.block) : w'.cell? p = some u :=
 h.2.1.cell hc (Ne.symm hne)
section
variable {P : Program}
theorem wpList_append_lies {ops : Array Oper} {rest : List Oper} {o : Oper} {a : Act} {w : World} {Q : Exit → Act → World → Prop} (hgd : o.guard = none) (s x : Operand) (t : TypeId)
  (ho : o.op = .call { callee := .builtin .append, args := #[s, x], argTypes := #[t, t] })
  (base : Nat) (e : TypeId) (i : TypeInfo) (z : Value) (size bytes : Nat) (ht : P.underlying t = some (.slice e)) (hi : P.info? e = some i) (hz : i.zero = some z)
  (hsize : i.size = size) (hby : i.bytes = bytes) (hzs : z.cells.size = size) (hsz : 0 < size)
  (v : Value) (n : Nat) (xs : List Value) (hs : a.eval s = v) (hown : w.ownsRow base e size v n xs)
  (ad : Addr) (m c : Nat) (news : List Value) (hx : a.eval x = .slice (some ad) m c) (hl : news.length = m * size) (hnews : ∀ j u, news[j]? = some u → w.cell? (ad.add j) = some u) (h1 : ∀ u ∈ news, u.oneCell' = true)
  (hm : 0 < m) (h63 : n + m ≤ maxLen) (hbytes : (n + m) * bytes ≤ 140737488355328) (hbase : base ≤ w.heap.size) (H : Nat) (hH : w.heap.size = H)
  (h : ∀ g cap w', w'.ownsRow base e size (.slice (some ⟨g, 0, none⟩) (n + m) cap) (n + m) (xs ++ news) → w.grownBy w' v.ownBlock → (v.ownBlock = some g ∨ g = H) → g < w'.heap.size → wpList P ops Q rest (a.put o.dst (.slice (some ⟨g, 0, none⟩) (n + m) cap)) w') :
  wpList P ops Q (o :: rest) a w :=
 wpList_plain hgd fun _ hK => wp_append_lies w s x t ho base e i z size bytes ht hi hz hsize hby hzs hsz v n xs hs hown ad m c news hx hl hnews h1 hm h63 hbytes hbase H hH fun g cap w' a1 a2 a3 a4 => hK _ _ (h g cap w' a1 a2 a3 a4)
end
def bE (c : Ic) : List Value := [.int .i64 c.kind, .int .i64 c.n, .slice c.B c.nb c.cb, .slice c.L c.nl c.cl]
theorem qJ (w : World) (a j : Nat) (v : Value) : w.grownBy (w.setCell ⟨a, j, none⟩ v) (some a) :=
 ⟨rfl, rfl, rfl, by simp [World.setCell], fun k hk hne => by
  have : a ≠ k := fun e => hne (by rw [e])
  simp [World.setCell, Array.getElem?_modify, this]⟩
def nZ (w : World) (base : Nat) (v : Value) (cs : List Ic) : Prop := w.ownsRow base 117 4 v cs.length (cs.flatMap bE)
instance GJ : Inhabited Ic := ⟨⟨0, 0, none, 0, 0, none, 0, 0⟩⟩
theorem wV (cs : List Ic) (k r : Nat) (hr : r < 4) (hk : k < cs.length) : (cs.flatMap bE)[k * 4 + r]? = (bE (cs.getD k default))[r]? := by
 induction cs generalizing k with
 | nil => simp at hk
 | cons c cs ih =>
  cases k with
  | zero =>
   rw [List.flatMap_cons, Nat.zero_mul, Nat.zero_add, List.getElem?_append_left (by simpa [bE] using hr)]
   rfl
  | succ k =>
   rw [List.flatMap_cons, List.getElem?_append_right (by simp [bE]; omega)]
   rw [show (k + 1) * 4 + r - (bE c).length = k * 4 + r by simp [bE]; omega]
   rw [ih k (by simpa using hk)]
   rfl
theorem nZ.four {w : World} {base : Nat} {v : Value} {cs : List Ic} (h : nZ w base v cs) (h0 : 0 < cs.length) : ∃ g cap, v = .slice (some ⟨g, 0, none⟩) cs.length cap ∧ base ≤ g ∧ cs.length ≤ cap ∧ ∀ k, k < cs.length → Four w g (0 + k * 4) (cs.getD k default) := by
 obtain ⟨h1, h2⟩ := h
 rcases h2 with ⟨_, h3⟩ | ⟨g, cap, cur, rfl, hg, hh, hn, hc, hs, ht⟩
 · omega
 ·
  refine ⟨g, cap, rfl, hg, hn, fun k hk => ?_⟩
  have key : ∀ r, r < 4 → w.cell? ⟨g, k * 4 + r, none⟩ = (bE (cs.getD k default))[r]? := fun r hr => by
   rw [ah hh, ← Array.getElem?_toList, ← wV cs k r hr hk, ← ht, List.getElem?_take_of_lt (by omega)]
  rw [Nat.zero_add]
  exact ⟨key 0 (by omega), key 1 (by omega), key 2 (by omega), key 3 (by omega)⟩
theorem nZ.len {w : World} {base : Nat} {v : Value} {cs : List Ic} (h : nZ w base v cs) : ∃ A cap, v = .slice A cs.length cap := by
 by_cases h0 : 0 < cs.length
 ·
  obtain ⟨g, cap, e, _⟩ := h.four h0
  exact ⟨_, cap, e⟩
 ·
  obtain ⟨_, h2⟩ := h
  rcases h2 with ⟨hv, _⟩ | ⟨g, cap, cur, hv, _⟩
  · exact ⟨none, 0, by rw [hv]; congr 1; omega⟩
  · exact ⟨_, cap, hv⟩
theorem nZ.no {w : World} {base a : Nat} {v : Value} {cs : List Ic} (h : nZ w base v cs) (ha : a < base) : v.ownBlock ≠ some a := fun e => by
 have := (World.ownsRow.lt h _ e).1
 omega
theorem nZ.set {w : World} {base a j : Nat} {v u : Value} {cs : List Ic} (h : nZ w base v cs) (ha : a < base) : nZ (w.setCell ⟨a, j, none⟩ u) base v cs :=
 World.ownsRow.kept h (qJ w a j u) (Or.inr (h.no ha))
def yK (h : List Int) (c : Int) : Array Value := arr .u8 h ++ #[.int .i64 c]
theorem uB {h : List Int} {c : Int} (hl : h.length = 32) : (yK h c).size = 33 := by simp [yK, dW, hl]
def qb (w : World) (b : Nat) (h : List Int) (c : Int) : Prop := w.heap[b]? = some (.cells (yK h c) 237 (0, 0))
theorem qb.below {w w' : World} {b : Nat} {h : List Int} {c : Int} (hh : qb w b h c) (hb : Below w.heap.size w w') : qb w' b h c := (hb.block b (Array.getElem?_eq_some_iff.1 hh).1).trans hh
theorem qb.new (w : World) (h : List Int) (c : Int) : qb (w.alloc (.cells (yK h c) 237)) w.heap.size h c := heap_alloc_new _ _
theorem qb.lt {w : World} {b : Nat} {h : List Int} {c : Int} (hh : qb w b h c) : b < w.heap.size := (Array.getElem?_eq_some_iff.1 hh).1
def rq (w : World) (b : Nat) (h : List Int) (c : Int) : Prop := w.heap[b]? = some (.cells (yK h c) 43 (0, 0))
theorem rq.below {w w' : World} {b : Nat} {h : List Int} {c : Int} (hh : rq w b h c) (hb : Below w.heap.size w w') : rq w' b h c := (hb.block b (Array.getElem?_eq_some_iff.1 hh).1).trans hh
theorem rq.new (w : World) (h : List Int) (c : Int) : rq (w.alloc (.cells (yK h c) 43)) w.heap.size h c := heap_alloc_new _ _
theorem rq.lt {w : World} {b : Nat} {h : List Int} {c : Int} (hh : rq w b h c) : b < w.heap.size := (Array.getElem?_eq_some_iff.1 hh).1
def Eg (h : List Int) (c : Int) (f : Bool) : Array Value := arr .u8 h ++ #[.int .i64 c, .bool f]
def q8 (w : World) (b : Nat) (h : List Int) (c : Int) (f : Bool) : Prop := w.heap[b]? = some (.cells (Eg h c f) 135 (0, 0))
variable {w : World} {b : Nat} {h : List Int} {c : Int} {f : Bool}
theorem q8.lt (hh : q8 w b h c f) : b < w.heap.size := (Array.getElem?_eq_some_iff.1 hh).1
theorem q8.below {w' : World} (hh : q8 w b h c f) (hb : Below w.heap.size w w') : q8 w' b h c f := (hb.block b hh.lt).trans hh
theorem uI (hl : h.length = 32) : (Eg h c f)[32]? = some (.int .i64 c) := by
 rw [Eg, Array.getElem?_append_right (by rw [dW, hl]; exact Nat.le_refl _), dW, hl]; rfl
theorem q8.range (hh : q8 w b h c f) (hl : h.length = 32) : w.rangeAt b 0 (yK h c).toList := fun j v hj => by
 have hlt : j < 33 := by
  have h2 := (List.getElem?_eq_some_iff.1 hj).1
  rw [Array.length_toList, uB hl] at h2
  exact h2
 rw [Nat.zero_add, ah hh, ← hj, Array.getElem?_toList]
 by_cases h3 : j < 32
 · rw [Eg, yK, Array.getElem?_append_left (by rw [dW, hl]; exact h3), Array.getElem?_append_left (by rw [dW, hl]; exact h3)]
 ·
  obtain rfl : j = 32 := by omega
  rw [uI hl, yK, Array.getElem?_append_right (by rw [dW, hl]; exact Nat.le_refl _), dW, hl]
  rfl
theorem bn {w w' : World} (h : Below w.heap.size w w') (r : Option Nat) : w.grownBy w' r := ⟨h.os, h.tape, h.output, h.size, fun k hk _ => h.block k hk⟩
structure dM (w0 : World) (hb : Nat) (box : Obj) (vX : Value) (nX : Nat) (xs : List Int) (vY : Value) (nY : Nat) (ys : List Int) (u : World) : Prop where
 b : Below w0.heap.size w0 u
 x : u.heap[hb]? = some box
 ox : u.ownsRow w0.heap.size 3 1 vX nX (xs.map (Value.int .i64))
 oy : u.ownsRow w0.heap.size 3 1 vY nY (ys.map (Value.int .i64))
 nxy : ∀ j, vX.ownBlock = some j → vY.ownBlock ≠ some j
 nx : vX.ownBlock ≠ some hb
 ny : vY.ownBlock ≠ some hb
theorem bg (v : Value) : v.ownBlock = none ∨ v.ownBlock ≠ none := by
 cases h : v.ownBlock with
 | none => exact .inl rfl
 | some j => exact .inr (by simp)
theorem gT {u : World} {g : Nat} {o : Obj} (h : u.heap[g]? = some o) : g < u.heap.size := (Array.getElem?_eq_some_iff.1 h).1
section
variable {w0 : World} {hb : Nat} {box : Obj} {vX vY : Value} {nX nY : Nat} {xs ys : List Int} {u u2 : World}
theorem dM.below (h : dM w0 hb box vX nX xs vY nY ys u) (hq : Below u.heap.size u u2) : dM w0 hb box vX nX xs vY nY ys u2 :=
 ⟨af h.b hq, (hq.block hb (gT h.x)).trans h.x, h.ox.kept (bn hq none) (bg _), h.oy.kept (bn hq none) (bg _), h.nxy, h.nx, h.ny⟩
theorem own_ne {g : Nat} {v v' : Value} (h : ∀ j, v.ownBlock = some j → v'.ownBlock ≠ some j) : v'.ownBlock = none ∨ v'.ownBlock ≠ v.ownBlock := by
 cases e : v'.ownBlock with
 | none => exact .inl rfl
 | some j => exact .inr (fun e2 => h j e2.symm e)
theorem dM.appX (h : dM w0 hb box vX nX xs vY nY ys u) {a : Int} {g cap : Nat} (ho : u2.ownsRow w0.heap.size 3 1 (.slice (some ⟨g, 0, none⟩) (nX + 1) cap) (nX + 1) (xs.map (Value.int .i64) ++ [.int .i64 a])) (hg : u.grownBy u2 vX.ownBlock) (hgg : vX.ownBlock = some g ∨ g = u.heap.size) :
  dM w0 hb box (.slice (some ⟨g, 0, none⟩) (nX + 1) cap) (nX + 1) (xs ++ [a]) vY nY ys u2 := by
 have hl := gT h.x
 refine ⟨h.b.grown hg h.b.size (fun j hj => (h.ox.lt j hj).1), (hg.block hb hl (fun e => h.nx e.symm)).trans h.x, by simpa using ho, h.oy.kept hg (own_ne (g := 0) h.nxy), fun j hj => ?_, fun e => ?_, h.ny⟩
 ·
  obtain rfl : g = j := by simpa [Value.ownBlock] using hj
  rcases hgg with e | e
  · exact h.nxy _ e
  ·
   intro e2
   have := (h.oy.lt _ e2).2
   omega
 ·
  obtain rfl : g = hb := by simpa [Value.ownBlock] using e
  rcases hgg with e2 | e2
  · exact h.nx e2
  · omega
theorem dM.swap (h : dM w0 hb box vX nX xs vY nY ys u) : dM w0 hb box vY nY ys vX nX xs u :=
 ⟨h.b, h.x, h.oy, h.ox, fun j h1 h2 => h.nxy j h2 h1, h.ny, h.nx⟩
theorem dM.appY (h : dM w0 hb box vX nX xs vY nY ys u) {a : Int} {g cap : Nat} (ho : u2.ownsRow w0.heap.size 3 1 (.slice (some ⟨g, 0, none⟩) (nY + 1) cap) (nY + 1) (ys.map (Value.int .i64) ++ [.int .i64 a])) (hg : u.grownBy u2 vY.ownBlock) (hgg : vY.ownBlock = some g ∨ g = u.heap.size) :
  dM w0 hb box vX nX xs (.slice (some ⟨g, 0, none⟩) (nY + 1) cap) (nY + 1) (ys ++ [a]) u2 := (h.swap.appX ho hg hgg).swap
structure aC (u : World) (g : Nat) (a : Int) (vX vY : Value) : Prop where
 c : u.heap[g]? = some (.cells #[.int .i64 a] 3)
 nx : vX.ownBlock ≠ some g
 ny : vY.ownBlock ≠ some g
theorem aC.new (h : dM w0 hb box vX nX xs vY nY ys u) (a : Int) : aC (u.alloc (.cells #[.int .i64 a] 3)) u.heap.size a vX vY :=
 ⟨heap_alloc_new _ _, fun e => by have := (h.ox.lt _ e).2; omega, fun e => by have := (h.oy.lt _ e).2; omega⟩
theorem aC.below {g : Nat} {a : Int} (h : aC u g a vX vY) (hq : Below u.heap.size u u2) : aC u2 g a vX vY :=
 ⟨(hq.block g (gT h.c)).trans h.c, h.nx, h.ny⟩
theorem aC.swap {g : Nat} {a : Int} (h : aC u g a vX vY) : aC u g a vY vX := ⟨h.c, h.ny, h.nx⟩
theorem aC.appX {g : Nat} {a : Int} (h : aC u g a vX vY) {gX n cap : Nat} (hg : u.grownBy u2 vX.ownBlock) (hgg : vX.ownBlock = some gX ∨ gX = u.heap.size) : aC u2 g a (.slice (some ⟨gX, 0, none⟩) n cap) vY := by
 have hl := gT h.c
 refine ⟨(hg.block g hl (fun e => h.nx e.symm)).trans h.c, fun e => ?_, h.ny⟩
 obtain rfl : gX = g := by simpa [Value.ownBlock] using e
 rcases hgg with e2 | e2
 · exact h.nx e2
 · omega
theorem aC.appY {g : Nat} {a : Int} (h : aC u g a vX vY) {gY n cap : Nat} (hg : u.grownBy u2 vY.ownBlock) (hgg : vY.ownBlock = some gY ∨ gY = u.heap.size) : aC u2 g a vX (.slice (some ⟨gY, 0, none⟩) n cap) := (h.swap.appX hg hgg).swap
theorem aC.news {g : Nat} {a : Int} (h : aC u g a vX vY) : ∀ j v, [Value.int .i64 a][j]? = some v → u.cell? ((⟨g, 0, none⟩ : Addr).add j) = some v :=
 World.news_of_block (cs := #[.int .i64 a]) (t := 3) (fr := (0, 0)) h.c
end
def Sh (w : World) (A : Option Addr) (l : List (Int × Int)) : Prop := ∀ k, k < l.length → ∃ b o, A = some ⟨b, o, none⟩ ∧ w.cell? ⟨b, o + k * 2, none⟩ = some (.int .i64 (l.getD k (0, 0)).1) ∧ w.cell? ⟨b, o + k * 2 + 1, none⟩ = some (.int .i64 (l.getD k (0, 0)).2)
theorem Sh.below {w w' : World} {A : Option Addr} {l : List (Int × Int)} (h : Sh w A l) (hb : Below w.heap.size w w') : Sh w' A l := fun k hk => by
 obtain ⟨b, o, h1, h2, h3⟩ := h k hk
 exact ⟨b, o, h1, cell_below h2 hb, cell_below h3 hb⟩
def kF (p : Int × Int) : Prop := -9223372036854775808 ≤ p.1 ∧ p.1 < 9223372036854775808
abbrev ixs (l : List (Int × Int)) : List Int := l.map (·.1)
abbrev aS (l : List (Int × Int)) : List Int := l.map (·.2)
theorem gQ {l : List (Int × Int)} {k : Nat} (h : k < l.length) : (ixs l).getD k 0 = (l.getD k (0, 0)).1 := by
 rw [List.getD_eq_getElem?_getD, List.getElem?_map, List.getElem?_eq_getElem h, List.getD_eq_getElem?_getD, List.getElem?_eq_getElem h]; rfl
theorem iI {l : List (Int × Int)} {k : Nat} (h : k < l.length) : (aS l).getD k 0 = (l.getD k (0, 0)).2 := by
 rw [List.getD_eq_getElem?_getD, List.getElem?_map, List.getElem?_eq_getElem h, List.getD_eq_getElem?_getD, List.getElem?_eq_getElem h]; rfl
theorem oL {l : List (Int × Int)} {k : Nat} (h : k < l.length) : ixs (l.take (k + 1)) = ixs (l.take k) ++ [(l.getD k (0, 0)).1] := by
 rw [ixs, List.take_add_one, List.map_append, List.getElem?_eq_getElem h, List.getD_eq_getElem?_getD, List.getElem?_eq_getElem h]; rfl
theorem uC {l : List (Int × Int)} {k : Nat} (h : k < l.length) : aS (l.take (k + 1)) = aS (l.take k) ++ [(l.getD k (0, 0)).2] := by
 rw [aS, List.take_add_one, List.map_append, List.getElem?_eq_getElem h, List.getD_eq_getElem?_getD, List.getElem?_eq_getElem h]; rfl
theorem gV {f : Int × Int → Bool} {l : List (Int × Int)} {k : Nat} (hk : k < l.length) (h : f (l.getD k (0, 0)) = true) : (l.drop k).all f = (l.drop (k + 1)).all f := by
 rw [List.drop_eq_getElem_cons hk, List.all_cons]
 rw [List.getD_eq_getElem?_getD, List.getElem?_eq_getElem hk] at h
 simp at h
 rw [h, Bool.true_and]
theorem fo {f : Int × Int → Bool} {l : List (Int × Int)} {k : Nat} (hk : k < l.length) (h : f (l.getD k (0, 0)) = false) : (l.drop k).all f = false := by
 rw [List.drop_eq_getElem_cons hk, List.all_cons]
 rw [List.getD_eq_getElem?_getD, List.getElem?_eq_getElem hk] at h
 simp at h
 rw [h, Bool.false_and]
noncomputable def oP (Q : Int) (xs ys : List Int) : Nat → Int
 | 0 => 0
 | m + 1 => (oP Q xs ys m + jT Q xs 0 m * ys.getD m 0 % Q) % Q
theorem iJ {P Q G : Int} (h : au P Q G = true) : di Q = true := by
 simp [au] at h
 exact h.2.2.2.2.1
theorem bM {w : World} {B : Nat} {v : Value} {n : Nat} {xs : List Int} (h : w.ownsRow B 3 1 v n (xs.map (Value.int .i64))) (hn : xs.length = n) : ∃ A c, v = .slice A n c ∧ Sl w A xs ∧ n ≤ c := by
 have ho : aO w B v xs := by unfold aO; rw [hn]; exact h
 obtain ⟨A, c, hv, hs, _⟩ := ho.sl
 rw [hn] at hv
 refine ⟨A, c, hv, hs, ?_⟩
 rcases h.2 with ⟨h1, h2⟩ | ⟨g, cap, cur, h1, _, _, h2, _⟩
 · omega
 ·
  rw [hv] at h1
  cases h1
  exact h2
theorem kz {Q : Int} (hQ : 2 ≤ Q) (xs ys : List Int) : ∀ k, 0 ≤ oP Q xs ys k ∧ oP Q xs ys k < Q
 | 0 => ⟨by rw [oP]; omega, by rw [oP]; omega⟩
 | k + 1 => ⟨Int.emod_nonneg _ (by omega), Int.emod_lt_of_pos _ (by omega)⟩
theorem uy {P Q G : Int} {ks : List Int} {l : List (Int × Int)} {j : Nat} (h : l.all (fun p => cK P Q G ks p.1 p.2) = true) (hj : j < l.length) : aQ Q ((aS l).getD j 0) = true := by
 rw [iI hj, List.getD_eq_getElem?_getD, List.getElem?_eq_getElem hj]
 have := List.all_eq_true.1 h _ (List.getElem_mem hj)
 simp only [cK, Bool.and_eq_true] at this
 exact this.2.1
theorem yw (a b m v : Int) (hv : Hid ((a + b) % m = v)) (h2 : m < 2305843009213693952) (ha0 : 0 ≤ a) (ha : a < m) (hb0 : 0 ≤ b) (hb : b < m) (w : World) :
  Calls Tryz.prog 36 #[.int .i64 a, .int .i64 b, .int .i64 m] w fun e w' => e = .returned (.tuple #[.int .i64 v, .int .i64 0]) ∧ w = w' := by
 have hc := aa (lD (by omega) h2 ha0 ha hb0 hb)
 have hm : ((m : Int) == 0) = false := by simp; omega
 have hmn : ¬ (m = 0) := by omega
 have d1 : IntKind.i64.wrap (a + b) = a + b := IntWalk.i64_in _ (by omega)
 have e1 : wrap64 (a + b) = a + b := IntWalk.wrap64_in _ (by omega)
 have Ai : (a + b).tmod m = v := ek (by omega) hv.out
 have v0 : 0 ≤ v := by rw [← hv.out]; exact Int.emod_nonneg _ (by omega)
 have v1 : v < m := by rw [← hv.out]; exact Int.emod_lt_of_pos _ (by omega)
 have hwt : IntKind.i64.wrap v = v := IntWalk.i64_in _ (by omega)
 go_in
 go_wp2_with (go_at_call 96; refine (bZ _ _ _ _).mono ?_; rintro e w' ⟨rfl, rfl⟩; rw [hc.out])
 go_ret2
 exact ⟨rfl, rfl⟩
theorem iO {xs : List Int} {m : Nat} (h : aP xs) : aP (xs.take m) := fun i j hi hj => by
 have hi2 : i < m ∧ i < xs.length := by rw [List.length_take] at hi; omega
 have := h i j hi2.2 hj
 rw [List.getD_eq_getElem?_getD, List.getElem?_take_of_lt hi2.1, ← List.getD_eq_getElem?_getD, List.getD_eq_getElem?_getD (l := xs.take m), List.getElem?_take_of_lt (by omega), ← List.getD_eq_getElem?_getD]
 exact this
theorem vT {P Q G : Int} {ks : List Int} {l : List (Int × Int)} {kn m : Nat} (h : l.all (fun p => cK P Q G ks p.1 p.2) = true) (hkn : ks.length = kn) (hq : (kn : Int) < Q) : ((ixs l).take m).all (aQ Q) = true := by
 rw [List.all_eq_true]
 intro x hx
 obtain ⟨p, hp, rfl⟩ := List.mem_map.1 (List.mem_of_mem_take hx)
 have := List.all_eq_true.1 h p hp
 simp only [cK, dU, Bool.and_eq_true, decide_eq_true_eq] at this
 simp [aQ]
 omega
theorem bV {P Q G need : Int} {cs ks : List Int} {cn kn : Nat} (h : ou P Q G need cs ks = true) (hcn : cs.length = cn) (hkn : ks.length = kn) : Hid (au P Q G = true) ∧ 1 ≤ kn ∧ kn ≤ 8 ∧ (kn : Int) < Q ∧ 1 ≤ need ∧ need ≤ kn ∧ Hid ((cn : Int) = need) := by
 unfold ou at h
 simp only [Bool.and_eq_true, decide_eq_true_eq] at h
 obtain ⟨n1, n2, n3, n4, n5⟩ := aX h.2.1
 rw [hkn] at n1 n2 n3 n5
 exact ⟨aa h.1, n1, n2, n3, n4, n5, aa (by rw [← hcn]; exact h.2.2.1)⟩
noncomputable def dY (P Q G need : Int) (ks : List Int) (l : List (Int × Int)) : Int := if l.all (fun p => cK P Q G ks p.1 p.2) = true then (if @decide (aP (ixs l)) (Classical.propDecidable _) = true then (if (l.length : Int) < need then 7 else 0) else 8) else 11
noncomputable def iA (P Q G need : Int) (ks : List Int) (l : List (Int × Int)) : Int := if dY P Q G need ks l = 0 then oP Q ((ixs l).take need.toNat) (aS l) need.toNat else 0
theorem CX (P Q G need : Int) (Cs : Option Addr) (cs : List Int) (cn cc : Nat) (Ks : Option Addr) (ks : List Int) (kn kc : Nat) (hcn : Hid (cs.length = cn)) (hkn : Hid (ks.length = kn)) (A : Option Addr) (l : List (Int × Int)) (n c : Nat) (hn : Hid (l.length = n)) (hnb : n ≤ 100) (hlr : Hid (∀ k, k < n → kF (l.getD k (0, 0)))) (hr : Hid (ou P Q G need cs ks = false)) (hQ : Q < 9223372036854775808) (w : World) (hv : Hid (Vars w)) (hC : Hid (Sl w Cs cs)) (hK : Hid (Sl w Ks ks)) (hA : Hid (Sh w A l)) :
  Calls Tryz.prog 10 #[gv P Q G, fA need Cs cn cc Ks kn kc, .slice A n c] w (Rt w (.tuple #[.int .i64 0, .int .i64 1])) := by
 obtain ⟨w0, HW, az, kC⟩ := st2 (aG P Q G) gy (fB need Cs cn cc Ks kn kc) lW w
 have kV := mkV az hv
 have dh := mkS az hC
 have dA := mkS az hK
 have kA := xV (fun u => Sh u A l) az hA (·.below)
 have ai := bI w0
 clear hv hC hK hA
 go_in
 go_wp2_with fail
 rw [HW.out]
 have zc := kC.out _ ai
 go_wp2_with fail
 clear zc
 refine bH kC ai (dJ P Q G need Cs cs cn cc Ks ks kn kc hcn hkn false hr hQ _ (kV.out _ ai) (dh.out _ ai) (dA.out _ ai)) fun w1 aD zc => ?_
 go_wp2
 go_ret2
 exact ⟨rfl, gW az aD⟩
theorem Ac (P Q G : Int) (m : Nat) (Cs : Option Addr) (cs : List Int) (cn cc : Nat) (Ks : Option Addr) (ks : List Int) (kn kc : Nat) (hcn : Hid (cs.length = cn)) (hkn : Hid (ks.length = kn)) (A : Option Addr) (l : List (Int × Int)) (n c : Nat) (hn : Hid (l.length = n)) (hnb : n ≤ 100) (hlr : Hid (∀ k, k < n → kF (l.getD k (0, 0)))) (hr : Hid (ou P Q G (m : Int) cs ks = true)) (hQ : Q < 9223372036854775808) (w : World) (hv : Hid (Vars w)) (hC : Hid (Sl w Cs cs)) (hK : Hid (Sl w Ks ks)) (hA : Hid (Sh w A l)) :
  Calls Tryz.prog 10 #[gv P Q G, fA (m : Int) Cs cn cc Ks kn kc, .slice A n c] w (Rt w (.tuple #[.int .i64 (iA P Q G (m : Int) ks l), .int .i64 (dY P Q G (m : Int) ks l)])) := by
 obtain ⟨i0, hi, hz0, hz1, hz2⟩ := info_parts fJ
 obtain ⟨bf, n1, n2, n3, n4, n5, n6⟩ := bV hr.out hcn.out hkn.out
 obtain ⟨w0, HW, az, kC⟩ := st2 (aG P Q G) gy (fB (m : Int) Cs cn cc Ks kn kc) lW w
 have kV := mkV az hv
 have dh := mkS az hC
 have dA := mkS az hK
 have kA := xV (fun u => Sh u A l) az hA (·.below)
 have ai := bI w0
 clear hv hC hK hA
 go_in
 go_wp2_with fail
 rw [HW.out]
 have zc := kC.out _ ai
 go_wp2_with fail
 clear zc
 refine bH kC ai (dJ P Q G (m : Int) Cs cs cn cc Ks ks kn kc hcn hkn true hr hQ _ (kV.out _ ai) (dh.out _ ai) (dA.out _ ai)) fun w1 aD zc => ?_
 go_wp2
 clear zc
 go_loopw [8, 9, 25] (fun vx vy i wr => ∃ k : Nat, k ≤ n ∧ i = .int .i64 k ∧ Hid (l.all (fun p => cK P Q G ks p.1 p.2) = (l.drop k).all (fun p => cK P Q G ks p.1 p.2)) ∧ Hid (wr.ownsRow w0.heap.size 3 1 vx k ((ixs (l.take k)).map (Value.int .i64))) ∧ Hid (wr.ownsRow w0.heap.size 3 1 vy k ((aS (l.take k)).map (Value.int .i64))) ∧ Hid (∀ j, vx.ownBlock = some j → vy.ownBlock ≠ some j) ∧ Hid (Below w0.heap.size w0 wr)) (fun _ _ i _ => n - (intOf i).toNat)
 case atStart => exact ⟨0, by omega, rfl, aa rfl, aa (World.ownsRow_nil _ _ _ _), aa (World.ownsRow_nil _ _ _ _), aa (fun j h => by cases h), aD⟩
 case round =>
  obtain ⟨k, hk, rfl, HR, oz, sH, jR, ax⟩ := hrel
  by_cases hlt : k < n
  ·
   have hkl : k < l.length := by rw [hn.out]; exact hlt
   obtain ⟨b, o, hA, fZ, f_⟩ := (kA.out _ ax).out k hkl
   subst hA
   have tx := oL hkl
   have ty := uC hkl
   obtain ⟨px, hpx⟩ : ∃ x, l.getD k (0, 0) = x := ⟨_, rfl⟩
   obtain ⟨ix, v⟩ := px
   rw [hpx] at fZ f_ tx ty
   have TX := aa tx
   have TY := aa ty
   clear tx ty
   dsimp only at fZ f_
   cases hrg : cK P Q G ks ix v with
   | true =>
    have HS : Hid (l.all (fun p => cK P Q G ks p.1 p.2) = (l.drop (k + 1)).all (fun p => cK P Q G ks p.1 p.2)) := aa (HR.out.trans (gV hkl (by rw [hpx]; exact hrg)))
    have yf := aa hrg
    clear hrg HR hpx
    have aL := bI wr
    have zc := kC.out _ ax
    obtain ⟨w2, hw, lJ, tZ, AP, kS⟩ := Cy (h_ ix v) rY wr
    have ak := uk ax lJ
    have aJ := uk aL lJ
    have aT := bI w2
    clear lJ
    have sN := kC.out _ ak
    have je := kS.out _ aT
    go_wp2_with fail
    clear zc sN je hw
    have zc := kC.out _ ak
    have jN := kS.out _ aT
    clear fZ f_
    clear zc jN
    have zc := kC.out _ ak
    have jN := kS.out _ aT
    go_wp2_with fail
    clear zc jN
    refine l8 ak aJ aT (ji P Q G (m : Int) Cs cn cc Ks ks kn kc ix v hkn n2 bf true yf _ (kV.out _ ak) (dA.out _ ak)) fun w3 aH eF bu => ?_
    have zc := kC.out _ aH
    have jN := kS.out _ bu
    have HT : Hid (dM w0 wr.heap.size (h_ ix v) u8 k (ixs (l.take k)) u9 k (aS (l.take k)) w3) := aa ⟨aH.out, (bu.out.block _ (gT AP.out)).trans AP.out, oz.out.kept (bn eF.out none) (bg _), sH.out.kept (bn eF.out none) (bg _), jR.out, fun e => by have := (oz.out.lt _ e).2; omega, fun e => by have := (sH.out.lt _ e).2; omega⟩
    go_upto_region 9 with (fail)
    clear zc jN
    have hS := aa (show ∀ (za : Value) (zi : Nat) (zl : List Int) (zb : Value) (zj : Nat) (zm : List Int) (zu : World), Hid (dM w0 (wr.heap.size) (h_ ix v) za (zi) (zl) zb (zj) (zm) zu) → (zu.cell? ⟨w.heap.size, 0, none⟩ = some (.int .i64 P) ∧ zu.cell? ⟨w.heap.size, 1, none⟩ = some (.int .i64 Q) ∧ zu.cell? ⟨w.heap.size, 2, none⟩ = some (.int .i64 G) ∧ zu.cell? ⟨w.heap.size + 1, 0, none⟩ = some (.int .i64 (m : Int)) ∧ zu.cell? ⟨w.heap.size + 1, 1, none⟩ = some (.slice Cs cn cc) ∧ zu.cell? ⟨w.heap.size + 1, 2, none⟩ = some (.slice Ks kn kc) ∧ zu.cell? ⟨wr.heap.size, 0, none⟩ = some (.int .i64 ix) ∧ zu.cell? ⟨wr.heap.size, 1, none⟩ = some (.int .i64 v)) from fun za zi zl zb zj zm zu h => by
     obtain ⟨y0, y1, y2, y3, y4, y5⟩ := kC.out _ (aa h.out.b)
     exact ⟨y0, y1, y2, y3, y4, y5, ah h.out.x 0, ah h.out.x 1⟩)
    have BX := aa (HT.out.below (Below.refl _ _).drew)
    refine d_ (S := fun w' => w'.cell? ⟨w.heap.size, 0, none⟩ = some (.int .i64 P) ∧ w'.cell? ⟨w.heap.size, 1, none⟩ = some (.int .i64 Q) ∧ w'.cell? ⟨w.heap.size, 2, none⟩ = some (.int .i64 G) ∧ w'.cell? ⟨w.heap.size + 1, 0, none⟩ = some (.int .i64 (m : Int)) ∧ w'.cell? ⟨w.heap.size + 1, 1, none⟩ = some (.slice Cs cn cc) ∧ w'.cell? ⟨w.heap.size + 1, 2, none⟩ = some (.slice Ks kn kc) ∧ w'.cell? ⟨wr.heap.size, 0, none⟩ = some (.int .i64 ix) ∧ w'.cell? ⟨wr.heap.size, 1, none⟩ = some (.int .i64 v)) (E := []) (by kernel_rfl) (hS.out _ _ _ _ _ _ _ BX) (fun hHeld => ?_)
    obtain ⟨wD, Da⟩ : ∃ u, w3.drew = u := ⟨_, rfl⟩
    rw [Da] at BX hHeld ⊢
    clear Da
    refine qi 0 ?_
    refine qi 1 ?_
    refine qi 2 ?_
    refine qi 5 ?_
    refine qi 6 ?_
    refine qi 7 ?_
    refine mg (fun T a0 hT ha0 => ?_)
    clear hHeld
    have lK : ∀ (g3 : Nat) (gX : Nat) (cX : Nat) (g8 : Nat) (gY : Nat) (cY : Nat) (uT : World), (Hid (dM w0 (wr.heap.size) (h_ ix v) (.slice (some ⟨gX, 0, none⟩) (k + 1) cX) (k + 1) (ixs (l.take k) ++ [ix]) (.slice (some ⟨gY, 0, none⟩) (k + 1) cY) (k + 1) (aS (l.take k) ++ [v]) uT)) → T 2 #[true, true, true, true, true, true, true, true, true, true, false, false] ((((a0.put (some 37) (.slice (some ⟨g3, 0, none⟩) 1 1)).put (some 38) (.slice (some ⟨gX, 0, none⟩) (k + 1) cX)).put (some 42) (.slice (some ⟨g8, 0, none⟩) 1 1)).put (some 43) (.slice (some ⟨gY, 0, none⟩) (k + 1) cY)) uT := by
     intro g3 gX cX g8 gY cY uT FT
     have hHeld := hS.out _ _ _ _ _ _ _ FT
     rw [hT, ha0]
     try simp only [qq]
     refine qi 10 ?_
     refine qi 11 ?_
     refine jD ?_
     clear hHeld hT ha0
     have Ea := aa FT.out.b
     have hox := FT.out.ox
     have hoy := FT.out.oy
     rw [← TX.out] at hox
     rw [← TY.out] at hoy
     have og := aa hox
     have n_ := aa hoy
     have xG := aa FT.out.nxy
     clear hox hoy FT
     have zc := kC.out _ Ea
     go_wp2
     go_roundw
     case rel => exact ⟨k + 1, by omega, by go_num, HS, og, n_, xG, Ea⟩
     case measure => simp [intOf]; omega
    have lM : ∀ (g3 : Nat) (gX : Nat) (cX : Nat) (g8 : Nat) (uT : World), (Hid (dM w0 (wr.heap.size) (h_ ix v) (.slice (some ⟨gX, 0, none⟩) (k + 1) cX) (k + 1) (ixs (l.take k) ++ [ix]) u9 (k) (aS (l.take k)) uT)) → (Hid (aC uT g8 (v) (.slice (some ⟨gX, 0, none⟩) (k + 1) cX) u9)) → T 3 #[true, true, true, true, true, true, true, true, true, false, false, false] (((a0.put (some 37) (.slice (some ⟨g3, 0, none⟩) 1 1)).put (some 38) (.slice (some ⟨gX, 0, none⟩) (k + 1) cX)).put (some 42) (.slice (some ⟨g8, 0, none⟩) 1 1)) uT := by
     intro g3 gX cX g8 uT FT F8
     have hHeld := hS.out _ _ _ _ _ _ _ FT
     rw [hT, ha0]
     try simp only [qq]
     refine eX 9 fun K hK => ?_
     refine step_append_lies _ (by rfl) _ _ _ (by rfl) w0.heap.size 3 i0 _ 1 8 Tryz.underlying24 hi hz0 hz1 hz2 rfl (by omega) u9 (k) ((aS (l.take k)).map (Value.int .i64)) (by rfl) FT.out.oy ⟨g8, 0, none⟩ 1 1 [.int .i64 (v)] (by rfl) (by rfl) F8.out.news (ints_oneCell .i64 [v]) (by omega) (by unfold maxLen; omega) (by omega) FT.out.b.size uT.heap.size rfl ?_
     intro gY cY uN hown1 hgrow1 hgg hlt1
     have dX := aa (FT.out.appY hown1 hgrow1 hgg)
     refine hK.out _ _ ?_ (fun hHeld => ?_)
     · exact hS.out _ _ _ _ _ _ _ dX
     clear hK K hHeld
     try simp only [qq]
     have hG := lK g3 gX cX g8 gY cY uN dX
     rw [hT, ha0] at hG
     (try simp only [qq] at hG)
     exact hG
    have Cn : ∀ (g3 : Nat) (gX : Nat) (cX : Nat) (uT : World), (Hid (dM w0 (wr.heap.size) (h_ ix v) (.slice (some ⟨gX, 0, none⟩) (k + 1) cX) (k + 1) (ixs (l.take k) ++ [ix]) u9 (k) (aS (l.take k)) uT)) → T 4 #[true, true, true, true, true, true, true, true, false, false, false, false] ((a0.put (some 37) (.slice (some ⟨g3, 0, none⟩) 1 1)).put (some 38) (.slice (some ⟨gX, 0, none⟩) (k + 1) cX)) uT := by
     intro g3 gX cX uT FT
     have hHeld := hS.out _ _ _ _ _ _ _ FT
     rw [hT, ha0]
     try simp only [qq]
     refine eX 8 fun K hK => ?_
     go_simp
     have dX := aa (FT.out.below (ag uT (.cells #[.int .i64 (v)] 3)))
     refine hK.out _ _ ?_ (fun hHeld => ?_)
     · exact hS.out _ _ _ _ _ _ _ dX
     clear hK K hHeld
     try simp only [qq]
     have hG := lM g3 gX cX (uT.heap.size) (uT.alloc (.cells #[.int .i64 (v)] 3)) dX (aa (aC.new FT.out (v)))
     rw [hT, ha0] at hG
     (try simp only [qq] at hG)
     exact hG
    have xQ : ∀ (g3 : Nat) (g8 : Nat) (uT : World), (Hid (dM w0 (wr.heap.size) (h_ ix v) u8 (k) (ixs (l.take k)) u9 (k) (aS (l.take k)) uT)) → (Hid (aC uT g3 (ix) u8 u9)) → (Hid (aC uT g8 (v) u8 u9)) → T 4 #[true, true, true, true, false, true, true, true, true, false, false, false] ((a0.put (some 37) (.slice (some ⟨g3, 0, none⟩) 1 1)).put (some 42) (.slice (some ⟨g8, 0, none⟩) 1 1)) uT := by
     intro g3 g8 uT FT F3 F8
     have hHeld := hS.out _ _ _ _ _ _ _ FT
     rw [hT, ha0]
     try simp only [qq]
     refine eX 4 fun K hK => ?_
     refine step_append_lies _ (by rfl) _ _ _ (by rfl) w0.heap.size 3 i0 _ 1 8 Tryz.underlying24 hi hz0 hz1 hz2 rfl (by omega) u8 (k) ((ixs (l.take k)).map (Value.int .i64)) (by rfl) FT.out.ox ⟨g3, 0, none⟩ 1 1 [.int .i64 (ix)] (by rfl) (by rfl) F3.out.news (ints_oneCell .i64 [ix]) (by omega) (by unfold maxLen; omega) (by omega) FT.out.b.size uT.heap.size rfl ?_
     intro gX cX uN hown1 hgrow1 hgg hlt1
     have dX := aa (FT.out.appX hown1 hgrow1 hgg)
     refine hK.out _ _ ?_ (fun hHeld => ?_)
     · exact hS.out _ _ _ _ _ _ _ dX
     clear hK K hHeld
     try simp only [qq]
     have hG := lM g3 gX cX g8 uN dX (aa (F8.out.appX hgrow1 hgg))
     rw [hT, ha0] at hG
     (try simp only [qq] at hG)
     exact hG
    have G3 : ∀ (g3 : Nat) (uT : World), (Hid (dM w0 (wr.heap.size) (h_ ix v) u8 (k) (ixs (l.take k)) u9 (k) (aS (l.take k)) uT)) → (Hid (aC uT g3 (ix) u8 u9)) → T 5 #[true, true, true, true, false, true, true, true, false, false, false, false] (a0.put (some 37) (.slice (some ⟨g3, 0, none⟩) 1 1)) uT := by
     intro g3 uT FT F3
     have hHeld := hS.out _ _ _ _ _ _ _ FT
     rw [hT, ha0]
     try simp only [qq]
     refine jU (i1 := 4) (i2 := 8) (by kernel_rfl) rfl rfl (fun K hK => ?_) (fun K hK => ?_)
     ·
      refine step_append_lies _ (by rfl) _ _ _ (by rfl) w0.heap.size 3 i0 _ 1 8 Tryz.underlying24 hi hz0 hz1 hz2 rfl (by omega) u8 (k) ((ixs (l.take k)).map (Value.int .i64)) (by rfl) FT.out.ox ⟨g3, 0, none⟩ 1 1 [.int .i64 (ix)] (by rfl) (by rfl) F3.out.news (ints_oneCell .i64 [ix]) (by omega) (by unfold maxLen; omega) (by omega) FT.out.b.size uT.heap.size rfl ?_
      intro gX cX uN hown1 hgrow1 hgg hlt1
      have dX := aa (FT.out.appX hown1 hgrow1 hgg)
      refine hK.out _ _ ?_ (fun hHeld => ?_)
      · exact hS.out _ _ _ _ _ _ _ dX
      clear hK K hHeld
      try simp only [qq]
      have hG := Cn g3 gX cX uN dX
      rw [hT, ha0] at hG
      (try simp only [qq] at hG)
      exact hG
     ·
      go_simp
      have dX := aa (FT.out.below (ag uT (.cells #[.int .i64 (v)] 3)))
      refine hK.out _ _ ?_ (fun hHeld => ?_)
      · exact hS.out _ _ _ _ _ _ _ dX
      clear hK K hHeld
      try simp only [qq]
      have hG := xQ g3 (uT.heap.size) (uT.alloc (.cells #[.int .i64 (v)] 3)) dX (aa (F3.out.below (ag uT (.cells #[.int .i64 (v)] 3)))) (aa (aC.new FT.out (v)))
      rw [hT, ha0] at hG
      (try simp only [qq] at hG)
      exact hG
    have G8 : ∀ (g8 : Nat) (uT : World), (Hid (dM w0 (wr.heap.size) (h_ ix v) u8 (k) (ixs (l.take k)) u9 (k) (aS (l.take k)) uT)) → (Hid (aC uT g8 (v) u8 u9)) → T 5 #[true, true, true, false, false, true, true, true, true, false, false, false] (a0.put (some 42) (.slice (some ⟨g8, 0, none⟩) 1 1)) uT := by
     intro g8 uT FT F8
     have hHeld := hS.out _ _ _ _ _ _ _ FT
     rw [hT, ha0]
     try simp only [qq]
     refine eX 3 fun K hK => ?_
     go_simp
     have dX := aa (FT.out.below (ag uT (.cells #[.int .i64 (ix)] 3)))
     refine hK.out _ _ ?_ (fun hHeld => ?_)
     · exact hS.out _ _ _ _ _ _ _ dX
     clear hK K hHeld
     try simp only [qq]
     have hG := xQ (uT.heap.size) g8 (uT.alloc (.cells #[.int .i64 (ix)] 3)) dX (aa (aC.new FT.out (ix))) (aa (F8.out.below (ag uT (.cells #[.int .i64 (ix)] 3))))
     rw [hT, ha0] at hG
     (try simp only [qq] at hG)
     exact hG
    have G0 : ∀  (uT : World), (Hid (dM w0 (wr.heap.size) (h_ ix v) u8 (k) (ixs (l.take k)) u9 (k) (aS (l.take k)) uT)) → T 6 #[true, true, true, false, false, true, true, true, false, false, false, false] a0 uT := by
     intro  uT FT
     have hHeld := hS.out _ _ _ _ _ _ _ FT
     rw [hT, ha0]
     try simp only [qq]
     refine jU (i1 := 3) (i2 := 8) (by kernel_rfl) rfl rfl (fun K hK => ?_) (fun K hK => ?_)
     ·
      go_simp
      have dX := aa (FT.out.below (ag uT (.cells #[.int .i64 (ix)] 3)))
      refine hK.out _ _ ?_ (fun hHeld => ?_)
      · exact hS.out _ _ _ _ _ _ _ dX
      clear hK K hHeld
      try simp only [qq]
      have hG := G3 (uT.heap.size) (uT.alloc (.cells #[.int .i64 (ix)] 3)) dX (aa (aC.new FT.out (ix)))
      rw [hT, ha0] at hG
      (try simp only [qq] at hG)
      exact hG
     ·
      go_simp
      have dX := aa (FT.out.below (ag uT (.cells #[.int .i64 (v)] 3)))
      refine hK.out _ _ ?_ (fun hHeld => ?_)
      · exact hS.out _ _ _ _ _ _ _ dX
      clear hK K hHeld
      try simp only [qq]
      have hG := G8 (uT.heap.size) (uT.alloc (.cells #[.int .i64 (v)] 3)) dX (aa (aC.new FT.out (v)))
      rw [hT, ha0] at hG
      (try simp only [qq] at hG)
      exact hG
    exact G0 _ BX
   | false =>
    have HF : Hid (dY P Q G (m : Int) ks l = 11) := aa (by rw [dY, HR.out, fo hkl (by rw [hpx]; exact hrg)]; rfl)
    have yf := aa hrg
    clear hrg HR hpx
    have aL := bI wr
    have zc := kC.out _ ax
    obtain ⟨w2, hw, lJ, tZ, AP, kS⟩ := Cy (h_ ix v) rY wr
    have ak := uk ax lJ
    have aJ := uk aL lJ
    have aT := bI w2
    clear lJ
    have sN := kC.out _ ak
    have je := kS.out _ aT
    go_wp2_with fail
    clear zc sN je hw
    have zc := kC.out _ ak
    have jN := kS.out _ aT
    clear fZ f_
    clear zc jN
    have zc := kC.out _ ak
    have jN := kS.out _ aT
    go_wp2_with fail
    clear zc jN
    refine l8 ak aJ aT (ji P Q G (m : Int) Cs cn cc Ks ks kn kc ix v hkn n2 bf false yf _ (kV.out _ ak) (dA.out _ ak)) fun w3 aH eF bu => ?_
    have zc := kC.out _ aH
    have jN := kS.out _ bu
    have dD := af az.out aH.out
    go_wp2
    go_ret2
    exact ⟨by rw [iA, HF.out]; rfl, dD⟩
  ·
   obtain rfl : k = n := by omega
   have hall : l.all (fun p => cK P Q G ks p.1 p.2) = true := by rw [HR.out, ← hn.out, List.drop_length]; rfl
   have hox := oz.out
   have hoy := sH.out
   rw [List.take_of_length_le (by rw [hn.out]; exact Nat.le_refl _)] at hox hoy
   have pR : (ixs l).length = k := by rw [List.length_map]; exact hn.out
   have BB : (aS l).length = k := by rw [List.length_map]; exact hn.out
   obtain ⟨AX, cX, BC, sX, Fw⟩ := bM hox pR
   obtain ⟨AY, cY, Dc, sY, GZ⟩ := bM hoy BB
   subst BC
   subst Dc
   have xA := aa sX
   have zT := aa sY
   have oD := aa pR
   have x_ := aa BB
   have bJ := aa hall
   have DY : Hid (∀ j, j < k → -9223372036854775808 ≤ (ixs l).getD j 0 ∧ (ixs l).getD j 0 < 9223372036854775808) := aa (fun j hj => by rw [gQ (by rw [hn.out]; exact hj)]; exact hlr.out j hj)
   clear hall hox hoy pR BB sX sY HR oz sH jR
   have aL := bI wr
   have kX := uj (w := wr) (fun u => Sl u AX (ixs l)) xA.out (·.below)
   have kY := uj (w := wr) (fun u => Sl u AY (aS l)) zT.out (·.below)
   have zc := kC.out _ ax
   by_cases hnt : aP (ixs l)
   ·
    have jS := aa hnt
    clear hnt
    go_wp2_with fail
    clear zc
    refine Du ax aL (mD AX (ixs l) k cX false (aa ⟨fun _ => jS.out, fun _ => rfl⟩) oD (by omega) DY _ (kX.out _ aL)) fun w2 ak aJ => ?_
    have zc := kC.out _ ak
    by_cases hfw : k < m
    ·
     have HF : Hid (dY P Q G (m : Int) ks l = 7) := aa (by rw [dY, if_pos bJ.out]; simp [jS.out, hn.out]; omega)
     have df : decide ((k : Int) < (m : Int)) = true := by simp; omega
     have dD := af az.out ak.out
     go_wp2
     go_ret2
     exact ⟨by rw [iA, HF.out]; rfl, dD⟩
    ·
     have HF : Hid (dY P Q G (m : Int) ks l = 0) := aa (by rw [dY, if_pos bJ.out]; simp [jS.out, hn.out]; omega)
     have FY : Hid (iA P Q G (m : Int) ks l = oP Q ((ixs l).take m) (aS l) m) := aa (by rw [iA, HF.out]; rfl)
     have df : decide ((k : Int) < (m : Int)) = false := by simp; omega
     have hmc : m ≤ cX := by omega
     have BV : Hid (((ixs l).take m).length = m) := aa (by rw [List.length_take, oD.out]; omega)
     have F4 : Hid (((ixs l).take m).all (aQ Q) = true) := aa (vT bJ.out hkn.out n3)
     have Jn : Hid (aP ((ixs l).take m)) := aa (iO jS.out)
     obtain ⟨q1, q2, q3, q4⟩ := aB bf.out
     have zV : Hid (di Q = true) := aa (iJ bf.out)
     have EZ := aa (show ∀ u : World, Hid (Below wr.heap.size wr u) → Hid (Sl u AX ((ixs l).take m)) from fun u h => aa ((fC (xA.out.below h.out) m)))
     go_upto_region 15 with (fail)
     clear zc
     have hO := aa (fun (u : World) (h : Hid (Below w0.heap.size w0 u ∧ Below wr.heap.size wr u)) => kC.out u (aa h.out.1))
     refine mG (fun u => Below w0.heap.size w0 u ∧ Below wr.heap.size wr u) [] (bb2 (aa ⟨ak.out, aJ.out⟩) ((Below.refl _ _).drew)) (fun hHeld => ?_)
     refine aK 0 1 2 3 ?_
     refine aM 4 ?_
     refine aM 5 ?_
     refine eX 6 fun K hK => ?_
     go_simp
     refine (oG Q AX ((ixs l).take m) m cX 0 (by omega) zV BV (by omega) F4 (by omega) (by omega) hmc Jn _ (kV.out _ (aa hHeld.out.1)) (EZ.out _ (aa hHeld.out.2))).mono ?_
     intro e wA hW
     obtain ⟨vw, rfl, Hf, dL⟩ := hW
     have HOW := aa Hf
     clear Hf
     refine hK.out _ _ (bb2 hHeld dL) (fun hHeld => ?_)
     clear hK K
     refine aK 7 8 9 10 ?_
     refine aM 11 ?_
     refine jD ?_
     clear hO
     have jA := (aa hHeld.out.1)
     have Ce := (aa hHeld.out.2)
     clear hHeld
     have zc := kC.out _ jA
     have rP := HOW.out
     unfold aO at rP
     rw [aI] at rP
     obtain ⟨AW, cW, hvw, sW, hcW⟩ := bM rP (aI _ _ _ _)
     subst hvw
     have AA := aa sW
     clear rP sW HOW
     clear zc
     have EK := bI wA
     have kW := uj (w := wA) (fun u => Sl u AW (oq Q ((ixs l).take m) 0 m)) AA.out (·.below)
     have zc := kC.out _ jA
     go_wp2
     clear zc
     go_loopw [14, 69] (fun a i wz => ∃ j : Nat, j ≤ m ∧ i = .int .i64 j ∧ a = .int .i64 (oP Q ((ixs l).take m) (aS l) j) ∧ Hid (Below wA.heap.size wA wz)) (fun _ i _ => m - (intOf i).toNat)
     case atStart => exact ⟨0, by omega, rfl, rfl, aa (Below.refl _ _)⟩
     case round =>
      obtain ⟨j, hj, rfl, rfl, dG⟩ := hrel
      have a_ := aa (af jA.out dG.out)
      have sG := aa (af Ce.out dG.out)
      have hsb := kz (Q := Q) (by omega) ((ixs l).take m) (aS l) j
      by_cases dZ : j < m
      ·
       have hkl : j < l.length := by have := hn.out; omega
       obtain ⟨b1, o1, hA1, i1⟩ := (kW.out _ dG).out j (by rw [aI]; exact dZ)
       obtain ⟨b2, o2, hA2, i2⟩ := (kY.out _ sG).out j (by rw [x_.out]; omega)
       subst hA1
       subst hA2
       rw [m_ _ _ _ _ _ dZ] at i1
       have ss : oP Q ((ixs l).take m) (aS l) (j + 1) = (oP Q ((ixs l).take m) (aS l) j + jT Q ((ixs l).take m) 0 j * (aS l).getD j 0 % Q) % Q := rfl
       obtain ⟨x0, x1⟩ := iq (q := Q) (by omega) ((ixs l).take m) 0 j
       have hyb := uy bJ.out hkl
       obtain ⟨x, hx⟩ : ∃ x, jT Q ((ixs l).take m) 0 j = x := ⟨_, rfl⟩
       obtain ⟨y, hy⟩ : ∃ x, (aS l).getD j 0 = x := ⟨_, rfl⟩
       obtain ⟨s9, wB⟩ : ∃ x, oP Q ((ixs l).take m) (aS l) j = x := ⟨_, rfl⟩
       rw [hx] at i1 x0 x1 ss
       rw [hy] at i2 ss hyb
       rw [wB] at ss hsb ⊢
       obtain ⟨p, hp⟩ : ∃ z, x * y % Q = z := ⟨_, rfl⟩
       obtain ⟨t9, wm⟩ : ∃ z, (s9 + p) % Q = z := ⟨_, rfl⟩
       rw [hp, wm] at ss
       have p0 : 0 ≤ p := by rw [← hp]; exact Int.emod_nonneg _ (by omega)
       have p1 : p < Q := by rw [← hp]; exact Int.emod_lt_of_pos _ (by omega)
       obtain ⟨s0, s1⟩ := hsb
       have y0 := dQ hyb
       have y1 := dR hyb
       have SS := aa ss
       have HP := aa hp
       have DD := aa wm
       clear ss hx hy wB hp wm hkl hyb
       have zc := kC.out _ a_
       go_wp2
       go_quiet ((go_at_call 35; exact Calls.quiet_of (ni x y Q p HP (by omega) x0 x1 y0 y1 _)))
       go_wp2_with fail
       refine (yw s9 p Q t9 DD (by omega) s0 s1 p0 p1 _).mono ?_
       rintro e9 w9 ⟨rfl, rfl⟩
       have HB2 := aa (aj dG.out nq)
       go_wp2
       go_roundw
       case rel => exact ⟨j + 1, by omega, by go_num, by rw [SS.out], HB2⟩
       case measure => simp [intOf]; omega
      ·
       obtain rfl : j = m := by omega
       have zc := kC.out _ a_
       have dD := af az.out a_.out
       go_wp2
       go_ret2
       exact ⟨by rw [FY.out, HF.out]; rfl, dD⟩
   ·
    have HF : Hid (dY P Q G (m : Int) ks l = 8) := aa (by rw [dY, if_pos bJ.out]; simp [hnt])
    have jS := aa hnt
    clear hnt
    go_wp2_with fail
    clear zc
    refine Du ax aL (mD AX (ixs l) k cX true (aa ⟨fun h => (by cases h), fun h => absurd h jS.out⟩) oD (by omega) DY _ (kX.out _ aL)) fun w2 ak aJ => ?_
    have zc := kC.out _ ak
    have dD := af az.out ak.out
    go_wp2
    go_ret2
    exact ⟨by rw [iA, HF.out]; rfl, dD⟩
def GH (l : List Int) : Prop := l.length ≤ 1000 ∧ ∀ x ∈ l, -9223372036854775808 ≤ x ∧ x < 9223372036854775808
theorem tL (l : List Int) : (wO (l.map .int)).length = 9 * l.length := by
 induction l with
 | nil => rfl
 | cons x l ih => rw [List.map_cons, wO, List.length_append, ih, zx, List.length_cons, zF, List.length_cons]; omega
theorem GH.len {l : List Int} (h : GH l) : Hid ((enc (.lst (l.map .int))).length ≤ 14000) := aa (by
 rw [zw, List.length_cons, List.length_append, zG, tL]
 have := h.1
 omega)
def CB (W : World) (a : Nat) (h : List Int) (c : Int) (x : Int) (u : World) : Prop := qb u a h c ∧ Own u ⟨a + 1, 0, none⟩ (.int .i64 x) ∧ Below W.heap.size W u
theorem CB.alloc {W : World} {a : Nat} {h : List Int} {c x : Int} {u : World} (hI : CB W a h c x u) (o : Obj) : CB W a h c x (u.alloc o) :=
 ⟨hI.1.below (ag _ _), hI.2.1.below (ag _ _), af hI.2.2 (ag _ _)⟩
theorem CB.below {W : World} {a : Nat} {h : List Int} {c x : Int} {u u' : World} (hI : CB W a h c x u) (hb : Below u.heap.size u u') : CB W a h c x u' :=
 ⟨hI.1.below hb, hI.2.1.below hb, af hI.2.2 hb⟩
def xR (zs : List Int) (n : Nat) (w : World) (e : Ending) (w' : World) : Prop := ∃ g cap, e = .returned (.slice (some ⟨g, 0, none⟩) n cap) ∧ Hid (Cells w' g zs) ∧ Below w.heap.size w w'
theorem sD.cells {zs : List Int} {n : Nat} {w w' : World} {e : Ending} (h : sD zs w e w') (hn : zs.length = n) (hpos : 0 < n) : xR zs n w e w' := by
 obtain ⟨v, he, ho, hb⟩ := h
 obtain ⟨g, cap, rfl, _, hc⟩ := aO.cells ho (by omega)
 rw [hn] at he
 exact ⟨g, cap, he, aa hc, hb⟩
theorem zM.below {w w' : World} {g n : Nat} {f : Nat → Int} (h : zM w g n f) (hn : 0 < n) (hb : Below w.heap.size w w') : zM w' g n f := by
 have hg : g < w.heap.size := World.block_lt_of_cell? _ _ (h.1 0 hn)
 exact ⟨fun j hj => (hb.cell (p := ⟨g, j, none⟩) hg).trans (h.1 j hj), fun j => (hb.frozen (p := ⟨g, j, none⟩) hg).trans (h.2 j)⟩
def xx (w : World) (a : Nat) (x y z : Value) : Prop := w.cell? ⟨a, 0, none⟩ = some x ∧ w.cell? ⟨a, 1, none⟩ = some y ∧ w.cell? ⟨a, 2, none⟩ = some z
theorem xx.below {w w' : World} {a : Nat} {x y z : Value} (h : xx w a x y z) (hb : Below w.heap.size w w') : xx w' a x y z :=
 ⟨cell_below h.1 hb, cell_below h.2.1 hb, cell_below h.2.2 hb⟩
def Dr (s : Nat) : List Row := [⟨some ⟨s + 1 + 1, 0, none⟩, 1, 1, [2]⟩, ⟨some ⟨s + 1 + 1 + 1, 0, none⟩, 1, 1, [4]⟩]
def Cq (w : World) (s : Nat) : Prop := xP w s 23 11 4 ∧ Sl w (some ⟨s + 1, 0, none⟩) [8, 18] ∧ Rw w (some ⟨s + 1 + 1 + 1 + 1, 0, none⟩) (Dr s) ∧ zO w (s + 1 + 1 + 1 + 1 + 1) (.slice (some ⟨s + 1, 0, none⟩) 2 2) (.slice (some ⟨s + 1 + 1 + 1 + 1, 0, none⟩) 2 2)
theorem Cq.below {w w' : World} {s : Nat} (h : Cq w s) (hb : Below w.heap.size w w') : Cq w' s := ⟨h.1.below hb, h.2.1.below hb, h.2.2.1.below hb, h.2.2.2.below hb⟩
theorem Sl.set {w : World} {A : Option Addr} {xs : List Int} {a : Nat} {j : Nat} {v : Value} (h : Sl w A xs) (hne : ∀ b o, A = some ⟨b, o, none⟩ → 0 < xs.length → b ≠ a) : Sl (w.setCell ⟨a, j, none⟩ v) A xs := fun k hk => by
 obtain ⟨b, o, e, hc⟩ := h k hk
 refine ⟨b, o, e, ?_⟩
 have := hne b o e (by omega)
 rw [World.cell?_setCell_far _ _ _ _ (fun e => this e.symm)]
 exact hc
def wM (A1 B1 : Option Addr) (a b : Int) : List Row := [⟨A1, 1, 1, [a]⟩, ⟨B1, 1, 1, [b]⟩]
theorem five (w : World) (o1 o2 o3 o4 o5 : Obj) : let W := ((((w.alloc o1).alloc o2).alloc o3).alloc o4).alloc o5
  W.heap[w.heap.size]? = some o1 ∧ W.heap[w.heap.size + 1]? = some o2 ∧ W.heap[w.heap.size + 1 + 1]? = some o3 ∧ W.heap[w.heap.size + 1 + 1 + 1]? = some o4 ∧ W.heap[w.heap.size + 1 + 1 + 1 + 1]? = some o5 ∧ Below w.heap.size w W := by
 have e1 : (w.alloc o1).heap.size = w.heap.size + 1 := by simp
 have e2 : ((w.alloc o1).alloc o2).heap.size = w.heap.size + 1 + 1 := by simp
 have e3 : (((w.alloc o1).alloc o2).alloc o3).heap.size = w.heap.size + 1 + 1 + 1 := by simp
 have e4 : ((((w.alloc o1).alloc o2).alloc o3).alloc o4).heap.size = w.heap.size + 1 + 1 + 1 + 1 := by simp
 have b1 := ag (w.alloc o1) o2
 have b2 := af b1 (ag _ o3)
 have b3 := af b2 (ag _ o4)
 have b4 := af b3 (ag _ o5)
 have c2 := af (af (ag ((w.alloc o1).alloc o2) o3) (ag _ o4)) (ag _ o5)
 have c3 := af (ag (((w.alloc o1).alloc o2).alloc o3) o4) (ag _ o5)
 have c4 := ag ((((w.alloc o1).alloc o2).alloc o3).alloc o4) o5
 refine ⟨(b4.block _ (by omega)).trans (heap_alloc_new _ _), (c2.block _ (by omega)).trans ?_, (c3.block _ (by omega)).trans ?_, (c4.block _ (by omega)).trans ?_, ?_, af (ag w o1) b4⟩
 · rw [← e1]; exact heap_alloc_new _ _
 · rw [← e2]; exact heap_alloc_new _ _
 · rw [← e3]; exact heap_alloc_new _ _
 · rw [← e4]; exact heap_alloc_new _ _
theorem jg {w : World} {g : Nat} {cs : Array Value} {T : TypeId} {xs : List Int} (h : w.heap[g]? = some (.cells cs T)) (hc : ∀ k, k < xs.length → cs[k]? = some (.int .i64 (xs.getD k 0))) : Sl w (some ⟨g, 0, none⟩) xs :=
 fun k hk => ⟨g, 0, rfl, by rw [Nat.zero_add, ah h]; exact hc k hk⟩
theorem Ba {w : World} {g : Nat} {T : TypeId} {A1 B1 : Option Addr} {a b : Int} (h : w.heap[g]? = some (.cells #[.slice A1 1 1, .slice B1 1 1] T)) (ha : Sl w A1 [a]) (hb : Sl w B1 [b]) : Rw w (some ⟨g, 0, none⟩) (wM A1 B1 a b) := fun k hk => by
 match k, hk with
 | 0, _ => exact ⟨⟨g, 0, rfl, by rw [ah h]; rfl⟩, rfl, ha⟩
 | 1, _ => exact ⟨⟨g, 0, rfl, by rw [ah h]; rfl⟩, rfl, hb⟩
def qg (a ya b yb : Int) (g : Nat) (w : World) : Prop := w.heap[g + 1]? = some (.cells #[.int .i64 ya, .int .i64 yb] 3) ∧ w.heap[g + 1 + 1]? = some (.cells #[.int .i64 a] 3) ∧ w.heap[g + 1 + 1 + 1]? = some (.cells #[.int .i64 b] 3) ∧ w.heap[g + 1 + 1 + 1 + 1]? = some (.cells #[.slice (some ⟨g + 1 + 1, 0, none⟩) 1 1, .slice (some ⟨g + 1 + 1 + 1, 0, none⟩) 1 1] 24)
theorem qg.set {a ya b yb : Int} {g : Nat} {w : World} (h : qg a ya b yb g w) {k : Nat} (hk : k < g) (j : Nat) (v : Value) : qg a ya b yb g (w.setCell ⟨k, j, none⟩ v) := by
 obtain ⟨h1, h2, h3, h4⟩ := h
 refine ⟨?_, ?_, ?_, ?_⟩
 · rw [Go.Deep.blk_setCell_other _ _ _ _ (show g + 1 ≠ k by omega)]; exact h1
 · rw [Go.Deep.blk_setCell_other _ _ _ _ (show g + 1 + 1 ≠ k by omega)]; exact h2
 · rw [Go.Deep.blk_setCell_other _ _ _ _ (show g + 1 + 1 + 1 ≠ k by omega)]; exact h3
 · rw [Go.Deep.blk_setCell_other _ _ _ _ (show g + 1 + 1 + 1 + 1 ≠ k by omega)]; exact h4
theorem qg.sl {a ya b yb : Int} {g : Nat} {w : World} (h : qg a ya b yb g w) : Sl w (some ⟨g + 1, 0, none⟩) [ya, yb] ∧ Rw w (some ⟨g + 1 + 1 + 1 + 1, 0, none⟩) (wM (some ⟨g + 1 + 1, 0, none⟩) (some ⟨g + 1 + 1 + 1, 0, none⟩) a b) := by
 obtain ⟨h1, h2, h3, h4⟩ := h
 exact ⟨jg h1 (fun k hk => by match k, hk with | 0, _ => rfl | 1, _ => rfl), Ba h4 (jg h2 (fun k hk => by match k, hk with | 0, _ => rfl)) (jg h3 (fun k hk => by match k, hk with | 0, _ => rfl))⟩
def Ct (w : World) (a : Nat) (P Q G A B H : Int) : Prop := (w.cell? ⟨a, 0, none⟩ = some (.int .i64 P) ∧ w.cell? ⟨a, 1, none⟩ = some (.int .i64 Q) ∧ w.cell? ⟨a, 2, none⟩ = some (.int .i64 G)) ∧
 w.cell? ⟨a, 3, none⟩ = some (.int .i64 A) ∧ w.cell? ⟨a, 4, none⟩ = some (.int .i64 B) ∧ w.cell? ⟨a, 5, none⟩ = some (.int .i64 H)
theorem Ct.below {w w' : World} {a : Nat} {P Q G A B H : Int} (h : Ct w a P Q G A B H) (hb : Below w.heap.size w w') : Ct w' a P Q G A B H :=
 have f : ∀ {p : Addr} {v : Value}, w.cell? p = some v → w'.cell? p = some v := fun h => (hb.cell (World.block_lt_of_cell? _ _ h)).trans h
 ⟨⟨f h.1.1, f h.1.2.1, f h.1.2.2⟩, f h.2.1, f h.2.2.1, f h.2.2.2⟩
def x9 (w : World) (g : Nat) (a b : Int) : Prop := w.heap[g]? = some (.cells #[.int .i64 a, .int .i64 b] 3)
theorem jw {w w' : World} {g : Nat} {o : Obj} (h : w.heap[g]? = some o) (hb : Below w.heap.size w w') : w'.heap[g]? = some o := by
 have hl : g < w.heap.size := (Array.getElem?_eq_some_iff.1 h).1
 exact (hb.block g hl).trans h
theorem x9.below {w w' : World} {g : Nat} {a b : Int} (h : x9 w g a b) (hb : Below w.heap.size w w') : x9 w' g a b := jw h hb
theorem x9.new (w : World) (a b : Int) : x9 (w.alloc (.cells #[.int .i64 a, .int .i64 b] 3)) w.heap.size a b := heap_alloc_new _ _
theorem x9.sl {w : World} {g : Nat} {a b : Int} (h : x9 w g a b) : Sl w (some ⟨g, 0, none⟩) [a, b] := jg h (fun k hk => by match k, hk with | 0, _ => rfl | 1, _ => rfl)
def Cz (w : World) (g gA gB : Nat) : Prop := w.heap[g]? = some (.cells #[.slice (some ⟨gA, 0, none⟩) 2 2, .slice (some ⟨gB, 0, none⟩) 2 2] 24)
theorem Cz.below {w w' : World} {g gA gB : Nat} (h : Cz w g gA gB) (hb : Below w.heap.size w w') : Cz w' g gA gB := jw h hb
theorem Cz.new (w : World) (gA gB : Nat) : Cz (w.alloc (.cells #[.slice (some ⟨gA, 0, none⟩) 2 2, .slice (some ⟨gB, 0, none⟩) 2 2] 24)) w.heap.size gA gB := heap_alloc_new _ _
def BK (A1 B1 : Option Addr) (a b c d : Int) : List Row := [⟨A1, 2, 2, [a, b]⟩, ⟨B1, 2, 2, [c, d]⟩]
def jM (ps a b c d : Int) (gY gA gB gR : Nat) (w : World) : Prop := x9 w gY ps 1 ∧ x9 w gA a b ∧ x9 w gB c d ∧ Cz w gR gA gB
theorem jM.below {ps a b c d : Int} {gY gA gB gR : Nat} {w w' : World} (h : jM ps a b c d gY gA gB gR w) (hb : Below w.heap.size w w') : jM ps a b c d gY gA gB gR w' :=
 ⟨h.1.below hb, h.2.1.below hb, h.2.2.1.below hb, h.2.2.2.below hb⟩
theorem jM.sl {ps a b c d : Int} {gY gA gB gR : Nat} {w : World} (h : jM ps a b c d gY gA gB gR w) : Sl w (some ⟨gY, 0, none⟩) [ps, 1] ∧ Rw w (some ⟨gR, 0, none⟩) (BK (some ⟨gA, 0, none⟩) (some ⟨gB, 0, none⟩) a b c d) := by
 obtain ⟨h1, h2, h3, h4⟩ := h
 refine ⟨h1.sl, fun k hk => ?_⟩
 match k, hk with
 | 0, _ => exact ⟨⟨gR, 0, rfl, by rw [ah h4]; rfl⟩, rfl, h2.sl⟩
 | 1, _ => exact ⟨⟨gR, 0, rfl, by rw [ah h4]; rfl⟩, rfl, h3.sl⟩
theorem jM.set {ps a b c d : Int} {gY gA gB gR : Nat} {w : World} (h : jM ps a b c d gY gA gB gR w) {k : Nat} (hY : k < gY) (hA : k < gA) (hB : k < gB) (hR : k < gR) (j : Nat) (v : Value) : jM ps a b c d gY gA gB gR (w.setCell ⟨k, j, none⟩ v) := by
 obtain ⟨h1, h2, h3, h4⟩ := h
 refine ⟨?_, ?_, ?_, ?_⟩
 · exact (Go.Deep.blk_setCell_other _ _ _ _ (show gY ≠ k by omega)).trans h1
 · exact (Go.Deep.blk_setCell_other _ _ _ _ (show gA ≠ k by omega)).trans h2
 · exact (Go.Deep.blk_setCell_other _ _ _ _ (show gB ≠ k by omega)).trans h3
 · exact (Go.Deep.blk_setCell_other _ _ _ _ (show gR ≠ k by omega)).trans h4
def BR (w : World) (g : Nat) : Prop := w.heap[g]? = some (.cells #[.slice none 0 0, .slice none 0 0] 189)
theorem BR.below {w w' : World} {g : Nat} (h : BR w g) (hb : Below w.heap.size w w') : BR w' g := jw h hb
structure qc where
 ix : Int
 v : Int
 A : Option Addr
 na : Nat
 ca : Nat
 al : List Int
 C : Int
 Z : Option Addr
 nz : Nat
 cz : Nat
 zs : List Int
abbrev eO : qc := ⟨0, 0, none, 0, 0, [], 0, none, 0, 0, []⟩
def zP (w : World) (p : qc) : Prop := p.al.length = p.na ∧ p.zs.length = p.nz ∧ Sl w p.A p.al ∧ Sl w p.Z p.zs
def Pa (w : World) (L : Option Addr) (ps : List qc) : Prop := ∀ k, k < ps.length → ∃ b o, L = some ⟨b, o, none⟩ ∧ w.cell? ⟨b, o + k * 5, none⟩ = some (.int .i64 (ps.getD k eO).ix) ∧ w.cell? ⟨b, o + k * 5 + 1, none⟩ = some (.int .i64 (ps.getD k eO).v) ∧
 w.cell? ⟨b, o + k * 5 + 2, none⟩ = some (.slice (ps.getD k eO).A (ps.getD k eO).na (ps.getD k eO).ca) ∧ w.cell? ⟨b, o + k * 5 + 3, none⟩ = some (.int .i64 (ps.getD k eO).C) ∧ w.cell? ⟨b, o + k * 5 + 4, none⟩ = some (.slice (ps.getD k eO).Z (ps.getD k eO).nz (ps.getD k eO).cz) ∧ zP w (ps.getD k eO)
theorem zP.below {w w' : World} {p : qc} (h : zP w p) (hb : Below w.heap.size w w') : zP w' p := ⟨h.1, h.2.1, h.2.2.1.below hb, h.2.2.2.below hb⟩
theorem Pa.below {w w' : World} {L : Option Addr} {ps : List qc} (h : Pa w L ps) (hb : Below w.heap.size w w') : Pa w' L ps := fun k hk => by
 obtain ⟨b, o, h1, h2, h3, h4, h5, h6, h7⟩ := h k hk
 exact ⟨b, o, h1, cell_below h2 hb, cell_below h3 hb, cell_below h4 hb, cell_below h5 hb, cell_below h6 hb, h7.below hb⟩
end Go.Proofs.YtchcllcbknfikaaGreatDoor
namespace Go.Proofs.YtchcllcbknfikaaGreatDoor
open Go.ChangeShapes Go.WideShapes Go.ChangeAt Go.RowKit jK
theorem wY : Tryz.prog.cellsOf 26 = 3 := by kernel_rfl
section
variable {H : Type} {enc : TypeId × Value → H} {w : World} {base : Nat} {held : Bool}
theorem vJ {r : Reach} {b0 : Nat} {v : Value} {d : DataW H} {ps : List MemPlace} (hval : Value.okWide Tryz.prog w r b0 26 v) (hd : DataW.Trod enc Tryz.prog w base (fun _ => true) held 26 v d ps) :
  ∃ (need : Int) (Cs : Option Addr) (cn cc : Nat) (cs : List Int) (Ks : Option Addr) (kn kc : Nat) (ks : List Int), v = .agg #[.int .i64 need, .slice Cs cn cc, .slice Ks kn kc] ∧ -9223372036854775808 ≤ need ∧ need ≤ 9223372036854775807 ∧ cs.length = cn ∧ ks.length = kn ∧ Sl w Cs cs ∧ Sl w Ks ks := by
 obtain ⟨cs, rfl, hsz⟩ := okWide_struct Tryz.underlying26 hval
 obtain ⟨n, h⟩ := hd
 obtain ⟨xs, m, rfl, _, hl, hxl, hf⟩ := DataW.trod_struct Tryz.underlying26 h
 rw [wY] at hl
 obtain ⟨cl⟩ := cs
 simp only [Value.cells] at hl hf
 match cl, hl with
 | [c0, c1, c2], _ =>
  have f0 : DataW.trod enc Tryz.prog w base (fun _ => true) held m 3 (([c0, c1, c2].drop 0).take (Tryz.prog.cellsOf 3)) = xs[0]? := hf 0 _ rfl
  have f1 : DataW.trod enc Tryz.prog w base (fun _ => true) held m 24 (([c0, c1, c2].drop 1).take (Tryz.prog.cellsOf 24)) = xs[1]? := hf 1 _ rfl
  have f2 : DataW.trod enc Tryz.prog w base (fun _ => true) held m 24 (([c0, c1, c2].drop 2).take (Tryz.prog.cellsOf 24)) = xs[2]? := hf 2 _ rfl
  rw [w_] at f1 f2
  rw [iY] at f0
  have hl3 : xs.length = 3 := hxl
  match xs, hl3 with
  | [x0, x1, x2], _ =>
   obtain ⟨N, hN, _, wN⟩ := DataW.trod_int Tryz.underlying3 f0
   obtain ⟨RA, hA, oA⟩ := open_row f1
   obtain ⟨RZ, hZ, oZ⟩ := open_row f2
   simp at hA hN hZ
   subst hA; subst hN; subst hZ
   have hb : -9223372036854775808 ≤ N ∧ N ≤ 9223372036854775807 := by
    simp [Lit.wf, IntKind.min, IntKind.max, IntKind.signed, IntKind.bits] at wN
    omega
   exact ⟨N, RA.p, RA.n, RA.c, RA.xs, RZ.p, RZ.n, RZ.c, RZ.xs, rfl, hb.1, hb.2, oA.1, oZ.1, oA.2, oZ.2⟩
theorem sj (b o k : Nat) (spot : Option Nat) (h : spot = none) : (⟨b, o, spot⟩ : Addr).add k = ⟨b, o + k, none⟩ := by
 subst h
 unfold Addr.add
 split
 · rename_i h0; subst h0; rfl
 · rfl
end
theorem lF : Tryz.prog.cellsOf 35 = 2 := by kernel_rfl
section
variable {H : Type} {enc : TypeId × Value → H} {w : World} {base : Nat} {held : Bool}
def ET (p : Int × Int) : List Value := [.int .i64 p.1, .int .i64 p.2]
theorem jo {n : Nat} {cs : List Value} {x : DataW H × List MemPlace} (h : DataW.trod enc Tryz.prog w base (fun _ => true) held n 35 cs = some x) :
  ∃ p : Int × Int, cs = ET p ∧ kF p := by
 obtain ⟨xs, m, rfl, _, hl, hxl, hf⟩ := DataW.trod_struct Tryz.underlying35 h
 rw [lF] at hl
 match cs, hl with
 | [c0, c1], _ =>
  have f0 : DataW.trod enc Tryz.prog w base (fun _ => true) held m 3 (([c0, c1].drop 0).take (Tryz.prog.cellsOf 3)) = xs[0]? := hf 0 _ rfl
  have f1 : DataW.trod enc Tryz.prog w base (fun _ => true) held m 3 (([c0, c1].drop 1).take (Tryz.prog.cellsOf 3)) = xs[1]? := hf 1 _ rfl
  rw [iY] at f0 f1
  have hl2 : xs.length = 2 := hxl
  match xs, hl2 with
  | [x0, x1], _ =>
   obtain ⟨E1, hE1, _, w1⟩ := DataW.trod_int Tryz.underlying3 f0
   obtain ⟨E2, hE2, _, w2⟩ := DataW.trod_int Tryz.underlying3 f1
   simp at hE1 hE2
   subst hE1; subst hE2
   have hb : -9223372036854775808 ≤ E1 ∧ E1 < 9223372036854775808 := by
    simp [Lit.wf, IntKind.min, IntKind.max, IntKind.signed, IntKind.bits] at w1
    omega
   exact ⟨(E1, E2), rfl, hb⟩
theorem o_ {r : Reach} {b0 : Nat} {v : Value} {d : DataW H} {ps : List MemPlace} (hval : Value.okWide Tryz.prog w r b0 27 v) (hd : DataW.Trod enc Tryz.prog w base (fun _ => true) held 27 v d ps) :
  ∃ (L : Option Addr) (n c : Nat) (l : List (Int × Int)), v = .slice L n c ∧ l.length = n ∧ Sh w L l ∧ ∀ k, k < n → kF (l.getD k (0, 0)) := by
 obtain ⟨a, len, cap, rfl⟩ := okWide_slice Tryz.underlying27 hval
 obtain ⟨n, h⟩ := hd
 rcases Go.Deep.open_slice Tryz.underlying27 h with ⟨h0, _⟩ | ⟨a', len', cap', m, n', D, Pl, h0, _, hlc, _, hm, _, hx⟩
 ·
  simp [Value.cells] at h0
  obtain ⟨rfl, rfl, rfl⟩ := h0
  exact ⟨none, 0, 0, [], rfl, rfl, fun k hk => absurd hk (by simp), fun k hk => absurd hk (by omega)⟩
 ·
  simp [Value.cells] at h0
  obtain ⟨rfl, rfl, rfl⟩ := h0
  simp at hm
  obtain ⟨f, hf⟩ := Go.Deep.choose_lt (α := Int × Int) (n := len) (p := fun i p => (∀ r, r < 2 → w.cell? ((a'.add (i * 2)).add r) = (ET p)[r]?) ∧ kF p) (fun i hi => by
   obtain ⟨cs', h1, h2⟩ := hx i (by omega)
   rw [lF] at h1
   obtain ⟨_, hlen, hcell⟩ := World.cells?_some h1
   obtain ⟨p, hp, hr⟩ := jo h2
   exact ⟨p, fun r hr => by rw [hcell r hr, hp], hr⟩)
  have e : ∀ k, k < len → ((List.range len).map f).getD k (0, 0) = f k := fun k hk => by
   rw [List.getD_eq_getElem?_getD, List.getElem?_eq_getElem (by simpa using hk)]
   simp
  refine ⟨some a', len, cap, (List.range len).map f, rfl, by simp, fun k hk => ?_, fun k hk => by rw [e k hk]; exact (hf k hk).2⟩
  have hk' : k < len := by simpa using hk
  rw [e k hk']
  obtain ⟨h1, h3⟩ := hf k hk'
  obtain ⟨b, off, spot⟩ := a'
  have hspot : spot = none := by
   have := World.cell?_spot ((hf 0 (by omega)).1 0 (by omega))
   rw [Nat.zero_mul] at this
   have h9 : (((⟨b, off, spot⟩ : Addr).add 0).add 0) = ⟨b, off, spot⟩ := by unfold Addr.add; simp
   rw [h9] at this
   exact this
  subst hspot
  have key : ∀ r, r < 2 → w.cell? ⟨b, off + k * 2 + r, none⟩ = (ET (f k))[r]? := fun r hr => by
   have := h1 r hr
   rw [sj _ _ _ _ rfl, sj _ _ _ _ rfl] at this
   exact this
  exact ⟨b, off, rfl, key 0 (by omega), key 1 (by omega)⟩
end
end Go.Proofs.YtchcllcbknfikaaGreatDoor
namespace Go.Proofs.YtchcllcbknfikaaGreatDoor
open Go.RowKit jK
theorem A_ (P Q G need : Int) (Cs : Option Addr) (cs : List Int) (cn cc : Nat) (Ks : Option Addr) (ks : List Int) (kn kc : Nat) (hcn : Hid (cs.length = cn)) (hkn : Hid (ks.length = kn)) (ix v : Int) (ht : Hid (ou P Q G need cs ks = false)) (hQ : Q < 9223372036854775808) (w : World) (hv : Hid (Vars w)) (hC : Hid (Sl w Cs cs)) (hK : Hid (Sl w Ks ks)) :
  Calls Tryz.prog 14 #[gv P Q G, fA need Cs cn cc Ks kn kc, xU ix v] w (Rt w (.bool false)) := by
 obtain ⟨w0, HW, az, kC⟩ := Ab (aG P Q G) gy (fB need Cs cn cc Ks kn kc) gy (h_ ix v) rY w
 have kV := mkV az hv
 have dh := mkS az hC
 have dA := mkS az hK
 have ai := bI w0
 clear hv hC hK
 go_in
 go_wp2_with fail
 rw [HW.out]
 have zc := kC.out _ ai
 go_wp2_with fail
 clear zc
 refine bH kC ai (dJ P Q G need Cs cs cn cc Ks ks kn kc hcn hkn false ht hQ _ (kV.out _ ai) (dh.out _ ai) (dA.out _ ai)) fun w1 aD zc => ?_
 go_wp2
 go_ret
 exact ⟨rfl, gW az aD⟩
theorem qy (P Q G need : Int) (Cs : Option Addr) (cs : List Int) (cn cc : Nat) (Ks : Option Addr) (ks : List Int) (kn kc : Nat) (hcn : Hid (cs.length = cn)) (hkn : Hid (ks.length = kn)) (ix v : Int) (ht : Hid (ou P Q G need cs ks = true)) (r : Bool) (hr : Hid (cK P Q G ks ix v = r)) (hQ : Q < 9223372036854775808) (w : World) (hv : Hid (Vars w)) (hC : Hid (Sl w Cs cs)) (hK : Hid (Sl w Ks ks)) :
  Calls Tryz.prog 14 #[gv P Q G, fA need Cs cn cc Ks kn kc, xU ix v] w (Rt w (.bool r)) := by
 obtain ⟨bf, n1, n2, n3, n4, n5, n6⟩ := bV ht.out hcn.out hkn.out
 obtain ⟨w0, HW, az, kC⟩ := Ab (aG P Q G) gy (fB need Cs cn cc Ks kn kc) gy (h_ ix v) rY w
 have kV := mkV az hv
 have dh := mkS az hC
 have dA := mkS az hK
 have ai := bI w0
 clear hv hC hK
 go_in
 go_wp2_with fail
 rw [HW.out]
 have zc := kC.out _ ai
 go_wp2_with fail
 clear zc
 refine bH kC ai (dJ P Q G need Cs cs cn cc Ks ks kn kc hcn hkn true ht hQ _ (kV.out _ ai) (dh.out _ ai) (dA.out _ ai)) fun w1 aD zc => ?_
 go_wp2_with fail
 clear zc
 refine bH kC aD (ji P Q G need Cs cn cc Ks ks kn kc ix v hkn n2 bf r hr _ (kV.out _ aD) (dA.out _ aD)) fun w2 ak zc => ?_
 go_wp2
 go_ret
 exact ⟨rfl, gW az ak⟩
theorem eD (need : Int) (Cs : Option Addr) (cn cc : Nat) (Ks : Option Addr) (kn kc : Nat) (r : Bool) (hr : Hid ((decide (50 < cn) || decide (50 < kn)) = r)) (w : World) :
  Calls Tryz.prog 9 #[fA need Cs cn cc Ks kn kc] w (Rt w (.bool r)) := by
 have hb := ag w (fB need Cs cn cc Ks kn kc)
 by_cases h1 : 50 < cn
 ·
  have d1 : decide ((50 : Int) < (cn : Int)) = true := by simp; omega
  obtain rfl : r = true := by rw [← hr.out, decide_eq_true h1]; rfl
  go_in
  go_wp2
  go_ret
  exact ⟨rfl, hb⟩
 ·
  have d1 : decide ((50 : Int) < (cn : Int)) = false := by simp; omega
  by_cases h2 : 50 < kn
  ·
   have d2 : decide ((50 : Int) < (kn : Int)) = true := by simp; omega
   obtain rfl : r = true := by rw [← hr.out, decide_eq_true h2, Bool.or_true]
   go_in
   go_wp2
   go_ret
   exact ⟨rfl, hb⟩
  ·
   have d2 : decide ((50 : Int) < (kn : Int)) = false := by simp; omega
   obtain rfl : r = false := by rw [← hr.out, decide_eq_false h1, decide_eq_false h2]; rfl
   go_in
   go_wp2
   go_ret
   exact ⟨rfl, hb⟩
def Dw (w : World) (e : Ending) (w' : World) : Prop := ∃ b1 b2 b3, e = .returned (.tuple #[gv 23 11 4, fA 2 (some ⟨b1, 0, none⟩) 2 2 (some ⟨b2, 0, none⟩) 3 3, .slice (some ⟨b3, 0, none⟩) 3 3]) ∧ Sl w' (some ⟨b1, 0, none⟩) [18, 16] ∧ Sl w' (some ⟨b2, 0, none⟩) [12, 8, 13] ∧ w'.heap[b3]? = some (.cells #[.int .i64 1, .int .i64 5, .int .i64 2, .int .i64 7, .int .i64 3, .int .i64 9] 35) ∧ Below w.heap.size w w'
theorem yL (w : World) : Calls Tryz.prog 31 #[] w (Dw w) := by
 obtain ⟨h0, h1, h2, h3, h4, hb⟩ := five w (aG 23 11 4) (fB 2 (some ⟨w.heap.size + 1 + 1, 0, none⟩) 2 2 (some ⟨w.heap.size + 1 + 1 + 1, 0, none⟩) 3 3) (.cells #[.int .i64 18, .int .i64 16] 3) (.cells #[.int .i64 12, .int .i64 8, .int .i64 13] 3) (.cells #[.int .i64 1, .int .i64 5, .int .i64 2, .int .i64 7, .int .i64 3, .int .i64 9] 35)
 have c0 := ah h0 0
 have c1 := ah h0 1
 have c2 := ah h0 2
 have d0 := ah h1 0
 have d1 := ah h1 1
 have d2 := ah h1 2
 go_in
 go_wp2
 exact bodyPost_ret (v := .tuple #[gv 23 11 4, fA 2 (some ⟨w.heap.size + 1 + 1, 0, none⟩) 2 2 (some ⟨w.heap.size + 1 + 1 + 1, 0, none⟩) 3 3, .slice (some ⟨w.heap.size + 1 + 1 + 1 + 1, 0, none⟩) 3 3]) (by simp [results, Tryz.results31, go_sem, c0, c1, c2, d0, d1, d2]) rfl
  ⟨_, _, _, rfl, jg h2 (fun k hk => by match k, hk with | 0, _ => rfl | 1, _ => rfl), jg h3 (fun k hk => by match k, hk with | 0, _ => rfl | 1, _ => rfl | 2, _ => rfl), h4, hb⟩
theorem EX : aP [1, 2] := fun i j hi hj => by
 have h : i < 2 := hi
 obtain rfl : i = 1 := by omega
 obtain rfl : j = 0 := by omega
 decide
theorem rT : Hid (ou 23 11 4 2 [18, 16] [12, 8, 13] = true) := aa (by kernel_rfl)
theorem Dq : Hid (cK 23 11 4 [12, 8, 13] 1 5 = true) := aa (by kernel_rfl)
theorem Dp : Hid (cK 23 11 4 [12, 8, 13] 3 9 = true) := aa (by kernel_rfl)
theorem Aq : dY 23 11 4 2 [12, 8, 13] [(1, 5), (2, 7)] = 0 := by
 rw [dY, if_pos (show ([(1, 5), (2, 7)] : List (Int × Int)).all (fun p => cK 23 11 4 [12, 8, 13] p.1 p.2) = true by kernel_rfl), if_pos (@decide_eq_true _ (Classical.propDecidable _) (show aP (ixs [(1, 5), (2, 7)]) from EX)), if_neg (by decide)]
theorem CP : jT 11 [1, 2] 0 0 = 2 := by
 rw [jT, show eH 11 [1, 2] 0 0 ([1, 2] : List Int).length = 9 by decide, show eH 11 [1, 2] 0 (([1, 2] : List Int).getD 0 0) ([1, 2] : List Int).length = 10 by decide, gI (x := 10) ⟨by decide, by decide, .inl (by decide)⟩]
 decide
theorem CO : jT 11 [1, 2] 0 1 = 10 := by
 rw [jT, show eH 11 [1, 2] 1 0 ([1, 2] : List Int).length = 10 by decide, show eH 11 [1, 2] 1 (([1, 2] : List Int).getD 1 0) ([1, 2] : List Int).length = 1 by decide, gI (x := 1) ⟨by decide, by decide, .inl (by decide)⟩]
 decide
theorem Dn : iA 23 11 4 2 [12, 8, 13] [(1, 5), (2, 7)] = 3 := by
 rw [iA, Aq, if_pos rfl, show (2 : Int).toNat = 2 from rfl, show ((ixs [(1, 5), (2, 7)]).take 2) = [1, 2] from rfl, show aS [(1, 5), (2, 7)] = [5, 7] from rfl]
 simp only [oP, CP, CO]
 decide
theorem EU {w : World} {b : Nat} (h : w.heap[b]? = some (.cells #[.int .i64 1, .int .i64 5, .int .i64 2, .int .i64 7, .int .i64 3, .int .i64 9] 35)) : Sh w (some ⟨b, 0, none⟩) [(1, 5), (2, 7)] := fun k hk => by
 match k, hk with
 | 0, _ => exact ⟨b, 0, rfl, ah h 0, ah h 1⟩
 | 1, _ => exact ⟨b, 0, rfl, ah h 2, ah h 3⟩
theorem CY (b1 b2 b3 : Nat) (w : World) (hv : Hid (Vars w)) (hC : Hid (Sl w (some ⟨b1, 0, none⟩) [18, 16])) (hK : Hid (Sl w (some ⟨b2, 0, none⟩) [12, 8, 13])) (hA : Hid (Sh w (some ⟨b3, 0, none⟩) [(1, 5), (2, 7)])) :
  Calls Tryz.prog 10 #[gv 23 11 4, fA 2 (some ⟨b1, 0, none⟩) 2 2 (some ⟨b2, 0, none⟩) 3 3, .slice (some ⟨b3, 0, none⟩) 2 3] w (Rt w (.tuple #[.int .i64 3, .int .i64 0])) := by
 have h := Ac 23 11 4 2 (some ⟨b1, 0, none⟩) [18, 16] 2 2 (some ⟨b2, 0, none⟩) [12, 8, 13] 3 3 (aa rfl) (aa rfl) (some ⟨b3, 0, none⟩) [(1, 5), (2, 7)] 2 3 (aa rfl) (by omega) (aa (fun k hk => by
  match k, hk with
  | 0, _ => exact ⟨by decide, by decide⟩
  | 1, _ => exact ⟨by decide, by decide⟩)) rT (by omega) w hv hC hK hA
 rw [show ((2 : Nat) : Int) = 2 from rfl, Aq, Dn] at h
 exact h
theorem rZ (w : World) (hv : Hid (Vars w)) :
  Calls Tryz.prog 8 #[] w (Rt w (.bool true)) := by
 obtain ⟨w0, hW⟩ : ∃ W, w = W := ⟨_, rfl⟩
 have az : Hid (Below w.heap.size w w0) := aa (by rw [← hW]; exact Below.refl _ _)
 have kC := aa (show ∀ u : World, Hid (Below w0.heap.size w0 u) → True from fun _ _ => trivial)
 have kV := aa (show ∀ u : World, Hid (Below w0.heap.size w0 u) → Hid (Vars u) from fun u h => aa ((hv.out.below) (af az.out h.out)))
 have ai : Hid (Below w0.heap.size w0 w0) := aa (Below.refl _ _)
 have HW := aa hW
 clear hW hv
 go_in
 go_wp2_with fail
 rw [HW.out]
 have zc := kC.out _ ai
 go_wp2_with fail
 refine (yL _).mono ?_
 intro e w1 hE
 obtain ⟨b1, b2, b3, rfl, Hl, xY, He, hb0⟩ := hE
 have JW := aa Hl
 have JP := aa xY
 have zU := aa He
 clear Hl xY He
 have aD := lV ai hb0
 clear zc hb0
 have zc := kC.out _ aD
 have z_ := bI w1
 have dh := uj (w := w1) (fun u => Sl u (some ⟨b1, 0, none⟩) [18, 16]) JW.out (·.below)
 have dA := uj (w := w1) (fun u => Sl u (some ⟨b2, 0, none⟩) [12, 8, 13]) JP.out (·.below)
 have kA := aa (show ∀ u : World, Hid (Below w1.heap.size w1 u) → Hid (Sh u (some ⟨b3, 0, none⟩) [(1, 5), (2, 7)]) from fun u h => aa ((EU zU.out).below h.out))
 have C8 := aa (show ∀ u : World, Hid (Below w1.heap.size w1 u) → u.cell? ⟨b3, 0, none⟩ = some (.int .i64 1) ∧ u.cell? ⟨b3, 1, none⟩ = some (.int .i64 5) ∧ u.cell? ⟨b3, 2, none⟩ = some (.int .i64 2) ∧ u.cell? ⟨b3, 3, none⟩ = some (.int .i64 7) ∧ u.cell? ⟨b3, 4, none⟩ = some (.int .i64 3) ∧ u.cell? ⟨b3, 5, none⟩ = some (.int .i64 9) from fun u h => ⟨cell_below (ah zU.out 0) h.out, cell_below (ah zU.out 1) h.out, cell_below (ah zU.out 2) h.out, cell_below (ah zU.out 3) h.out, cell_below (ah zU.out 4) h.out, cell_below (ah zU.out 5) h.out⟩)
 clear zc
 obtain ⟨wX, Ei⟩ : ∃ x, ((w1.alloc (aG 23 11 4)).alloc (fB 2 (some ⟨b1, 0, none⟩) 2 2 (some ⟨b2, 0, none⟩) 3 3)) = x := ⟨_, rfl⟩
 have hbx : Below w1.heap.size w1 wX := by rw [← Ei]; exact af (ag _ _) (ag _ _)
 have hcx : wX.cell? ⟨w1.heap.size, 0, none⟩ = some (.int .i64 23) ∧ wX.cell? ⟨w1.heap.size, 1, none⟩ = some (.int .i64 11) ∧ wX.cell? ⟨w1.heap.size, 2, none⟩ = some (.int .i64 4) ∧ wX.cell? ⟨w1.heap.size + 1, 0, none⟩ = some (.int .i64 2) ∧ wX.cell? ⟨w1.heap.size + 1, 1, none⟩ = some (.slice (some ⟨b1, 0, none⟩) 2 2) ∧ wX.cell? ⟨w1.heap.size + 1, 2, none⟩ = some (.slice (some ⟨b2, 0, none⟩) 3 3) := by rw [← Ei]; exact ⟨cell_below (aY rfl (by rfl)) (ag _ _), cell_below (aY rfl (by rfl)) (ag _ _), cell_below (aY rfl (by rfl)) (ag _ _), aY (by simp) (by rfl), aY (by simp) (by rfl), aY (by simp) (by rfl)⟩
 have C9 := aa (show ∀ u : World, Hid (Below wX.heap.size wX u) → u.cell? ⟨w1.heap.size, 0, none⟩ = some (.int .i64 23) ∧ u.cell? ⟨w1.heap.size, 1, none⟩ = some (.int .i64 11) ∧ u.cell? ⟨w1.heap.size, 2, none⟩ = some (.int .i64 4) ∧ u.cell? ⟨w1.heap.size + 1, 0, none⟩ = some (.int .i64 2) ∧ u.cell? ⟨w1.heap.size + 1, 1, none⟩ = some (.slice (some ⟨b1, 0, none⟩) 2 2) ∧ u.cell? ⟨w1.heap.size + 1, 2, none⟩ = some (.slice (some ⟨b2, 0, none⟩) 3 3) from fun u h => by
  obtain ⟨z0, z1, z2, z3, z4, z5⟩ := hcx
  exact ⟨cell_below z0 h.out, cell_below z1 h.out, cell_below z2 h.out, cell_below z3 h.out, cell_below z4 h.out, cell_below z5 h.out⟩)
 have Je := aa Ei
 have KS := aa hcx
 have ak := lV aD hbx
 have sM := lV z_ hbx
 clear hbx Ei hcx
 have sI := bI wX
 have zc := kC.out _ ak
 have ym := C8.out _ sM
 have yo := C9.out _ sI
 go_upto_region 2 with (fail)
 rw [Je.out]
 clear zc ym yo
 have hO := aa (fun (u : World) (h : Hid (Below w0.heap.size w0 u ∧ Below w1.heap.size w1 u ∧ Below wX.heap.size wX u)) => And.intro (C8.out u (aa h.out.2.1)) (C9.out u (aa h.out.2.2)))
 refine mG (fun u => Below w0.heap.size w0 u ∧ Below w1.heap.size w1 u ∧ Below wX.heap.size wX u) [] (bb3 (aa ⟨ak.out, sM.out, sI.out⟩) ((Below.refl _ _).drew)) (fun hHeld => ?_)
 refine aK 0 1 2 3 ?_
 refine eX 4 fun K hK => ?_
 go_simp
 refine (CY b1 b2 b3 _ (kV.out _ (aa hHeld.out.1)) (dh.out _ (aa hHeld.out.2.1)) (dA.out _ (aa hHeld.out.2.1)) (kA.out _ (aa hHeld.out.2.1))).mono ?_
 rintro e wA ⟨rfl, dL⟩
 refine hK.out _ _ (bb3 hHeld dL) (fun hHeld => ?_)
 clear hK K
 refine aK 5 6 7 8 ?_
 refine aM 9 ?_
 refine jD ?_
 clear hO
 have jA := (aa hHeld.out.1)
 have xL := (aa hHeld.out.2.1)
 have xK := (aa hHeld.out.2.2)
 clear hHeld
 have zc := kC.out _ jA
 have ym := C8.out _ xL
 have yo := C9.out _ xK
 go_upto_region 3 with (fail)
 clear zc ym yo
 have hO := aa (fun (u : World) (h : Hid (Below w0.heap.size w0 u ∧ Below w1.heap.size w1 u ∧ Below wX.heap.size wX u)) => And.intro (C8.out u (aa h.out.2.1)) (C9.out u (aa h.out.2.2)))
 refine mG (fun u => Below w0.heap.size w0 u ∧ Below w1.heap.size w1 u ∧ Below wX.heap.size wX u) [] (bb3 (aa ⟨jA.out, xL.out, xK.out⟩) ((Below.refl _ _).drew)) (fun hHeld => ?_)
 refine aM 0 ?_
 refine aM 1 ?_
 refine eX 2 fun K hK => ?_
 go_simp
 refine (dJ 23 11 4 2 (some ⟨b1, 0, none⟩) [18, 16] 2 2 (some ⟨b2, 0, none⟩) [12, 8, 13] 3 3 (aa rfl) (aa rfl) true rT (by omega) _ (kV.out _ (aa hHeld.out.1)) (dh.out _ (aa hHeld.out.2.1)) (dA.out _ (aa hHeld.out.2.1))).mono ?_
 rintro e wA ⟨rfl, dL⟩
 refine hK.out _ _ (bb3 hHeld dL) (fun hHeld => ?_)
 clear hK K
 refine aK 3 4 5 6 ?_
 refine aM 7 ?_
 refine aM 8 ?_
 refine eX 9 fun K hK => ?_
 go_simp
 refine (qy 23 11 4 2 (some ⟨b1, 0, none⟩) [18, 16] 2 2 (some ⟨b2, 0, none⟩) [12, 8, 13] 3 3 (aa rfl) (aa rfl) 1 5 rT true Dq (by omega) _ (kV.out _ (aa hHeld.out.1)) (dh.out _ (aa hHeld.out.2.1)) (dA.out _ (aa hHeld.out.2.1))).mono ?_
 rintro e wA ⟨rfl, dL⟩
 refine hK.out _ _ (bb3 hHeld dL) (fun hHeld => ?_)
 clear hK K
 refine aK 10 11 12 13 ?_
 refine aM 14 ?_
 refine aM 15 ?_
 refine aM 16 ?_
 refine eX 17 fun K hK => ?_
 go_simp
 refine (qy 23 11 4 2 (some ⟨b1, 0, none⟩) [18, 16] 2 2 (some ⟨b2, 0, none⟩) [12, 8, 13] 3 3 (aa rfl) (aa rfl) 3 9 rT true Dp (by omega) _ (kV.out _ (aa hHeld.out.1)) (dh.out _ (aa hHeld.out.2.1)) (dA.out _ (aa hHeld.out.2.1))).mono ?_
 rintro e wA ⟨rfl, dL⟩
 refine hK.out _ _ (bb3 hHeld dL) (fun hHeld => ?_)
 clear hK K
 refine aK 18 19 20 21 ?_
 refine aK 22 23 24 25 ?_
 refine aM 26 ?_
 refine aM 27 ?_
 refine jD ?_
 clear hO
 have xJ := (aa hHeld.out.1)
 have Cc := (aa hHeld.out.2.1)
 have Cb := (aa hHeld.out.2.2)
 clear hHeld
 have zc := kC.out _ xJ
 have ym := C8.out _ Cc
 have yo := C9.out _ Cb
 go_wp2
 go_ret
 exact ⟨rfl, gW az xJ⟩
theorem iT {q a : Int} (h1 : 2 ≤ q) (h : Un q a) : Cg q (dH a q * a) 1 := by
 obtain ⟨y, hy⟩ := h
 have h2 : fV a q (y % q) := ⟨Int.emod_nonneg _ (by omega), Int.emod_lt_of_pos _ (by omega), .inl (by
  rw [((Cg.mod q y).mul (Cg.refl q a)).eq, hy.eq]
  exact Int.emod_eq_of_lt (by omega) (by omega))⟩
 rw [gI h2]
 exact ((Cg.mod q y).mul (Cg.refl q a)).trans hy
abbrev dF (l : List Int) : Nat → Int := fun k => l.getD k 0
def qd (q : Int) (xs ys : List Int) (n : Nat) (f : List Int) : Prop :=
 ∃ kp : Nat → Int, (∀ m, m < n → Cg q (kp m * gp (dF xs) (dF xs m) m) (dF ys m - nw (dF xs) (dF ys) kp (dF xs m) m)) ∧ ∀ X, Cg q (pv f X) (nw (dF xs) (dF ys) kp X n)
theorem pg {xs ys k1 k2 : Nat → Int} {x : Int} : ∀ m, (∀ j, j < m → k1 j = k2 j) → nw xs ys k1 x m = nw xs ys k2 x m
 | 0, _ => rfl
 | m + 1, h => by rw [nw, nw, pg m fun j hj => h j (by omega), h m (by omega)]
theorem tF (q : Int) (xs ys : List Int) : qd q xs ys 0 [] := ⟨fun _ => 0, fun m h => absurd h (by omega), fun X => Cg.refl _ _⟩
theorem tH {q : Int} {xs ys f g f' : List Int} {n : Nat} {k : Int} (h : qd q xs ys n f) (hg : ∀ X, Cg q (pv g X) (gp (dF xs) X n)) (hk : Cg q (k * pv g (dF xs n)) (dF ys n - pv f (dF xs n)))
  (hf : ∀ X, Cg q (pv f' X) (pv f X + k * pv g X)) : qd q xs ys (n + 1) f' := by
 obtain ⟨kp, h1, h2⟩ := h
 have hc : ∀ m, m ≤ n → ∀ X, nw (dF xs) (dF ys) (fun m => if m = n then k else kp m) X m = nw (dF xs) (dF ys) kp X m := fun m hm X => pg m fun j hj => if_neg (by omega)
 refine ⟨fun m => if m = n then k else kp m, fun m hm => ?_, fun X => ?_⟩
 ·
  rw [hc m (by omega)]
  by_cases e : m = n
  ·
   subst e
   dsimp only
   rw [if_pos rfl]
   exact ((Cg.refl q k).mul (hg _).symm).trans (hk.trans ((Cg.refl _ _).sub (h2 _)))
  · dsimp only; rw [if_neg e]; exact h1 m (by omega)
 ·
  rw [nw, hc n (Nat.le_refl _), if_pos rfl]
  exact (hf X).trans ((h2 X).add ((Cg.refl q k).mul (hg X)))
theorem Ap {xs : Nat → Int} {i : Nat} : ∀ m, i < m → gp xs (xs i) m = 0
 | 0, h => absurd h (by omega)
 | m + 1, h => by
  rw [gp]
  by_cases e : i = m
  · subst e; rw [Int.sub_self, Int.mul_zero]
  · rw [Ap m (by omega), Int.zero_mul]
theorem Ae {q : Int} {xs ys kp : Nat → Int} {n : Nat} (h : ∀ m, m < n → Cg q (kp m * gp xs (xs m) m) (ys m - nw xs ys kp (xs m) m)) {i : Nat} : ∀ m, i < m → m ≤ n → Cg q (nw xs ys kp (xs i) m) (ys i)
 | 0, h1, _ => absurd h1 (by omega)
 | m + 1, h1, h2 => by
  rw [nw]
  by_cases e : i = m
  ·
   subst e
   exact ((Cg.refl _ _).add (h i (by omega))).trans (Cg.of_eq (by omega))
  ·
   rw [Ap m (by omega), Int.mul_zero, Int.add_zero]
   exact Ae h m (by omega) (by omega)
theorem yX {q : Int} {xs ys f : List Int} {n : Nat} (h : qd q xs ys n f) {i : Nat} (hi : i < n) : Cg q (pv f (dF xs i)) (dF ys i) := by
 obtain ⟨kp, h1, h2⟩ := h
 exact (h2 _).trans (Ae h1 n hi (Nat.le_refl _))
noncomputable def nD (q t : Int) (xs ys : List Int) : Nat → Int
 | 0 => 0
 | m + 1 => (nD q t xs ys m + jT q xs t m * ys.getD m 0 % q) % q
theorem ku {q : Int} (hq : 2 ≤ q) (t : Int) (xs ys : List Int) : ∀ k, 0 ≤ nD q t xs ys k ∧ nD q t xs ys k < q
 | 0 => ⟨by rw [nD]; omega, by rw [nD]; omega⟩
 | k + 1 => ⟨Int.emod_nonneg _ (by omega), Int.emod_lt_of_pos _ (by omega)⟩
theorem uH (q t : Int) (xs ys : List Int) : ∀ m, Cg q (nD q t xs ys m) (sm (fun k => jT q xs t k * dF ys k) m)
 | 0 => Cg.refl _ _
 | m + 1 => (Cg.mod _ _).trans ((uH q t xs ys m).add (Cg.mod _ _))
theorem vV {q a b c : Int} (h1 : Cg q (a * c) 1) (h2 : Cg q (b * c) 1) : Cg q a b := by
 have q1 : Cg q (a * (b * c)) (a * 1) := (Cg.refl _ _).mul h2
 have q2 : Cg q ((a * c) * b) (1 * b) := h1.mul (Cg.refl _ _)
 rw [Int.mul_one] at q1; rw [Int.one_mul] at q2
 exact q1.symm.trans ((Cg.of_eq (by grind)).trans q2)
theorem nM {q : Int} {xs ys f : List Int} {n : Nat} (hq : 2 ≤ q) (hn : xs.length = n) (h : qd q xs ys n f) (hu : ∀ i j, i < n → j < n → i ≠ j → Un q (dF xs i - dF xs j)) (t : Int) : pv f t % q = nD q t xs ys n := by
 obtain ⟨kp, h1, h2⟩ := h
 have hun : ∀ m k, m ≤ n → k < m → Un q (tp (dF xs) k (dF xs k) m) := fun m k hm hk => uA m fun j hj hjk => hu k j (by omega) (by omega) (Ne.symm hjk)
 have hcg : Cg q (pv f t) (nD q t xs ys n) := by
  have hl := fT (u := fun m k => dH (tp (dF xs) k (dF xs k) m) q) h1 (fun m k hm hk => iT hq (hun m k hm hk)) n (Nat.le_refl _) t
  refine (h2 t).trans (hl.trans ((uF n fun k hk => ?_).trans (uH q t xs ys n).symm))
  have e1 : Cg q (jT q xs t k) (tp (dF xs) k t n * dH (eH q xs k (dF xs k) n) q) := by
   rw [jT, hn]
   exact (Cg.mod _ _).trans ((kg q xs k t n).mul (Cg.refl _ _))
  have u1 : Cg q (dH (eH q xs k (dF xs k) n) q * eH q xs k (dF xs k) n) 1 := iT hq ((hun n k (Nat.le_refl _) hk).cg (kg q xs k _ n).symm)
  have u2 : Cg q (dH (eH q xs k (dF xs k) n) q) (dH (tp (dF xs) k (dF xs k) n) q) :=
   vV (((Cg.refl _ _).mul (kg q xs k (dF xs k) n).symm).trans u1) (iT hq (hun n k (Nat.le_refl _) hk))
  exact (Cg.of_eq (by grind)).trans (((Cg.refl q (dF ys k)).mul ((Cg.refl _ _).mul u2.symm)).trans (((Cg.refl q (dF ys k)).mul e1.symm).trans (Cg.of_eq (by grind))))
 have hb := ku hq t xs ys n
 rw [hcg.eq, Int.emod_eq_of_lt hb.1 hb.2]
structure Pl (q : Int) (m : Nat) (f : List Int) : Prop where
 sc : f.all (aQ q) = true
 len : f.length ≤ m
 trim : f.length = 0 ∨ f.getD (f.length - 1) 0 ≠ 0
theorem Pl.nil (q : Int) (m : Nat) : Pl q m [] := ⟨rfl, Nat.zero_le _, .inl rfl⟩
theorem Pl.mono {q : Int} {m m' : Nat} {f : List Int} (h : Pl q m f) (hm : m ≤ m') : Pl q m' f := ⟨h.sc, Nat.le_trans h.len hm, h.trim⟩
theorem r_ {q : Int} {f : List Int} {n : Nat} {v : Int} (h : f.all (aQ q) = true) (hv : aQ q v = true) : (f.set n v).all (aQ q) = true := by
 rw [List.all_eq_true] at h ⊢
 intro x hx
 rcases List.mem_or_eq_of_mem_set hx with h1 | rfl
 · exact h _ h1
 · exact hv
theorem rz {q x : Int} (h : 1 ≤ q) : aQ q (x % q) = true := by
 have h1 : 0 ≤ x % q := Int.emod_nonneg _ (by omega)
 have h2 : x % q < q := Int.emod_lt_of_pos _ (by omega)
 simp [aQ]; omega
theorem vC {q X c v : Int} {f : List Int} {n : Nat} (hn : n < f.length) (hv : (f.getD n 0 + c) % q = v) : Cg q (pv (f.set n v) X) (pv f X + c * X ^ n) := by
 rw [vB X f n v hn]
 have h1 : Cg q v (f.getD n 0 + c) := (Cg.of_eq hv.symm).trans (Cg.mod _ _)
 exact ((Cg.refl q (pv f X)).add (((h1.sub (Cg.refl q (f.getD n 0))).mul (Cg.refl q (X ^ n))))).trans (Cg.of_eq (by rw [show f.getD n 0 + c - f.getD n 0 = c by omega]))
theorem tY {q : Int} (h : 1 ≤ q) (n : Nat) : (List.replicate n (0 : Int)).all (aQ q) = true := by
 rw [List.all_eq_true]
 intro x hx
 rw [(List.mem_replicate.1 hx).2]
 simp [aQ]; omega
abbrev gz (l : List (Int × Int)) (k : Nat) : Int × Int := l.getD k (0, 0)
def bG (Q : Int) (kn : Nat) (p : Int × Int) : Bool := dU kn p.1 && aQ Q p.2
def valOf : List (Int × Int) → Int → Option Int
 | [], _ => none
 | p :: t, x => if p.1 = x then some p.2 else valOf t x
def pts (l : List (Int × Int)) : Nat → List (Int × Int)
 | 0 => []
 | k + 1 => match valOf (pts l k) (gz l k).1 with
  | some _ => pts l k
  | none => pts l k ++ [gz l k]
def bP (l : List (Int × Int)) : Nat → Bool
 | 0 => true
 | k + 1 => bP l k && (match valOf (pts l k) (gz l k).1 with
  | some v => v == (gz l k).2
  | none => true)
theorem mR {l : List (Int × Int)} {k : Nat} (h : bP l k = false) : ∀ m, k ≤ m → bP l m = false
  | 0, hm => by obtain rfl : k = 0 := by omega
                exact h
  | m + 1, hm => by
    by_cases e : k = m + 1
    · rw [← e]; exact h
    · rw [bP, mR h m (by omega)]; rfl
theorem nI (l : List (Int × Int)) : ∀ k, (pts l k).length ≤ k
 | 0 => Nat.le_refl _
 | k + 1 => by
  have := nI l k
  rw [pts]
  split
  · omega
  · rw [List.length_append]; simp; omega
theorem nH {l : List (Int × Int)} : ∀ k, k ≤ l.length → ∀ p ∈ pts l k, p ∈ l
 | 0, _, p, hp => by cases hp
 | k + 1, hk, p, hp => by
  rw [pts] at hp
  split at hp
  · exact nH k (by omega) p hp
  ·
   rcases List.mem_append.1 hp with h | h
   · exact nH k (by omega) p h
   ·
    rw [List.mem_singleton.1 h, gz, List.getD_eq_getElem?_getD, List.getElem?_eq_getElem (by omega)]
    exact List.getElem_mem _
theorem qx {D : List (Int × Int)} {x : Int} (h : valOf D x = none) : ∀ j, j < D.length → (gz D j).1 ≠ x := by
 induction D with
 | nil => exact fun j hj => absurd hj (by simp)
 | cons p t ih =>
  rw [valOf] at h
  split at h
  · cases h
  ·
   rename_i hne
   intro j hj
   cases j with
   | zero => exact hne
   | succ j => exact ih h j (by simpa using hj)
theorem qw {D : List (Int × Int)} {x v : Int} (h : valOf D x = some v) : ∃ j, j < D.length ∧ (gz D j).1 = x ∧ (gz D j).2 = v := by
 induction D with
 | nil => cases h
 | cons p t ih =>
  rw [valOf] at h
  split at h
  ·
   rename_i he
   exact ⟨0, by simp, he, by simpa using h⟩
  ·
   obtain ⟨j, hj, h1, h2⟩ := ih h
   exact ⟨j + 1, by simpa using hj, h1, h2⟩
theorem jh {D : List (Int × Int)} {p : Int × Int} {j : Nat} (h : j < D.length) : gz (D ++ [p]) j = gz D j := by
 rw [gz, gz, List.getD_eq_getElem?_getD, List.getD_eq_getElem?_getD, List.getElem?_append_left h]
theorem sQ {D : List (Int × Int)} {p : Int × Int} : gz (D ++ [p]) D.length = p := by
 rw [gz, List.getD_eq_getElem?_getD, List.getElem?_append_right (Nat.le_refl _), Nat.sub_self]; rfl
theorem nG (l : List (Int × Int)) : ∀ k i j, i < (pts l k).length → j < i → (gz (pts l k) i).1 ≠ (gz (pts l k) j).1
 | 0, i, j, hi, _ => absurd hi (by simp [pts])
 | k + 1, i, j, hi, hj => by
  cases hv : valOf (pts l k) (gz l k).1 with
  | some v =>
   rw [pts, hv] at hi ⊢
   exact nG l k i j hi hj
  | none =>
   have he : pts l (k + 1) = pts l k ++ [gz l k] := by rw [pts, hv]
   rw [he] at hi ⊢
   rw [List.length_append] at hi
   by_cases e : i = (pts l k).length
   ·
    rw [e, sQ, jh (by omega)]
    exact (qx hv j (by omega)).symm
   ·
    have hi2 : i < (pts l k).length := by simp at hi; omega
    rw [jh hi2, jh (by omega)]
    exact nG l k i j hi2 hj
theorem vU (l : List (Int × Int)) (k : Nat) : aP (ixs (pts l k)) := fun i j hi hj => by
 rw [List.length_map] at hi
 rw [gQ hi, gQ (by omega)]
 exact nG l k i j hi hj
def lY (Q : Int) : Nat → Option Int
 | 0 => some 1
 | k + 1 => match lY Q k with
  | none => none
  | some n => if 2305843009213693951 / Q < n then none else some (n * Q)
theorem kG {Q : Int} {k : Nat} (h : lY Q k = none) : ∀ m, k ≤ m → lY Q m = none
  | 0, hm => by obtain rfl : k = 0 := by omega
                exact h
  | m + 1, hm => by
    by_cases e : k = m + 1
    · rw [← e]; exact h
    · rw [lY, kG h m (by omega)]
theorem dS {Q : Int} (hQ : 2 ≤ Q) : ∀ k n, lY Q k = some n → 1 ≤ n ∧ n < 2305843009213693952
 | 0, n, h => by cases h; omega
 | k + 1, n, h => by
  rw [lY] at h
  cases hp : lY Q k with
  | none => rw [hp] at h; cases h
  | some m =>
   rw [hp] at h
   dsimp only at h
   split at h
   · cases h
   ·
    rename_i hle
    cases h
    obtain ⟨m1, _⟩ := dS hQ k m hp
    have h1 : m * Q ≤ 2305843009213693951 / Q * Q := Int.mul_le_mul_of_nonneg_right (by omega) (by omega)
    have h2 : 2305843009213693951 / Q * Q ≤ 2305843009213693951 := Int.ediv_mul_le _ (by omega)
    have h3 : 1 * 2 ≤ m * Q := Int.mul_le_mul m1 hQ (by omega) (by omega)
    omega
noncomputable def gq (Q : Int) (D : List (Int × Int)) (m : Nat) : Nat → Bool
 | 0 => true
 | k + 1 => gq Q D m k && (decide (k < m) || nD Q ((ixs D).getD k 0) ((ixs D).take m) (aS D) m == (aS D).getD k 0)
theorem jy {Q : Int} {D : List (Int × Int)} {m k : Nat} (h : gq Q D m k = false) : ∀ j, k ≤ j → gq Q D m j = false
  | 0, hm => by obtain rfl : k = 0 := by omega
                exact h
  | j + 1, hm => by
    by_cases e : k = j + 1
    · rw [← e]; exact h
    · rw [gq, jy h j (by omega)]; rfl
noncomputable def jl (Q : Int) (m kn : Nat) (l : List (Int × Int)) : Int :=
 if l.all (bG Q kn) = true then (if bP l l.length = true then (if m < (pts l l.length).length then 0 else if (lY Q (m - (pts l l.length).length)).isNone = true then 9 else 0) else 0) else 2
noncomputable def jk (Q : Int) (m kn : Nat) (l : List (Int × Int)) : Int :=
 if l.all (bG Q kn) = true then (if bP l l.length = true then (if m < (pts l l.length).length then (if gq Q (pts l l.length) m (pts l l.length).length = true then 1 else 0) else (lY Q (m - (pts l l.length).length)).getD 0) else 0) else 0
end Go.Proofs.YtchcllcbknfikaaGreatDoor
namespace Go.Proofs.YtchcllcbknfikaaGreatDoor
open Go Go.RowKit jK
theorem sU {n : Nat} {P : Program} {row : String} {args : Array Value} {w : World} {R : Value → World → Prop} (l : Nat) (h : Rows P row args w R) : RowsIn (Fence.wide.inRound l) n P row args w R :=
 fun c cs _ => let ⟨v, w', r, s⟩ := h c cs; ⟨v, w', r, stepsIn_wide.2 s⟩
theorem vI {P : Program} {o : Oper} {a : Act} {w : World} {K : Act → World → Prop} {Q : Exit → Act → World → Prop} (l n : Nat) (hd : ∀ c, o.op ≠ .defer c) (h : o.wp P a w K Q) : o.wpIn (Fence.wide.inRound l) n P a w K Q := by
 refine ⟨fun _ _ => trivial, ?_⟩
 rw [Fence.inRound_round, Oper.semAt_some l a.eval o hd]
 unfold Oper.wp at h
 generalize (execOp a.eval o).run P w = r at *
 cases r with
 | ok x w' =>
  cases x <;> simp only [Oper.upon, Oper.uponIn] at h ⊢ <;>
   first
    | exact h
    | exact h.elim
    | exact ⟨fun e => (by cases e), CallsIn.inRound l (callsIn_wide.2 h)⟩
    | exact ⟨fun e => (by cases e), sU l h⟩
 | halt x w' => cases x <;> simp only [Oper.upon, Oper.uponIn] at h ⊢ <;> first | exact h | exact h.elim
def iP (ops : Array Oper) : Bool := ops.all fun o => match o.op with | .defer _ => false | _ => true
theorem nN {ops : Array Oper} (h : iP ops = true) {i : Nat} {o : Oper} (ho : ops[i]? = some o) (c : Call) : o.op ≠ .defer c := fun e => by
 unfold iP at h
 rw [Array.all_eq_true] at h
 obtain ⟨hi, hv⟩ := Array.getElem?_eq_some_iff.1 ho
 have h2 := h i hi
 rw [hv, e] at h2
 cases h2
section
variable {P : Program} {ops : Array Oper} {Q : Exit → Act → World → Prop} {md : Region.Mode}
theorem Bq {i : Nat} {a : Act} {w : World} {K K' : Act → World → Prop} (l n : Nat) (hd : iP ops = true) (hQ : ¬ LetsOut Q) (hK : ∀ a w, K a w → K' a w) (h : wpOp P ops Q i K a w) : wpOpIn (Fence.wide.inRound l) n P ops Q i K' a w := by
 unfold wpOp at h
 unfold wpOpIn
 cases ho : ops[i]? with
 | none => simp only [ho] at h ⊢; exact hK _ _ h
 | some o =>
  simp only [ho] at h ⊢
  split
  ·
   rename_i hw
   rw [if_pos hw] at h
   exact Oper.wpIn_mono hK (vI l n (nN hd ho) (h.resolve_right fun e => hQ e.2))
  ·
   rename_i hw
   rw [if_neg hw] at h
   exact ⟨fun _ _ => trivial, hK _ _ h⟩
theorem r9 (l n : Nat) (hd : iP ops = true) (hQ : ¬ LetsOut Q) : ∀ (fuel : Nat) (listed : Array Bool) (a : Act) (w : World), wpAny P md ops Q fuel listed a w → wpAnyIn (Fence.wide.inRound l) n P md ops Q fuel listed a w
 | 0, _, _, _, h => h
 | fuel + 1, _, _, _, h => ⟨h.1, fun i hi => Bq l n hd hQ (fun a w => r9 l n hd hQ fuel _ a w) (h.2 i hi)⟩
theorem EW {id : Nat} {a : Act} {w : World} (l n : Nat) (B : World → Prop) (E : List Nat) (hQ : ¬ LetsOut Q) (hS : Hid (B w.drew)) (h : Hid (B w.drew) → eG P .any ops Q (fun u => Hid (B u)) E ops.size (Array.replicate ops.size false) a w.drew)
  (hd : iP ops = true := by kernel_rfl) (hm : P.follows .mixedOrders = true := by kernel_rfl) : (Code.region id ops true).wpIn (Fence.wide.inRound l) n P Q a w :=
 wpIn_region_any hm (r9 l n hd hQ _ _ _ _ (iy _ _ _ _ (h hS)))
end
def xm {α : Type} (f : Nat → α) (n k : Nat) : List α := (List.range k).map fun j => f (n - 1 - j)
theorem lH {α : Type} (f : Nat → α) (n k : Nat) : xm f n (k + 1) = xm f n k ++ [f (n - 1 - k)] := by simp [xm, List.range_succ]
theorem qX {α : Type} (f : Nat → α) (n k : Nat) : (xm f n k).length = k := by simp [xm]
def sF (N y : Nat) (W W' : World) : Prop := W.heap.size ≤ W'.heap.size ∧ ∀ b, b < N → b ≠ y → W'.heap[b]? = W.heap[b]?
theorem sF.refl (N y : Nat) (W : World) : sF N y W W := ⟨Nat.le_refl _, fun _ _ _ => rfl⟩
theorem sF.trans {N y : Nat} {A B C : World} (h : sF N y A B) (k : sF N y B C) : sF N y A C := ⟨Nat.le_trans h.1 k.1, fun b h1 h2 => (k.2 b h1 h2).trans (h.2 b h1 h2)⟩
theorem rX {W W' : World} {b : Nat} (h : W'.heap[b]? = W.heap[b]?) (j : Nat) : W'.cell? ⟨b, j, none⟩ = W.cell? ⟨b, j, none⟩ := by simp [World.cell?, h]
theorem sF.cell {N y : Nat} {W W' : World} (h : sF N y W W') {b j : Nat} {v : Value} (h1 : b < N) (h2 : b ≠ y) (hc : W.cell? ⟨b, j, none⟩ = some v) : W'.cell? ⟨b, j, none⟩ = some v := (rX (h.2 b h1 h2) j).trans hc
attribute [local go_sem] Oper.semAt_some
theorem zD {α : Type} (f : Nat → α) (encs : α → Array Value) (n : Nat) (hn : 1 ≤ n) (l Bs n₀ y b off len cap : Nat) (zs : List Int) (hf : ∀ j, j < len → encs (f j) = #[.int .i64 (j : Int), .int .i64 (zs.getD j 0)]) (wC : len ≤ 1000000) (hb : b < n₀) (hby : b ≠ y) (hB : Bs < n₀) (FJ : Bs ≠ y) (J Jx : List α → World → Prop)
  (hY : ∀ pre x W, J pre W → pre.length < len → YieldAt Fence.wide (n - 1) Tryz.prog l (encs x) W fun e W' =>
   (e = .returned (.bool true) ∧ J (pre ++ [x]) W' ∧ sF n₀ y W W') ∨ (e = .returned (.bool false) ∧ Jx (pre ++ [x]) W'))
  (W : World) (Er : W.cell? ⟨Bs, 0, none⟩ = some (.slice (some ⟨b, off, none⟩) len cap)) (hc : ∀ j, j < len → W.cell? ⟨b, off + j, none⟩ = some (.int .i64 (zs.getD j 0))) (h0 : J [] W) :
  CallsIn Fence.wide n Tryz.prog 186 #[.func (.yield l) #[] #[], .pointer (some ⟨Bs, 0, none⟩)] W fun e W' => (∃ v, e = .returned v) ∧
   ((∃ ys, ys = xm f len len ∧ J ys W') ∨ (∃ pre, (∃ k, k ≤ len ∧ pre = xm f len k) ∧ Jx pre W')) := by
 refine callsIn_of_wp Tryz.func186 rfl trivial ?_ rfl
 simp only [Tryz.ntmps186, List.size_toArray, List.length_cons, List.length_nil, Nat.reduceAdd, Nat.reduceSub, Array.replicate_succ, Array.replicate_zero, List.push_toArray, List.append_toArray, List.nil_append, List.cons_append]
 gi_wp2
 gi_loopw [3] (fun i wr => ∃ k : Nat, k ≤ len ∧ i = .int .i64 ((len : Int) - 1 - (k : Int)) ∧ J (xm f len k) wr ∧ sF n₀ y W wr)
  (fun i _ => (intOf i + 1).toNat)
 case atStart => exact ⟨0, Nat.zero_le _, by simp, h0, sF.refl _ _ _⟩
 case round =>
  obtain ⟨k, hk, rfl, hJs, hnx⟩ := hrel
  have hBw := hnx.cell hB FJ Er
  by_cases hlt : k < len
  ·
   have hcx : wr.cell? ⟨b, off + (len - 1 - k), none⟩ = some (.int .i64 (zs.getD (len - 1 - k) 0)) := hnx.cell hb hby (hc _ (by omega))
   obtain ⟨j, hj⟩ : ∃ j, len - 1 - k = j := ⟨_, rfl⟩
   have e1 : (len : Int) - 1 - (k : Int) = (j : Int) := by omega
   rw [hj] at hcx
   have hj2 : j < len := by omega
   obtain ⟨v, hv⟩ : ∃ v, zs.getD j 0 = v := ⟨_, rfl⟩
   have hY2 := hY _ (f j) wr hJs (by rw [qX]; exact hlt)
   rw [hf j hj2, hv] at hY2
   obtain ⟨fn, tmps, assign, body, hy, hR⟩ := hY2
   rw [hv] at hcx
   have hv := aa hv
   rw [e1]
   gi_wp2
   refine hR.mono ?_
   rintro e W3 (⟨rfl, hJ3, hk3⟩ | ⟨rfl, hJx3⟩)
   ·
    gi_wp2
    go_roundw
    case rel => exact ⟨k + 1, by omega, by simp <;> omega, by rw [lH, hj]; exact hJ3, hnx.trans hk3⟩
    case measure => simp [intOf] <;> omega
   ·
    gi_wp2
    refine bodyPost_ret (results_none rfl _ _ _) rfl ?_
    exact ⟨⟨_, rfl⟩, .inr ⟨_, ⟨k + 1, by omega, by rw [lH, hj]⟩, hJx3⟩⟩
  ·
   obtain rfl : k = len := by omega
   have e1 : (k : Int) - 1 - (k : Int) = -1 := by omega
   rw [e1]
   gi_wp2
   go_end0
   exact ⟨⟨_, rfl⟩, .inl ⟨_, rfl, hJs⟩⟩
theorem xh {α : Type} (n : Nat) (l Bs : Nat) (A : Option Addr) (cap : Nat) (J : List α → World → Prop) (W : World) (Er : W.cell? ⟨Bs, 0, none⟩ = some (.slice A 0 cap)) (h0 : J [] W) :
  CallsIn Fence.wide n Tryz.prog 186 #[.func (.yield l) #[] #[], .pointer (some ⟨Bs, 0, none⟩)] W fun e W' => (∃ v, e = .returned v) ∧ J [] W' := by
 refine callsIn_of_wp Tryz.func186 rfl trivial ?_ rfl
 simp only [Tryz.ntmps186, List.size_toArray, List.length_cons, List.length_nil, Nat.reduceAdd, Nat.reduceSub, Array.replicate_succ, Array.replicate_zero, List.push_toArray, List.append_toArray, List.nil_append, List.cons_append]
 gi_wp2
 gi_loopw [3] (fun i wr => i = .int .i64 (-1) ∧ J [] wr) (fun _ _ => 0)
 case atStart => exact ⟨rfl, h0⟩
 case round =>
  obtain ⟨rfl, hJs⟩ := hrel
  gi_wp2
  go_end0
  exact ⟨⟨_, rfl⟩, hJs⟩
theorem BN (n : Nat) (a : Option Addr) (len cap : Nat) (w : World) :
  CallsIn Fence.wide n Tryz.prog 152 #[.slice a len cap] w fun e w' => e = .returned (.func (.func 186) #[] #[.pointer (some ⟨w.heap.size, 0, none⟩)]) ∧ w' = w.alloc (.cells #[.slice a len cap] 24) := by
 refine callsIn_of_wp Tryz.func152 rfl trivial ?_ rfl
 simp only [Tryz.ntmps152, List.size_toArray, List.length_cons, List.length_nil, Nat.reduceAdd, Nat.reduceSub, Array.replicate_succ, Array.replicate_zero, List.push_toArray, List.append_toArray, List.nil_append, List.cons_append]
 gi_wp2
 go_ret
 exact ⟨rfl, rfl⟩
def Av (N y : Nat) (W : World) (A : Option Addr) (zs : List Int) : Prop :=
 zs = [] ∨ ∃ b off, A = some ⟨b, off, none⟩ ∧ b < N ∧ b ≠ y ∧ ∀ j, j < zs.length → W.cell? ⟨b, off + j, none⟩ = some (.int .i64 (zs.getD j 0))
theorem vZ {w W : World} {N y : Nat} {A : Option Addr} {zs : List Int} (h : Sl w A zs) (hb : Below w.heap.size w W) (hN : w.heap.size ≤ N) (hy : w.heap.size ≤ y) : Av N y W A zs := by
 by_cases e : zs.length = 0
 · exact .inl (List.length_eq_zero_iff.1 e)
 ·
  obtain ⟨b, o, h1, h2⟩ := h 0 (by omega)
  have hlt := World.block_lt_of_cell? _ _ h2
  dsimp only at hlt
  refine .inr ⟨b, o, h1, by omega, by omega, fun j hj => ?_⟩
  obtain ⟨b', o', h3, h4⟩ := h.below hb j hj
  rw [h1] at h3
  injection h3 with h3
  injection h3 with e1 e2
  rw [e1, e2]; exact h4
theorem tV {α : Type} (f : Nat → α) (encs : α → Array Value) (n : Nat) (hn : 1 ≤ n) (Bs N y : Nat) (A : Option Addr) (m cap : Nat) (zs : List Int) (hm : zs.length = m) (hf : ∀ j, j < m → encs (f j) = #[.int .i64 (j : Int), .int .i64 (zs.getD j 0)]) (wC : m ≤ 1000000) (w : World) (Er : Bs < w.heap.size) (hN : N ≤ w.heap.size) (hB : Bs < N) (FJ : Bs ≠ y)
  (hc : w.cell? ⟨Bs, 0, none⟩ = some (.slice A m cap)) (hI : Av N y w A zs) :
  SeqStopsK Fence.wide n Tryz.prog 186 #[.pointer (some ⟨Bs, 0, none⟩)] encs (sF N y) (fun ys => ys = xm f m m)
   (fun pre => ∃ k, k ≤ m ∧ pre = xm f m k) m w := fun l J Jx W hW _ _ hY h0 => by
 have hc' := (hW.cell (p := ⟨Bs, 0, none⟩) Er).trans hc
 rcases hI with rfl | ⟨b, off, rfl, hb, hby, hcs⟩
 ·
  obtain rfl : 0 = m := hm
  exact (xh n l Bs A cap J W hc' h0).mono fun e W' ⟨he, hj⟩ => ⟨he, .inl ⟨_, rfl, hj⟩⟩
 · exact zD f encs n hn l Bs N y b off m cap zs hf wC hb hby hB FJ J Jx hY W hc' (fun j hj => (hW.cell (p := ⟨b, off + j, none⟩) (Nat.lt_of_lt_of_le hb hN)).trans (hcs j (by omega))) h0
theorem CZ {N y : Nat} (W : World) (l : Nat) (o : Obj) (h : N ≤ l) : sF N y W (W.putObj l o) :=
 ⟨by simp [World.putObj], fun b h1 h2 => by simp [World.putObj, Array.getElem?_setIfInBounds]; omega⟩
def rU (q x : Int) (zs : List Int) : Nat → Int
 | 0 => 0
 | k + 1 => (rU q x zs k * x % q + zs.getD (zs.length - 1 - k) 0) % q
theorem kT {q : Int} (hq : 1 ≤ q) (x : Int) (zs : List Int) : ∀ k, 0 ≤ rU q x zs k ∧ rU q x zs k < q
 | 0 => ⟨Int.le_refl _, by rw [rU]; omega⟩
 | k + 1 => ⟨Int.emod_nonneg _ (by omega), Int.emod_lt_of_pos _ (by omega)⟩
abbrev Cr (q : Int) := { v : Nat × Int // 0 ≤ v.2 ∧ v.2 < q }
def Ar (q x : Int) (l : List (Cr q)) : Int := l.foldl (fun y c => (y * x % q + c.1.2) % q) 0
theorem kU (q x : Int) (l : List (Cr q)) (c : Cr q) : Ar q x (l ++ [c]) = (Ar q x l * x % q + c.1.2) % q := by simp [Ar]
theorem qM {q : Int} (hq : 1 ≤ q) (x : Int) (l : List (Cr q)) : 0 ≤ Ar q x l ∧ Ar q x l < q := by
 rcases List.eq_nil_or_concat l with rfl | ⟨l', c, rfl⟩
 · exact ⟨Int.le_refl _, by show (0 : Int) < q; omega⟩
 ·
  rw [List.concat_eq_append, kU]
  exact ⟨Int.emod_nonneg _ (by omega), Int.emod_lt_of_pos _ (by omega)⟩
theorem rV {q : Int} (x : Int) (zs : List Int) (f : Nat → Cr q) (hf : ∀ j, (f j).1.2 = zs.getD j 0) (n : Nat) (hn : zs.length = n) : ∀ k, Ar q x (xm f n k) = rU q x zs k
 | 0 => rfl
 | k + 1 => by rw [lH, kU, rV x zs f hf n hn k, rU, hf, hn]
attribute [local go_sem] Oper.semAt_some
theorem jm (q : Int) (A : Option Addr) (zs : List Int) (n c : Nat) (x : Int) (h1 : 1 ≤ q) (h2 : q < 2305843009213693952) (hs : Hid (zs.all (aQ q) = true)) (hn : Hid (zs.length = n)) (hbig : n ≤ 1000000) (hx0 : 0 ≤ x) (hx1 : x < q) (w : World) (hS : Hid (Sl w A zs)) :
  Calls Tryz.prog 98 #[.int .i64 q, .slice A n c, .int .i64 x] w (Rt w (.int .i64 (rU q x zs n))) := by
 refine (callsIn_wide (n := 9)).1 ?_
 refine callsIn_of_wp_marks Tryz.func98 rfl trivial ?_ rfl
 simp only [Tryz.ntmps98, List.size_toArray, List.length_cons, List.length_nil, Nat.reduceAdd, Nat.reduceSub, Array.replicate_succ, Array.replicate_zero, List.push_toArray, List.append_toArray, List.nil_append, List.cons_append]
 gi_wp2_with (refine ⟨trivial, ?_⟩; gi_at_call 152; refine (BN 8 _ _ _ _).mono ?_; rintro e w' ⟨rfl, rfl⟩)
 obtain ⟨w1, HW, az, kC⟩ := Iz (.cells #[.int .i64 q] 3) FQ (.cells #[.int .i64 x] 3) FQ (.cells #[.int .i64 0] 3) FQ (.cells #[.slice A n c] 24) I8 w
 have hsz : w1.heap.size = w.heap.size + 4 := by rw [← HW.out]; simp
 have hyb : w1.heap[w.heap.size + 2]? = some (.cells #[.int .i64 0] 3) := by
  rw [← HW.out, Below.heap_alloc _ _ _ (by simp), show w.heap.size + 2 = ((w.alloc (.cells #[.int .i64 q] 3)).alloc (.cells #[.int .i64 x] 3)).heap.size by simp]
  exact heap_alloc_new _ _
 obtain ⟨c0, c1, c2, c3⟩ := kC.out _ (bI w1)
 have f2 : w1.frozen? ⟨w.heap.size + 2, 0, none⟩ = false := dV hyb 0
 have hsc : ∀ j, 0 ≤ zs.getD j 0 ∧ zs.getD j 0 < q := fun j => by
  by_cases hj : j < zs.length
  ·
   have h9 := (List.all_eq_true.1 hs.out) (zs.getD j 0) (by rw [List.getD_eq_getElem?_getD, List.getElem?_eq_getElem hj]; exact List.getElem_mem _)
   simpa [aQ] using h9
  ·
   rw [List.getD_eq_getElem?_getD, List.getElem?_eq_none (by omega)]
   exact ⟨Int.le_refl _, by show (0 : Int) < q; omega⟩
 obtain ⟨f, GY⟩ : ∃ f : Nat → Cr q, ∀ j, (f j).1 = (j, zs.getD j 0) := ⟨fun j => ⟨(j, zs.getD j 0), hsc j⟩, fun _ => rfl⟩
 simp only [show w.heap.size + 1 + 1 = w.heap.size + 2 from rfl, show w.heap.size + 2 + 1 = w.heap.size + 3 from rfl]
 rw [HW.out]
 have hQn : ¬ (q = 0) := by omega
 have Am : ((q : Int) == 0) = false := by simp; omega
 refine wpIn_rangeFunc_ownG rfl (show 1 ≤ 9 by decide) (gf := 186) (lb := #[.pointer (some ⟨w.heap.size + 3, 0, none⟩)]) rfl trivial (enters_of Tryz.func186 (by kernel_rfl) rfl)
  (tV f (fun v : Cr q => #[Value.int .i64 (v.1.1 : Int), Value.int .i64 v.1.2]) 8 (by decide) (w.heap.size + 3) (w.heap.size + 4) (w.heap.size + 2) A n c zs hn.out (fun j _ => by rw [GY j]) hbig w1 (by omega) (by omega) (by omega) (by omega) c3 (vZ hS.out az.out (by omega) (by omega)))
  (fun h k => h.trans k) (fun W l o o' hl _ _ _ => CZ W l o' (by omega)) (Below.refl _ _) (fun _ => rfl)
  (fun pre W => W.cell? ⟨w.heap.size + 2, 0, none⟩ = some (.int .i64 (Ar q x pre)) ∧ W.frozen? ⟨w.heap.size + 2, 0, none⟩ = false ∧ W.cell? ⟨w.heap.size, 0, none⟩ = some (.int .i64 q) ∧ W.cell? ⟨w.heap.size + 1, 0, none⟩ = some (.int .i64 x) ∧ Below w.heap.size w W ∧ w.heap.size + 4 ≤ W.heap.size)
  (fun _ _ _ => False)
  (fun s W W' row hs hg hr => ⟨cell_kept hs.1 hg (fun r e => (hr r e).2), (frozen_kept hs.1 hg (fun r e => (hr r e).2)).trans hs.2.1, cell_kept hs.2.2.1 hg (fun r e => (hr r e).2), cell_kept hs.2.2.2.1 hg (fun r e => (hr r e).2), hs.2.2.2.2.1.grown hg hs.2.2.2.2.1.size (fun k e => by have := (hr k e).1; omega), Nat.le_trans hs.2.2.2.2.2 hg.size⟩)
  (fun _ _ _ _ _ hs _ _ => hs)
  ⟨c2, f2, c0, c1, az.out, by omega⟩
  (fun v => { tmps := #[.int .i64 q, .slice A n c, .int .i64 x, .pointer (some ⟨w.heap.size, 0, none⟩), undef, .pointer (some ⟨w.heap.size + 1, 0, none⟩), .int .i64 0, .pointer (some ⟨w.heap.size + 2, 0, none⟩), undef, .int .i64 v.1.2, .slice A n c, .func (.func 186) #[] #[.pointer (some ⟨w.heap.size + 3, 0, none⟩)], .int .i64 (v.1.1 : Int), .int .i64 v.1.2, undef, undef, undef, undef, undef, undef, undef, undef, undef], defers := [] }) ?assign ?body ?done ?stop
 case assign =>
  intro l x W K hK
  gi_wp2
  exact hK
 case body =>
  rintro l pre ⟨⟨ix, v⟩, v0, v1⟩ W ⟨hy, hf, hq, hx, hB, Kr⟩ _
  dsimp only at v0 v1 ⊢
  obtain ⟨Y, hY⟩ : ∃ Y, Ar q x pre = Y := ⟨_, rfl⟩
  obtain ⟨Y0, Y1⟩ := qM h1 x pre
  rw [hY] at hy Y0 Y1
  obtain ⟨M, hM⟩ : ∃ M, Y * x % q = M := ⟨_, rfl⟩
  have M0 : 0 ≤ M := by rw [← hM]; exact Int.emod_nonneg _ (by omega)
  have M1 : M < q := by rw [← hM]; exact Int.emod_lt_of_pos _ (by omega)
  obtain ⟨R, hR⟩ : ∃ R, (M + v) % q = R := ⟨_, rfl⟩
  have R0 : 0 ≤ R := by rw [← hR]; exact Int.emod_nonneg _ (by omega)
  have R1 : R < q := by rw [← hR]; exact Int.emod_lt_of_pos _ (by omega)
  have HR := aa hR
  have HM := aa hM
  have HY := aa hY
  have d1 : IntKind.i64.wrap (M + v) = M + v := IntWalk.i64_in _ (by omega)
  have e1 : wrap64 (M + v) = M + v := IntWalk.wrap64_in _ (by omega)
  have Ai : (M + v).tmod q = R := ek (by omega) hR
  have hwt : IntKind.i64.wrap R = R := IntWalk.i64_in _ (by omega)
  have BA : wrap64 R = R := IntWalk.wrap64_in _ (by omega)
  clear hR hM hY
  have hO : Hid (∀ u, Hid (Below W.heap.size W u) → u.cell? ⟨w.heap.size, 0, none⟩ = some (.int .i64 q) ∧ u.cell? ⟨w.heap.size + 2, 0, none⟩ = some (.int .i64 Y) ∧ u.cell? ⟨w.heap.size + 1, 0, none⟩ = some (.int .i64 x)) :=
   aa (fun u h => ⟨(h.out.cell (World.block_lt_of_cell? _ _ hq)).trans hq, (h.out.cell (World.block_lt_of_cell? _ _ hy)).trans hy, (h.out.cell (World.block_lt_of_cell? _ _ hx)).trans hx⟩)
  refine wpIn_block ?_
  refine EW l _ (fun u => Below W.heap.size W u) [8] (fun ⟨_, _, h⟩ => h) (aa (Below.refl _ _).drew) (fun hHeld => ?_)
  refine aK 0 1 2 4 ?_
  refine aM 6 ?_
  have FB := hHeld
  refine eX 3 fun K hK => ?_
  go_simp
  refine (dN q Y x M HM h2 Y0 Y1 hx0 hx1 _).mono ?_
  rintro e u1 ⟨rfl, hq1⟩
  have lN := aa (af FB.out hq1)
  refine hK.out _ _ lN (fun hHeld => ?_)
  clear hK K
  try simp only [qq]
  refine aM 5 ?_
  refine aM 7 ?_
  refine GD 8 fun K hK => ?_
  have ER := (lN.out.cell (World.block_lt_of_cell? _ _ hy)).trans hy
  have FN := (lN.out.frozen (World.block_lt_of_cell? _ _ hy)).trans hf
  go_simp
  refine hK.out _ _ ?_
  clear hK K
  try simp only [qq]
  refine jD ?_
  have hyl := World.block_lt_of_cell? _ _ hy
  dsimp only at hyl
  have hz := lN.out.size
  have q7 := (lN.out.cell (World.block_lt_of_cell? _ _ hq)).trans hq
  have x7 := (lN.out.cell (World.block_lt_of_cell? _ _ hx)).trans hx
  show KeepsFrom _ _ _ ∧ sF _ _ _ _ ∧ _
  refine ⟨⟨by simpa using hz, fun k o hk hko _ => (Go.Deep.blk_setCell_other _ _ _ _ (show k ≠ w.heap.size + 2 by omega)).trans ((lN.out.block k (Array.getElem?_eq_some_iff.1 hko).1).trans hko)⟩,
   ⟨by simpa using hz, fun b b1 b2 => (Go.Deep.blk_setCell_other _ _ _ _ b2).trans (lN.out.block b (by have := hB.size; omega))⟩, ?_⟩
  refine ⟨?_, ?_, ?_, ?_, ?_, by simp; omega⟩
  ·
   rw [kU, HY.out]
   show _ = some (Value.int .i64 ((Y * x % q + v) % q))
   rw [HM.out, HR.out]
   exact World.cell?_setCell_same _ _ _ ER
  · rw [World.frozen?_setCell]; exact FN
  · rw [World.cell?_setCell_other _ _ _ _ (by simp)]; exact q7
  · rw [World.cell?_setCell_other _ _ _ _ (by simp)]; exact x7
  · exact (hB.trans (lN.out.mono hB.size)).setCell (by show w.heap.size ≤ w.heap.size + 2; omega) _
 case done =>
  rintro D ys W hD rfl ⟨hy, _, _, _, hB, _⟩ hK
  rw [rV x zs f (fun j => by rw [GY j]) n hn.out n] at hy
  obtain ⟨V, hV⟩ : ∃ V, rU q x zs n = V := ⟨_, rfl⟩
  rw [hV] at hy ⊢
  gi_wp2
  refine ⟨by simp, .inl ⟨_, _, rfl, run_takeDeferred hK, ?_⟩⟩
  exact ⟨_, results_tmp rfl _ _ _, by rw [hV]; rfl, hB.trans (belowK_b (w := w) (Nat.le_refl _) W D _ _ (by omega) hK rfl rfl)⟩
 case stop =>
  rintro D c pre W _ _ h _
  exact h.elim
end Go.Proofs.YtchcllcbknfikaaGreatDoor