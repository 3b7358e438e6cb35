/- The reference of layer 17: Scalars, Product, Same. -/
import Derived.Test.YtijedphpcocfnaaDoorLinF
namespace Go.Proofs.YtijedphpcocfnaaDoor
open Go.RowKit SpM
set_option linter.unusedVariables false
set_option linter.unusedSimpArgs false
set_option maxRecDepth 20000

theorem scB_neg {Q x : Int} (h : x < 0) : scB Q x = false := by simp [scB]; omega
theorem scB_big {Q x : Int} (h : Q ≤ x) : scB Q x = false := by simp [scB]; omega
theorem scB_in {Q x : Int} (h0 : ¬ x < 0) (h1 : ¬ Q ≤ x) : scB Q x = true := by simp [scB]; omega
theorem all_step {f : Int → Bool} {xs : List Int} {k : Nat} (hk : k < xs.length) (h : f (xs.getD k 0) = true) : (xs.drop k).all f = (xs.drop (k + 1)).all f := by
  rw [List.drop_eq_getElem_cons hk, List.all_cons]
  rw [List.getD_eq_getElem?_getD, List.getElem?_eq_getElem hk] at h
  simp at h
  rw [h, Bool.true_and]
theorem all_hit {f : Int → Bool} {xs : List Int} {k : Nat} (hk : k < xs.length) (h : f (xs.getD k 0) = false) : (xs.drop k).all f = false := by
  rw [List.drop_eq_getElem_cons hk, List.all_cons]
  rw [List.getD_eq_getElem?_getD, List.getElem?_eq_getElem hk] at h
  simp at h
  rw [h, Bool.false_and]

set_option maxHeartbeats 3200000 in
theorem rscalars_any (P Q G : Int) (A : Option Addr) (xs : List Int) (n c : Nat) (r : Bool) (hr : Hid (xs.all (scB Q) = r)) (hn : Hid (xs.length = n)) (hbig : n < 1000000) (w : World) (hs : Hid (Sl w A xs)) :
    Calls Tryd.prog 24 #[gv P Q G, .slice A n c] w fun e' w' => e' = .returned (.bool r) ∧ Below w.heap.size w w' := by
  have HBX := Lib.hid (below_box0 w (gObj P Q G))
  have HX0 := Lib.hid (gbox_alloc w P Q G)
  have HS0 := Lib.hid (hs.out.below HBX.out)
  obtain ⟨W, hW⟩ : ∃ W, w.alloc (gObj P Q G) = W := ⟨_, rfl⟩
  rw [hW] at HX0 HS0 HBX
  have HW := Lib.hid hW
  clear hW hs
  go_enter Tryd.func24, Tryd.ntmps24
  go_wp2
  rw [HW.out]
  go_loopw [5] (fun i wr => ∃ k : Nat, k ≤ n ∧ i = .int .i64 k ∧ Hid ((xs.drop k).all (scB Q) = r) ∧ Hid (Below W.heap.size W wr)) (fun i _ => n - (intOf i).toNat)
  case atStart => exact ⟨0, by omega, rfl, Lib.hid (by rw [List.drop_zero]; exact hr.out), Lib.hid (Below.refl _ _)⟩
  case round =>
    obtain ⟨k, hk, rfl, HR, HBr⟩ := hrel
    by_cases hlt : k < n
    · have hkl : k < xs.length := by rw [hn.out]; exact hlt
      obtain ⟨b, o, hA, hi⟩ := HS0.out.below HBr.out k hkl
      subst hA
      obtain ⟨c0, c1, c2⟩ := HX0.out.below HBr.out
      by_cases h0 : xs.getD k 0 < 0
      · have hf : scB Q (xs.getD k 0) = false := scB_neg h0
        obtain rfl : r = false := HR.out.symm.trans (all_hit hkl hf)
        obtain ⟨x, hx⟩ : ∃ x, xs.getD k 0 = x := ⟨_, rfl⟩
        rw [hx] at hi h0
        have d0 : decide (x < 0) = true := by simp; omega
        have hbF := fun q => below_drawN (below_ext HBX.out HBr.out) q
        clear hx hf hkl HR
        go_wp2
        go_quiet (fail)
        go_wp2
        go_ret
        exact ⟨rfl, hbF _⟩
      · by_cases h1 : Q ≤ xs.getD k 0
        · have hf : scB Q (xs.getD k 0) = false := scB_big h1
          obtain rfl : r = false := HR.out.symm.trans (all_hit hkl hf)
          obtain ⟨x, hx⟩ : ∃ x, xs.getD k 0 = x := ⟨_, rfl⟩
          rw [hx] at hi h0 h1
          have d0 : decide (x < 0) = false := by simp; omega
          have d1 : decide (Q ≤ x) = true := by simp; omega
          have hbF := fun q => below_drawN (below_ext HBX.out HBr.out) q
          clear hx hf hkl HR
          go_wp2
          go_quiet (fail)
          go_wp2
          go_ret
          exact ⟨rfl, hbF _⟩
        · have hf : scB Q (xs.getD k 0) = true := scB_in h0 h1
          have HR2 : Hid ((xs.drop (k + 1)).all (scB Q) = r) := Lib.hid ((all_step hkl hf).symm.trans HR.out)
          obtain ⟨x, hx⟩ : ∃ x, xs.getD k 0 = x := ⟨_, rfl⟩
          rw [hx] at hi h0 h1
          have d0 : decide (x < 0) = false := by simp; omega
          have d1 : decide (Q ≤ x) = false := by simp; omega
          have HB2 := Lib.hid (fun q => below_drawN HBr.out q)
          clear hx hf hkl HR
          go_wp2
          go_quiet (fail)
          go_wp2
          go_roundw
          case rel => exact ⟨k + 1, by omega, by go_num, HR2, Lib.hid (HB2.out _)⟩
          case measure => simp [intOf]; omega
    · obtain rfl : k = n := by omega
      obtain rfl : r = true := by rw [← HR.out, ← hn.out, List.drop_length]; rfl
      have hbF := below_ext HBX.out HBr.out
      clear HR hlt
      go_wp2
      go_ret
      exact ⟨rfl, hbF⟩

set_option maxHeartbeats 6400000 in
theorem rproduct_any (P Q G : Int) (A : Option Addr) (xs : List Int) (n c : Nat) (E : Option Addr) (es : List Int) (m d : Nat) (V : Int) (hV : Hid (prodF P 1 xs es = V)) (hn : Hid (xs.length = n)) (hm : Hid (es.length = m)) (hnm : n ≤ m) (hbig : m < 1000000)
    (hx : Hid (xs.all (memG P Q) = true)) (he : Hid (es.all (scB Q) = true)) (hp2 : 2 ≤ P) (hp : P < 2305843009213693952) (hQ : Q < 9223372036854775808) (w : World) (hA : Hid (Sl w A xs)) (hE : Hid (Sl w E es)) :
    Calls Tryd.prog 57 #[gv P Q G, .slice A n c, .slice E m d] w fun e' w' => e' = .returned (.int .i64 V) ∧ Below w.heap.size w w' := by
  have HBX := Lib.hid (below_box0 w (gObj P Q G))
  have HX0 := Lib.hid (gbox_alloc w P Q G)
  have HA0 := Lib.hid (hA.out.below HBX.out)
  have HE0 := Lib.hid (hE.out.below HBX.out)
  obtain ⟨W, hW⟩ : ∃ W, w.alloc (gObj P Q G) = W := ⟨_, rfl⟩
  rw [hW] at HX0 HA0 HE0 HBX
  have HW := Lib.hid hW
  clear hW hA hE
  go_enter Tryd.func57, Tryd.ntmps57
  go_wp2
  rw [HW.out]
  go_loopw [7, 8] (fun y i wr => ∃ (k : Nat) (acc : Int), k ≤ n ∧ y = .int .i64 acc ∧ i = .int .i64 k ∧ 0 ≤ acc ∧ acc < P ∧ Hid (prodF P acc (xs.drop k) (es.drop k) = V) ∧ Hid (Below W.heap.size W wr)) (fun _ i _ => n - (intOf i).toNat)
  case atStart => exact ⟨0, 1, by omega, rfl, rfl, by omega, by omega, prodF_start hV, Lib.hid (Below.refl _ _)⟩
  case round =>
    obtain ⟨k, acc, hk, rfl, rfl, a0, a1, HJ, HBr⟩ := hrel
    by_cases hlt : k < n
    · have hkl : k < xs.length := by rw [hn.out]; exact hlt
      have hkm : k < m := by omega
      have hke : k < es.length := by rw [hm.out]; exact hkm
      obtain ⟨b, o, hA, hi0⟩ := HA0.out.below HBr.out k hkl
      obtain ⟨b2, o2, hE, hi1⟩ := HE0.out.below HBr.out k hke
      subst hA
      subst hE
      obtain ⟨c0, c1, c2⟩ := HX0.out.below HBr.out
      have hm1 := all_get hx.out hkl
      have hm2 := all_get he.out hke
      have hst := prodF_step (P := P) (acc := acc) hkl hke
      obtain ⟨x, hxx⟩ : ∃ x, xs.getD k 0 = x := ⟨_, rfl⟩
      obtain ⟨ex, hee⟩ : ∃ x, es.getD k 0 = x := ⟨_, rfl⟩
      rw [hxx] at hi0 hm1 hst
      rw [hee] at hi1 hm2 hst
      have x0 := memG_lo hm1
      have x1 := memG_hi hm1
      have e0 := scB_lo hm2
      have e1 := scB_hi hm2
      obtain ⟨p, hp1⟩ : ∃ p, pw x ex P = p := ⟨_, rfl⟩
      obtain ⟨p0, p1⟩ : 0 ≤ p ∧ p < P := by rw [← hp1]; exact pw_lt _ _ _ (by omega)
      rw [hp1] at hst
      obtain ⟨acc2, hac⟩ : ∃ a, acc * p % P = a := ⟨_, rfl⟩
      rw [hac] at hst
      have q0 : 0 ≤ acc2 := by rw [← hac]; exact Int.emod_nonneg _ (by omega)
      have q1 : acc2 < P := by rw [← hac]; exact Int.emod_lt_of_pos _ (by omega)
      have HJ2 : Hid (prodF P acc2 (xs.drop (k + 1)) (es.drop (k + 1)) = V) := Lib.hid (hst.symm.trans HJ.out)
      have HP1 := Lib.hid hp1
      have HAC := Lib.hid hac
      have HB2 := Lib.hid (fun q => below_drawN HBr.out q)
      clear hm1 hm2 hst hxx hee hp1 hac hkl hke HJ
      go_wp2
      go_quiet ((first | (go_at_call 60; exact quiet_left (rpow_any x ex P p HP1 (by omega) hp (by omega) x1 e0 (by omega) _)) | (go_at_call 39; exact quiet_left (rmul_any acc p P acc2 HAC hp a0 a1 p0 p1 _))))
      go_wp2
      go_roundw
      case rel => exact ⟨k + 1, acc2, by omega, rfl, by go_num, q0, q1, HJ2, Lib.hid (HB2.out _)⟩
      case measure => simp [intOf]; omega
    · obtain rfl : k = n := by omega
      obtain rfl := prodF_end hn.out HJ
      have hbF := below_ext HBX.out HBr.out
      clear HJ hlt
      go_wp2
      go_ret
      exact ⟨rfl, hbF⟩

/-- two lists of one length. -/
def sameB : List Int → List Int → Bool
  | x :: xs, y :: ys => (x == y) && sameB xs ys
  | _, _ => true
theorem sameB_step {xs ys : List Int} {k : Nat} (hk : k < xs.length) (hy : k < ys.length) : sameB (xs.drop k) (ys.drop k) = ((xs.getD k 0 == ys.getD k 0) && sameB (xs.drop (k + 1)) (ys.drop (k + 1))) := by
  rw [List.drop_eq_getElem_cons hk, List.drop_eq_getElem_cons hy, sameB, List.getD_eq_getElem?_getD, List.getElem?_eq_getElem hk, List.getD_eq_getElem?_getD, List.getElem?_eq_getElem hy]
  rfl
theorem sameB_beq : ∀ {xs ys : List Int}, xs.length = ys.length → sameB xs ys = (xs == ys)
  | [], [], _ => rfl
  | x :: xs, y :: ys, h => by
    rw [sameB, sameB_beq (by simpa using h)]
    rfl

set_option maxHeartbeats 3200000 in
theorem rsame_any (A : Option Addr) (xs : List Int) (n c : Nat) (B : Option Addr) (ys : List Int) (d : Nat) (r : Bool) (hr : Hid (sameB xs ys = r)) (hn : Hid (xs.length = n)) (hm : Hid (ys.length = n)) (hbig : n < 1000000) (w : World) (hA : Hid (Sl w A xs)) (hB : Hid (Sl w B ys)) :
    Calls Tryd.prog 56 #[.slice A n c, .slice B n d] w fun e' w' => e' = .returned (.bool r) ∧ Below w.heap.size w w' := by
  go_enter Tryd.func56, Tryd.ntmps56
  go_wp2
  go_loopw [5] (fun i wr => ∃ k : Nat, k ≤ n ∧ i = .int .i64 k ∧ Hid (sameB (xs.drop k) (ys.drop k) = r) ∧ Hid (Below w.heap.size w wr)) (fun i _ => n - (intOf i).toNat)
  case atStart => exact ⟨0, by omega, rfl, Lib.hid (by rw [List.drop_zero, List.drop_zero]; exact hr.out), Lib.hid (Below.refl _ _)⟩
  case round =>
    obtain ⟨k, hk, rfl, HR, HBr⟩ := hrel
    by_cases hlt : k < n
    · have hkl : k < xs.length := by rw [hn.out]; exact hlt
      have hkm : k < ys.length := by rw [hm.out]; exact hlt
      obtain ⟨b, o, hA', hi⟩ := hA.out.below HBr.out k hkl
      obtain ⟨b2, o2, hB', hi2⟩ := hB.out.below HBr.out k hkm
      subst hA'
      subst hB'
      have hst := sameB_step hkl hkm
      obtain ⟨x, hx⟩ : ∃ x, xs.getD k 0 = x := ⟨_, rfl⟩
      obtain ⟨y, hy⟩ : ∃ x, ys.getD k 0 = x := ⟨_, rfl⟩
      rw [hx, hy] at hst
      rw [hx] at hi
      rw [hy] at hi2
      have HB2 := Lib.hid (fun q => below_drawN HBr.out q)
      cases hxy : x == y with
      | false =>
        obtain rfl : r = false := by rw [← HR.out, hst, hxy, Bool.false_and]
        have hne : ((x : Int) != y) = true := by rw [bne, hxy]; rfl
        clear hx hy hst HR hkl hkm
        go_wp2
        go_quiet (fail)
        go_wp2
        go_ret
        exact ⟨rfl, HB2.out _⟩
      | true =>
        have HR2 : Hid (sameB (xs.drop (k + 1)) (ys.drop (k + 1)) = r) := Lib.hid (by rw [← HR.out, hst, hxy, Bool.true_and])
        have hne : ((x : Int) != y) = false := by rw [bne, hxy]; rfl
        clear hx hy hst HR hkl hkm
        go_wp2
        go_quiet (fail)
        go_wp2
        go_roundw
        case rel => exact ⟨k + 1, by omega, by go_num, HR2, Lib.hid (HB2.out _)⟩
        case measure => simp [intOf]; omega
    · obtain rfl : k = n := by omega
      obtain rfl : r = true := by rw [← HR.out, ← hn.out, List.drop_length]; rfl
      have hbF := HBr.out
      clear HR hlt
      go_wp2
      go_ret
      exact ⟨rfl, hbF⟩
end Go.Proofs.YtijedphpcocfnaaDoor
