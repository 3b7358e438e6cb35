/- The products of powers, of package linear. -/
import Derived.Test.YtijedphpcocfnaaDoorLinC
namespace Go.Proofs.YtijedphpcocfnaaDoor
open Go.RowKit SpM
set_option linter.unusedVariables false
set_option linter.unusedSimpArgs false
set_option maxRecDepth 20000

theorem pow_eq (a e m v : Int) (hv : Hid (pw a e m = v)) (h1 : 1 ≤ m) (h2 : m < 2305843009213693952) (ha0 : 0 ≤ a) (ha : a < m) (he0 : 0 ≤ e) (he : e < 9223372036854775808) (w : World) :
    Calls Tryd.prog 76 #[.int .i64 a, .int .i64 e, .int .i64 m] w fun e' w' => e' = .returned (.tuple #[.int .i64 v, .int .i64 0]) ∧ ∃ n, w' = w.drewN n := by
  rw [← hv.out]; exact pow_ok a e m h1 h2 ha0 ha he0 he w
theorem wmul_eq (a b m v : Int) (hv : Hid (a * b % m = v)) (h2 : m < 2305843009213693952) (ha0 : 0 ≤ a) (ha : a < m) (hb0 : 0 ≤ b) (hb : b < m) (w : World) :
    Calls Tryd.prog 61 #[.int .i64 a, .int .i64 b, .int .i64 m] w fun e w' => e = .returned (.tuple #[.int .i64 v, .int .i64 0]) ∧ ∃ n, w' = w.drewN n := by
  rw [← hv.out]; exact wmul_ok a b m h2 ha0 ha hb0 hb w

/-- the product of powers, folded into acc. -/
def prodF (P : Int) : Int → List Int → List Int → Int
  | acc, x :: xs, e :: es => prodF P (acc * pw x e P % P) xs es
  | acc, _, _ => acc
theorem prodF_step {P acc : Int} {k : Nat} {xs es : List Int} (hk : k < xs.length) (he : k < es.length) :
    prodF P acc (xs.drop k) (es.drop k) = prodF P (acc * pw (xs.getD k 0) (es.getD k 0) P % P) (xs.drop (k + 1)) (es.drop (k + 1)) := by
  rw [List.drop_eq_getElem_cons hk, List.drop_eq_getElem_cons he, prodF, List.getD_eq_getElem?_getD, List.getElem?_eq_getElem hk, List.getD_eq_getElem?_getD, List.getElem?_eq_getElem he]
  rfl
theorem prodF_start {P s V : Int} {xs es : List Int} (h : Hid (prodF P s xs es = V)) : Hid (prodF P s (xs.drop 0) (es.drop 0) = V) := Lib.hid (by
  rw [List.drop_zero, List.drop_zero]
  exact h.out)
theorem prodF_end {P acc V : Int} {k : Nat} {xs es : List Int} (hn : xs.length = k) (h : Hid (prodF P acc (xs.drop k) (es.drop k) = V)) : acc = V := by
  have h2 := h.out
  rw [← hn, List.drop_length] at h2
  exact h2
theorem scB_lo {Q x : Int} (h : scB Q x = true) : 0 ≤ x := by simp [scB] at h; exact h.1
theorem scB_hi {Q x : Int} (h : scB Q x = true) : x < Q := by simp [scB] at h; exact h.2

set_option maxHeartbeats 6400000 in
theorem lproduct_any (P Q G start : Int) (A : Option Addr) (xs : List Int) (n c : Nat) (E : Option Addr) (es : List Int) (m d : Nat) (V : Int) (hV : Hid (prodF P start xs es = V)) (hn : Hid (xs.length = n)) (hm : Hid (es.length = m)) (hnm : n ≤ m) (hbig : m < 1000000)
    (hx : Hid (xs.all (memG P Q) = true)) (he : Hid (es.all (scB Q) = true)) (hp2 : 2 ≤ P) (hp : P < 2305843009213693952) (hQ : Q < 9223372036854775808) (hs0 : 0 ≤ start) (hs1 : start < P) (w : World) (hA : Hid (Sl w A xs)) (hE : Hid (Sl w E es)) :
    Calls Tryd.prog 87 #[gv P Q G, .int .i64 start, .slice A n c, .slice E m d] w fun e' w' => e' = .returned (.int .i64 V) ∧ Below w.heap.size w w' := by
  have HBX := Lib.hid (below_box0 w (gObj P Q G))
  have HX0 := Lib.hid (gbox_alloc w P Q G)
  have HA0 := Lib.hid (hA.out.below HBX.out)
  have HE0 := Lib.hid (hE.out.below HBX.out)
  obtain ⟨W, hW⟩ : ∃ W, w.alloc (gObj P Q G) = W := ⟨_, rfl⟩
  rw [hW] at HX0 HA0 HE0 HBX
  have HW := Lib.hid hW
  clear hW hA hE
  go_enter Tryd.func87, Tryd.ntmps87
  go_wp2
  rw [HW.out]
  go_loopw [9, 17] (fun y i wr => ∃ (k : Nat) (acc : Int), k ≤ n ∧ y = .int .i64 acc ∧ i = .int .i64 k ∧ 0 ≤ acc ∧ acc < P ∧ Hid (prodF P acc (xs.drop k) (es.drop k) = V) ∧ Hid (Below W.heap.size W wr)) (fun _ i _ => n - (intOf i).toNat)
  case atStart => exact ⟨0, start, by omega, rfl, rfl, by omega, by omega, prodF_start hV, Lib.hid (Below.refl _ _)⟩
  case round =>
    obtain ⟨k, acc, hk, rfl, rfl, a0, a1, HJ, HBr⟩ := hrel
    by_cases hlt : k < n
    · have hkl : k < xs.length := by rw [hn.out]; exact hlt
      have hkm : k < m := by omega
      have hke : k < es.length := by rw [hm.out]; exact hkm
      obtain ⟨b, o, hA, hi0⟩ := HA0.out.below HBr.out k hkl
      obtain ⟨b2, o2, hE, hi1⟩ := HE0.out.below HBr.out k hke
      subst hA
      subst hE
      obtain ⟨c0, c1, c2⟩ := HX0.out.below HBr.out
      have hm1 := all_get hx.out hkl
      have hm2 := all_get he.out hke
      have hst := prodF_step (P := P) (acc := acc) hkl hke
      obtain ⟨x, hxx⟩ : ∃ x, xs.getD k 0 = x := ⟨_, rfl⟩
      obtain ⟨ex, hee⟩ : ∃ x, es.getD k 0 = x := ⟨_, rfl⟩
      rw [hxx] at hi0 hm1 hst
      rw [hee] at hi1 hm2 hst
      have x0 := memG_lo hm1
      have x1 := memG_hi hm1
      have e0 := scB_lo hm2
      have e1 := scB_hi hm2
      obtain ⟨p, hp1⟩ : ∃ p, pw x ex P = p := ⟨_, rfl⟩
      obtain ⟨p0, p1⟩ : 0 ≤ p ∧ p < P := by rw [← hp1]; exact pw_lt _ _ _ (by omega)
      rw [hp1] at hst
      obtain ⟨acc2, hac⟩ : ∃ a, acc * p % P = a := ⟨_, rfl⟩
      rw [hac] at hst
      have q0 : 0 ≤ acc2 := by rw [← hac]; exact Int.emod_nonneg _ (by omega)
      have q1 : acc2 < P := by rw [← hac]; exact Int.emod_lt_of_pos _ (by omega)
      have HJ2 : Hid (prodF P acc2 (xs.drop (k + 1)) (es.drop (k + 1)) = V) := Lib.hid (hst.symm.trans HJ.out)
      have HP1 := Lib.hid hp1
      have HAC := Lib.hid hac
      clear hm1 hm2 hst hxx hee hp1 hac hkl hke HJ
      go_wp2
      go_quiet ((go_at_call 76; exact Calls.quiet_of (pow_eq x ex P p HP1 (by omega) hp (by omega) x1 e0 (by omega) _)))
      go_wp2_with fail
      refine (wmul_eq acc p P acc2 HAC hp a0 a1 p0 p1 _).mono ?_
      rintro e w' ⟨rfl, n3, rfl⟩
      have HB2 : Hid (Below W.heap.size W (wr.drewN (nq + n3))) := Lib.hid (below_drawN HBr.out _)
      go_wp2
      go_roundw
      case rel => exact ⟨k + 1, acc2, by omega, rfl, by go_num, q0, q1, HJ2, HB2⟩
      case measure => simp [intOf]; omega
    · obtain rfl : k = n := by omega
      obtain rfl := prodF_end hn.out HJ
      have hbF := below_ext HBX.out HBr.out
      clear HJ hlt
      go_wp2
      go_ret
      exact ⟨rfl, hbF⟩

theorem OwnL.keep {w w' : World} {B : Nat} {v : Value} {xs : List Int} (h : OwnL w B v xs) (hb : Below w.heap.size w w') : OwnL w' B v xs := by
  obtain ⟨h1, h2⟩ := h
  refine ⟨h1, h2.imp id ?_⟩
  rintro ⟨g, cap, cur, rfl, hg, hh, rest⟩
  exact ⟨g, cap, cur, rfl, hg, (hb.block g (Array.getElem?_eq_some_iff.1 hh).1).trans hh, rest⟩
theorem OwnL.mono {w : World} {B B' : Nat} {v : Value} {xs : List Int} (h : OwnL w B v xs) (hb : B' ≤ B) : OwnL w B' v xs := by
  obtain ⟨h1, h2⟩ := h
  refine ⟨h1, h2.imp id ?_⟩
  rintro ⟨g, cap, cur, rfl, hg, rest⟩
  exact ⟨g, cap, cur, rfl, by omega, rest⟩

theorem takeMap_succ {f : Row → Int} {rows : List Row} {k : Nat} (hk : k < rows.length) : (rows.take (k + 1)).map f = (rows.take k).map f ++ [f (rows.getD k noRow)] := by
  rw [List.take_add_one, List.map_append, List.getElem?_eq_getElem hk, List.getD_eq_getElem?_getD, List.getElem?_eq_getElem hk]
  rfl
theorem takeMap_len {f : Row → Int} {rows : List Row} {k : Nat} (hk : k ≤ rows.length) : ((rows.take k).map f).length = k := by
  rw [List.length_map, List.length_take]; omega
theorem rowAll_get {f : Row → Bool} {xs : List Row} (h : xs.all f = true) {k : Nat} (hk : k < xs.length) : f (xs.getD k noRow) = true := by
  rw [List.getD_eq_getElem?_getD, List.getElem?_eq_getElem hk]
  exact List.all_eq_true.1 h _ (List.getElem_mem hk)

/-- a list that the call made. -/
def ListOut (zs : List Int) (w : World) (e : Ending) (w' : World) : Prop := ∃ v, e = .returned v ∧ OwnL w' w.heap.size v zs ∧ Below w.heap.size w w'

set_option maxHeartbeats 6400000 in
theorem lproducts_any (P Q G : Int) (A : Option Addr) (rows : List Row) (n c : Nat) (E : Option Addr) (es : List Int) (m d : Nat) (hn : Hid (rows.length = n)) (hm : Hid (es.length = m)) (hbig : m < 1000000) (hbign : n < 1000000)
    (hx : Hid (rows.all (rowB P Q m) = true)) (he : Hid (es.all (scB Q) = true)) (hp2 : 2 ≤ P) (hp : P < 2305843009213693952) (hQ : Q < 9223372036854775808) (w : World) (hA : Hid (Rw w A rows)) (hE : Hid (Sl w E es)) :
    Calls Tryd.prog 49 #[gv P Q G, .slice A n c, .slice E m d] w (ListOut (rows.map fun r => prodF P 1 r.xs es) w) := by
  obtain ⟨i0, hi, hz0, hz1, hz2⟩ := info_parts intInfo
  have HBX := Lib.hid (below_box0 w (gObj P Q G))
  have HX0 := Lib.hid (gbox_alloc w P Q G)
  have HA0 := Lib.hid (hA.out.below HBX.out)
  have HE0 := Lib.hid (hE.out.below HBX.out)
  obtain ⟨W, hW⟩ : ∃ W, w.alloc (gObj P Q G) = W := ⟨_, rfl⟩
  rw [hW] at HX0 HA0 HE0 HBX
  have HW := Lib.hid hW
  clear hW hA hE
  go_enter Tryd.func49, Tryd.ntmps49
  go_wp2
  rw [HW.out]
  go_loopw [7, 12] (fun v i wr => ∃ k : Nat, k ≤ n ∧ i = .int .i64 k ∧ Hid (OwnL wr W.heap.size v ((rows.take k).map fun r => prodF P 1 r.xs es)) ∧ Hid (Below W.heap.size W wr)) (fun _ i _ => n - (intOf i).toNat)
  case atStart => exact ⟨0, by omega, rfl, Lib.hid (ownL_nil _ _), Lib.hid (Below.refl _ _)⟩
  case round =>
    obtain ⟨k, hk, rfl, HO, HBr⟩ := hrel
    by_cases hlt : k < n
    · have hkl : k < rows.length := by rw [hn.out]; exact hlt
      obtain ⟨⟨b, o, hA, hi0⟩, hok⟩ := HA0.out.below HBr.out k hkl
      subst hA
      obtain ⟨c0, c1, c2⟩ := HX0.out.below HBr.out
      have HEr := Lib.hid (HE0.out.below HBr.out)
      have hrb := rowAll_get hx.out hkl
      have HTS := Lib.hid (takeMap_succ (f := fun r => prodF P 1 r.xs es) hkl)
      obtain ⟨R, hR⟩ : ∃ R, rows.getD k noRow = R := ⟨_, rfl⟩
      rw [hR] at hi0 hrb hok HTS
      obtain ⟨p, rn, rc, xs⟩ := R
      simp only [rowB, Bool.and_eq_true, decide_eq_true_eq] at hrb
      obtain ⟨rfl, hmx⟩ := hrb
      have HL := Lib.hid hok.1
      have HS := Lib.hid hok.2
      have HMX := Lib.hid hmx
      obtain ⟨V, hV⟩ : ∃ V, prodF P 1 xs es = V := ⟨_, rfl⟩
      have HV_ := Lib.hid hV
      have HTS2 : Hid ((rows.take (k + 1)).map (fun r => prodF P 1 r.xs es) = (rows.take k).map (fun r => prodF P 1 r.xs es) ++ [V]) := Lib.hid (by rw [HTS.out, ← hV])
      have HTL := Lib.hid (takeMap_len (f := fun r => prodF P 1 r.xs es) (Nat.le_of_lt hkl))
      dsimp only [Row.val] at hi0
      clear hR hok hmx hV hkl HTS
      go_wp2_with fail
      refine (lproduct_any P Q G 1 p xs rn rc E es rn d V HV_ HL hm (Nat.le_refl _) hbig HMX he hp2 hp hQ (by omega) (by omega) _ HS HEr).mono ?_
      rintro e w2 ⟨rfl, hb0⟩
      have HO1 := Lib.hid (HO.out.keep hb0)
      have HB1 := Lib.hid (below_ext HBr.out hb0)
      have hown : w2.ownsRow W.heap.size 3 1 u7 k (((rows.take k).map fun r => prodF P 1 r.xs es).map (Value.int .i64)) := by
        have h3 := HO1.out
        unfold OwnL at h3
        rwa [HTL.out] at h3
      have hbs := HB1.out.size
      clear hb0 c0 c1 c2 hi0 HO
      go_wp2_with (at_builtin; refine wpList_append_own _ rfl _ _ 24 rfl W.heap.size 3 i0 (.int .i64 0) 1 8 Tryd.underlying24 hi hz0 hz1 hz2 rfl (by decide) _ _ _ rfl (hown.alloc _) ⟨w2.heap.size, 0, none⟩ 1 1 [.int .i64 V] rfl rfl (cell_one_new _ _ _) (ints_oneCell .i64 [V]) (by unfold maxLen; omega) (by omega) (by simp; omega) ?_; intro v' w3 hown1 hgrow1 _)
      have HO2 : Hid (OwnL w3 W.heap.size v' ((rows.take (k + 1)).map fun r => prodF P 1 r.xs es)) := Lib.hid (by
        rw [HTS2.out]
        exact OwnL.app HTL.out.symm hown1)
      have HB2 : Hid (Below W.heap.size W w3) := Lib.hid (HO1.out.below HB1.out hbs hgrow1)
      clear hown hown1 hgrow1
      go_roundw
      case rel => exact ⟨k + 1, by omega, by go_num, HO2, HB2⟩
      case measure => simp [intOf]; omega
    · obtain rfl : k = n := by omega
      have HF : Hid (OwnL wr W.heap.size u7 (rows.map fun r => prodF P 1 r.xs es)) := Lib.hid (by
        have h3 := HO.out
        rwa [← hn.out, List.take_length] at h3)
      have hbF := below_ext HBX.out HBr.out
      have hsz := HBX.out.size
      clear HO hlt
      go_wp2
      go_ret
      exact ⟨_, rfl, HF.out.mono hsz, hbF⟩
end Go.Proofs.YtijedphpcocfnaaDoor
