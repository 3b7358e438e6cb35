/- Contracts and lemmas: LinD, LinE, LinF, DrE, LcA, LcB, LinK, LinO, LinP, LinQ, LinS. -/
import Derived.Deep.RegionHeld3
import Derived.Deep.AppendLies
import Derived.Test.YtdlhodbiaoafiaaGreatDoorEs3
namespace Go.Proofs.YtdlhodbiaoafiaaGreatDoor
open Go.RowKit SpM
set_option linter.unusedVariables false
set_option linter.unusedSimpArgs false
set_option maxRecDepth 20000
theorem pow_eq (a e m v : Int) (hv : Hid (pw a e m = v)) (h1 : 1 ≤ m) (h2 : m < 2305843009213693952) (ha0 : 0 ≤ a) (ha : a < m) (he0 : 0 ≤ e) (he : e < 9223372036854775808) (w : World) :
    Calls Tryz.prog 63 #[.int .i64 a, .int .i64 e, .int .i64 m] w fun e' w' => e' = .returned (.tuple #[.int .i64 v, .int .i64 0]) ∧ ∃ n, w' = w.drewN n := by
  rw [← hv.out]; exact pow_ok a e m h1 h2 ha0 ha he0 he w
theorem wmul_eq (a b m v : Int) (hv : Hid (a * b % m = v)) (h2 : m < 2305843009213693952) (ha0 : 0 ≤ a) (ha : a < m) (hb0 : 0 ≤ b) (hb : b < m) (w : World) :
    Calls Tryz.prog 75 #[.int .i64 a, .int .i64 b, .int .i64 m] w fun e w' => e = .returned (.tuple #[.int .i64 v, .int .i64 0]) ∧ ∃ n, w' = w.drewN n := by
  rw [← hv.out]; exact wmul_ok a b m h2 ha0 ha hb0 hb w
/-- the product of powers, folded into acc. -/
def prodF (P : Int) : Int → List Int → List Int → Int
  | acc, x :: xs, e :: es => prodF P (acc * pw x e P % P) xs es
  | acc, _, _ => acc
theorem prodF_step {P acc : Int} {k : Nat} {xs es : List Int} (hk : k < xs.length) (he : k < es.length) :
    prodF P acc (xs.drop k) (es.drop k) = prodF P (acc * pw (xs.getD k 0) (es.getD k 0) P % P) (xs.drop (k + 1)) (es.drop (k + 1)) := by
  rw [List.drop_eq_getElem_cons hk, List.drop_eq_getElem_cons he, prodF, List.getD_eq_getElem?_getD, List.getElem?_eq_getElem hk, List.getD_eq_getElem?_getD, List.getElem?_eq_getElem he]
  rfl
theorem prodF_start {P s V : Int} {xs es : List Int} (h : Hid (prodF P s xs es = V)) : Hid (prodF P s (xs.drop 0) (es.drop 0) = V) := Lib.hid (by
  rw [List.drop_zero, List.drop_zero]
  exact h.out)
theorem prodF_end {P acc V : Int} {k : Nat} {xs es : List Int} (hn : xs.length = k) (h : Hid (prodF P acc (xs.drop k) (es.drop k) = V)) : acc = V := by
  have h2 := h.out
  rw [← hn, List.drop_length] at h2
  exact h2
theorem scB_lo {Q x : Int} (h : scB Q x = true) : 0 ≤ x := by simp [scB] at h; exact h.1
theorem scB_hi {Q x : Int} (h : scB Q x = true) : x < Q := by simp [scB] at h; exact h.2
set_option maxHeartbeats 6400000 in
theorem lproduct_any (P Q G start : Int) (A : Option Addr) (xs : List Int) (n c : Nat) (E : Option Addr) (es : List Int) (m d : Nat) (V : Int) (hV : Hid (prodF P start xs es = V)) (hn : Hid (xs.length = n)) (hm : Hid (es.length = m)) (hnm : n ≤ m) (hbig : m < 1000000)
    (hx : Hid (xs.all (memG P Q) = true)) (he : Hid (es.all (scB Q) = true)) (hp2 : 2 ≤ P) (hp : P < 2305843009213693952) (hQ : Q < 9223372036854775808) (hs0 : 0 ≤ start) (hs1 : start < P) (w : World) (hA : Hid (Sl w A xs)) (hE : Hid (Sl w E es)) :
    Calls Tryz.prog 94 #[gv P Q G, .int .i64 start, .slice A n c, .slice E m d] w fun e' w' => e' = .returned (.int .i64 V) ∧ Below w.heap.size w w' := by
  have HBX := Lib.hid (below_box0 w (gObj P Q G))
  have HX0 := Lib.hid (gbox_alloc w P Q G)
  have HA0 := Lib.hid (hA.out.below HBX.out)
  have HE0 := Lib.hid (hE.out.below HBX.out)
  obtain ⟨W, hW⟩ : ∃ W, w.alloc (gObj P Q G) = W := ⟨_, rfl⟩
  rw [hW] at HX0 HA0 HE0 HBX
  have HW := Lib.hid hW
  clear hW hA hE
  go_enter Tryz.func94, Tryz.ntmps94
  go_wp2
  rw [HW.out]
  go_loopw [9, 17] (fun y i wr => ∃ (k : Nat) (acc : Int), k ≤ n ∧ y = .int .i64 acc ∧ i = .int .i64 k ∧ 0 ≤ acc ∧ acc < P ∧ Hid (prodF P acc (xs.drop k) (es.drop k) = V) ∧ Hid (Below W.heap.size W wr)) (fun _ i _ => n - (intOf i).toNat)
  case atStart => exact ⟨0, start, by omega, rfl, rfl, by omega, by omega, prodF_start hV, Lib.hid (Below.refl _ _)⟩
  case round =>
    obtain ⟨k, acc, hk, rfl, rfl, a0, a1, HJ, HBr⟩ := hrel
    by_cases hlt : k < n
    · have hkl : k < xs.length := by rw [hn.out]; exact hlt
      have hkm : k < m := by omega
      have hke : k < es.length := by rw [hm.out]; exact hkm
      obtain ⟨b, o, hA, hi0⟩ := HA0.out.below HBr.out k hkl
      obtain ⟨b2, o2, hE, hi1⟩ := HE0.out.below HBr.out k hke
      subst hA
      subst hE
      obtain ⟨c0, c1, c2⟩ := HX0.out.below HBr.out
      have hm1 := all_get hx.out hkl
      have hm2 := all_get he.out hke
      have hst := prodF_step (P := P) (acc := acc) hkl hke
      obtain ⟨x, hxx⟩ : ∃ x, xs.getD k 0 = x := ⟨_, rfl⟩
      obtain ⟨ex, hee⟩ : ∃ x, es.getD k 0 = x := ⟨_, rfl⟩
      rw [hxx] at hi0 hm1 hst
      rw [hee] at hi1 hm2 hst
      have x0 := memG_lo hm1
      have x1 := memG_hi hm1
      have e0 := scB_lo hm2
      have e1 := scB_hi hm2
      obtain ⟨p, hp1⟩ : ∃ p, pw x ex P = p := ⟨_, rfl⟩
      obtain ⟨p0, p1⟩ : 0 ≤ p ∧ p < P := by rw [← hp1]; exact pw_lt _ _ _ (by omega)
      rw [hp1] at hst
      obtain ⟨acc2, hac⟩ : ∃ a, acc * p % P = a := ⟨_, rfl⟩
      rw [hac] at hst
      have q0 : 0 ≤ acc2 := by rw [← hac]; exact Int.emod_nonneg _ (by omega)
      have q1 : acc2 < P := by rw [← hac]; exact Int.emod_lt_of_pos _ (by omega)
      have HJ2 : Hid (prodF P acc2 (xs.drop (k + 1)) (es.drop (k + 1)) = V) := Lib.hid (hst.symm.trans HJ.out)
      have HP1 := Lib.hid hp1
      have HAC := Lib.hid hac
      clear hm1 hm2 hst hxx hee hp1 hac hkl hke HJ
      go_wp2
      go_quiet ((go_at_call 63; exact Calls.quiet_of (pow_eq x ex P p HP1 (by omega) hp (by omega) x1 e0 (by omega) _)))
      go_wp2_with fail
      refine (wmul_eq acc p P acc2 HAC hp a0 a1 p0 p1 _).mono ?_
      rintro e w' ⟨rfl, n3, rfl⟩
      have HB2 : Hid (Below W.heap.size W (wr.drewN (nq + n3))) := Lib.hid (below_drawN HBr.out _)
      go_wp2
      go_roundw
      case rel => exact ⟨k + 1, acc2, by omega, rfl, by go_num, q0, q1, HJ2, HB2⟩
      case measure => simp [intOf]; omega
    · obtain rfl : k = n := by omega
      obtain rfl := prodF_end hn.out HJ
      have hbF := below_ext HBX.out HBr.out
      clear HJ hlt
      go_wp2
      go_ret
      exact ⟨rfl, hbF⟩
theorem OwnL.keep {w w' : World} {B : Nat} {v : Value} {xs : List Int} (h : OwnL w B v xs) (hb : Below w.heap.size w w') : OwnL w' B v xs := by
  obtain ⟨h1, h2⟩ := h
  refine ⟨h1, h2.imp id ?_⟩
  rintro ⟨g, cap, cur, rfl, hg, hh, rest⟩
  exact ⟨g, cap, cur, rfl, hg, (hb.block g (Array.getElem?_eq_some_iff.1 hh).1).trans hh, rest⟩
theorem OwnL.mono {w : World} {B B' : Nat} {v : Value} {xs : List Int} (h : OwnL w B v xs) (hb : B' ≤ B) : OwnL w B' v xs := by
  obtain ⟨h1, h2⟩ := h
  refine ⟨h1, h2.imp id ?_⟩
  rintro ⟨g, cap, cur, rfl, hg, rest⟩
  exact ⟨g, cap, cur, rfl, by omega, rest⟩
theorem takeMap_succ {f : Row → Int} {rows : List Row} {k : Nat} (hk : k < rows.length) : (rows.take (k + 1)).map f = (rows.take k).map f ++ [f (rows.getD k noRow)] := by
  rw [List.take_add_one, List.map_append, List.getElem?_eq_getElem hk, List.getD_eq_getElem?_getD, List.getElem?_eq_getElem hk]
  rfl
theorem takeMap_len {f : Row → Int} {rows : List Row} {k : Nat} (hk : k ≤ rows.length) : ((rows.take k).map f).length = k := by
  rw [List.length_map, List.length_take]; omega
theorem rowAll_get {f : Row → Bool} {xs : List Row} (h : xs.all f = true) {k : Nat} (hk : k < xs.length) : f (xs.getD k noRow) = true := by
  rw [List.getD_eq_getElem?_getD, List.getElem?_eq_getElem hk]
  exact List.all_eq_true.1 h _ (List.getElem_mem hk)
/-- a list that the call made. -/
def ListOut (zs : List Int) (w : World) (e : Ending) (w' : World) : Prop := ∃ v, e = .returned v ∧ OwnL w' w.heap.size v zs ∧ Below w.heap.size w w'
set_option maxHeartbeats 6400000 in
theorem lproducts_any (P Q G : Int) (A : Option Addr) (rows : List Row) (n c : Nat) (E : Option Addr) (es : List Int) (m d : Nat) (hn : Hid (rows.length = n)) (hm : Hid (es.length = m)) (hbig : m < 1000000) (hbign : n < 1000000)
    (hx : Hid (rows.all (rowB P Q m) = true)) (he : Hid (es.all (scB Q) = true)) (hp2 : 2 ≤ P) (hp : P < 2305843009213693952) (hQ : Q < 9223372036854775808) (w : World) (hA : Hid (Rw w A rows)) (hE : Hid (Sl w E es)) :
    Calls Tryz.prog 59 #[gv P Q G, .slice A n c, .slice E m d] w (ListOut (rows.map fun r => prodF P 1 r.xs es) w) := by
  obtain ⟨i0, hi, hz0, hz1, hz2⟩ := info_parts intInfo
  have HBX := Lib.hid (below_box0 w (gObj P Q G))
  have HX0 := Lib.hid (gbox_alloc w P Q G)
  have HA0 := Lib.hid (hA.out.below HBX.out)
  have HE0 := Lib.hid (hE.out.below HBX.out)
  obtain ⟨W, hW⟩ : ∃ W, w.alloc (gObj P Q G) = W := ⟨_, rfl⟩
  rw [hW] at HX0 HA0 HE0 HBX
  have HW := Lib.hid hW
  clear hW hA hE
  go_enter Tryz.func59, Tryz.ntmps59
  go_wp2
  rw [HW.out]
  go_loopw [7, 12] (fun v i wr => ∃ k : Nat, k ≤ n ∧ i = .int .i64 k ∧ Hid (OwnL wr W.heap.size v ((rows.take k).map fun r => prodF P 1 r.xs es)) ∧ Hid (Below W.heap.size W wr)) (fun _ i _ => n - (intOf i).toNat)
  case atStart => exact ⟨0, by omega, rfl, Lib.hid (ownL_nil _ _), Lib.hid (Below.refl _ _)⟩
  case round =>
    obtain ⟨k, hk, rfl, HO, HBr⟩ := hrel
    by_cases hlt : k < n
    · have hkl : k < rows.length := by rw [hn.out]; exact hlt
      obtain ⟨⟨b, o, hA, hi0⟩, hok⟩ := HA0.out.below HBr.out k hkl
      subst hA
      obtain ⟨c0, c1, c2⟩ := HX0.out.below HBr.out
      have HEr := Lib.hid (HE0.out.below HBr.out)
      have hrb := rowAll_get hx.out hkl
      have HTS := Lib.hid (takeMap_succ (f := fun r => prodF P 1 r.xs es) hkl)
      obtain ⟨R, hR⟩ : ∃ R, rows.getD k noRow = R := ⟨_, rfl⟩
      rw [hR] at hi0 hrb hok HTS
      obtain ⟨p, rn, rc, xs⟩ := R
      simp only [rowB, Bool.and_eq_true, decide_eq_true_eq] at hrb
      obtain ⟨rfl, hmx⟩ := hrb
      have HL := Lib.hid hok.1
      have HS := Lib.hid hok.2
      have HMX := Lib.hid hmx
      obtain ⟨V, hV⟩ : ∃ V, prodF P 1 xs es = V := ⟨_, rfl⟩
      have HV_ := Lib.hid hV
      have HTS2 : Hid ((rows.take (k + 1)).map (fun r => prodF P 1 r.xs es) = (rows.take k).map (fun r => prodF P 1 r.xs es) ++ [V]) := Lib.hid (by rw [HTS.out, ← hV])
      have HTL := Lib.hid (takeMap_len (f := fun r => prodF P 1 r.xs es) (Nat.le_of_lt hkl))
      dsimp only [Row.val] at hi0
      clear hR hok hmx hV hkl HTS
      go_wp2_with fail
      refine (lproduct_any P Q G 1 p xs rn rc E es rn d V HV_ HL hm (Nat.le_refl _) hbig HMX he hp2 hp hQ (by omega) (by omega) _ HS HEr).mono ?_
      rintro e w2 ⟨rfl, hb0⟩
      have HO1 := Lib.hid (HO.out.keep hb0)
      have HB1 := Lib.hid (below_ext HBr.out hb0)
      have hown : w2.ownsRow W.heap.size 3 1 u7 k (((rows.take k).map fun r => prodF P 1 r.xs es).map (Value.int .i64)) := by
        have h3 := HO1.out
        unfold OwnL at h3
        rwa [HTL.out] at h3
      have hbs := HB1.out.size
      clear hb0 c0 c1 c2 hi0 HO
      go_wp2_with (at_builtin; refine wpList_append_own _ rfl _ _ 26 rfl W.heap.size 3 i0 (.int .i64 0) 1 8 Tryz.underlying26 hi hz0 hz1 hz2 rfl (by decide) _ _ _ rfl (hown.alloc _) ⟨w2.heap.size, 0, none⟩ 1 1 [.int .i64 V] rfl rfl (cell_one_new _ _ _) (ints_oneCell .i64 [V]) (by unfold maxLen; omega) (by omega) (by simp; omega) ?_; intro v' w3 hown1 hgrow1 _)
      have HO2 : Hid (OwnL w3 W.heap.size v' ((rows.take (k + 1)).map fun r => prodF P 1 r.xs es)) := Lib.hid (by
        rw [HTS2.out]
        exact OwnL.app HTL.out.symm hown1)
      have HB2 : Hid (Below W.heap.size W w3) := Lib.hid (HO1.out.below HB1.out hbs hgrow1)
      clear hown hown1 hgrow1
      go_roundw
      case rel => exact ⟨k + 1, by omega, by go_num, HO2, HB2⟩
      case measure => simp [intOf]; omega
    · obtain rfl : k = n := by omega
      have HF : Hid (OwnL wr W.heap.size u7 (rows.map fun r => prodF P 1 r.xs es)) := Lib.hid (by
        have h3 := HO.out
        rwa [← hn.out, List.take_length] at h3)
      have hbF := below_ext HBX.out HBr.out
      have hsz := HBX.out.size
      clear HO hlt
      go_wp2
      go_ret
      exact ⟨_, rfl, HF.out.mono hsz, hbF⟩
end Go.Proofs.YtdlhodbiaoafiaaGreatDoor
namespace Go.Proofs.YtdlhodbiaoafiaaGreatDoor
open Go.RowKit SpM
set_option linter.unusedVariables false
set_option linter.unusedSimpArgs false
set_option maxRecDepth 20000
theorem validR_parts {P Q G : Int} {ys : List Int} {rows : List Row} (h : validR P Q G ys rows = true) :
    validG P Q G = true ∧ 1 ≤ ys.length ∧ ys.length ≤ 8 ∧ rows.length = ys.length ∧ ys.all (memG P Q) = true ∧ 1 ≤ rowN rows ∧ rowN rows ≤ 12 ∧ rows.all (rowB P Q (rowN rows)) = true := by
  simp only [validR, Bool.and_eq_true, decide_eq_true_eq] at h
  exact h
/-- the error of linear.check. -/
def chkR (P Q G : Int) (ys : List Int) (rows : List Row) (ls os : List Int) : Int :=
  if validR P Q G ys rows = true then (if ls.length = rowN rows then (if ls.all (scB Q) = true then (if os.all (scB Q) = true then 0 else 2) else 2) else 1) else 1
theorem sl_nil (w : World) : Sl w none [] := fun k hk => absurd hk (by simp)
set_option maxHeartbeats 6400000 in
theorem lcheck_1a (P Q G : Int) (Y : Option Addr) (ys : List Int) (yn yc : Nat) (B : Option Addr) (rows : List Row) (bn bc : Nat) (L : Option Addr) (ls : List Int) (ln lc : Nat) (O : Option Addr) (os : List Int) (on oc : Nat) (hyn : Hid (ys.length = yn)) (hbn : Hid (rows.length = bn)) (hln : Hid (ls.length = ln)) (hlb : ln < 1000000) (hon : Hid (os.length = on)) (hob : on < 1000000) (HVL : Hid (validR P Q G ys rows = false)) (hQ : Q < 9223372036854775808) (w : World) (hv : Hid (Vars w)) (hY : Hid (Sl w Y ys)) (hB : Hid (Rw w B rows)) (hL : Hid (Sl w L ls)) (hO : Hid (Sl w O os)) :
    Calls Tryz.prog 47 #[gv P Q G, relV Y yn yc B bn bc, .slice L ln lc, .slice O on oc] w fun e' w' => e' = .returned (.int .i64 1) ∧ Below w.heap.size w w' := by
  obtain ⟨w0, hW⟩ : ∃ W, (w.alloc (gObj P Q G)).alloc (relO Y yn yc B bn bc) = W := ⟨_, rfl⟩
  have HBw : Hid (Below w.heap.size w w0) := Lib.hid (by rw [← hW]; exact below_two (Below.refl _ _))
  have HX0 : Hid (GBox w0 w.heap.size P Q G) := Lib.hid (by rw [← hW]; exact (gbox_alloc w P Q G).below (below_box0 _ _))
  have HR0 : Hid (RBox w0 (w.heap.size + 1) (.slice Y yn yc) (.slice B bn bc)) := Lib.hid (by rw [← hW]; exact rbox_alloc1 _ _ _ _ _)
  have HY0 : Hid (Sl w0 Y ys) := Lib.hid (hY.out.below HBw.out)
  have HW_0 : Hid (Rw w0 B rows) := Lib.hid (hB.out.below HBw.out)
  have HL0 : Hid (Sl w0 L ls) := Lib.hid (hL.out.below HBw.out)
  have HO0 : Hid (Sl w0 O os) := Lib.hid (hO.out.below HBw.out)
  have HV0 : Hid (Vars w0) := Lib.hid (hv.out.below HBw.out)
  have HW := Lib.hid hW
  clear hW hY hB hL hO hv
  go_enter Tryz.func47, Tryz.ntmps47
  go_wp2_with fail
  rw [HW.out]
  go_wp2_with fail
  refine (lvalid_any P Q G Y ys yn yc B rows bn bc false HVL hyn hbn hQ _ HV0 HY0 HW_0).mono ?_
  rintro e w1 ⟨rfl, hb0⟩
  have hb1 := below_ext (HBw.out) hb0
  have HV1 := Lib.hid (HV0.out.below hb0)
  have HX1 := Lib.hid (HX0.out.below hb0)
  have HR1 := Lib.hid (HR0.out.below hb0)
  have HY1 := Lib.hid (HY0.out.below hb0)
  have HW_1 := Lib.hid (HW_0.out.below hb0)
  have HL1 := Lib.hid (HL0.out.below hb0)
  have HO1 := Lib.hid (HO0.out.below hb0)
  clear hb0
  obtain ⟨c0, c1, c2⟩ := HX1.out
  obtain ⟨d0, d1⟩ := HR1.out
  go_wp2
  go_ret
  exact ⟨rfl, hb1⟩
set_option maxHeartbeats 6400000 in
theorem lcheck_1b (P Q G : Int) (Y : Option Addr) (ys : List Int) (yn yc : Nat) (B : Option Addr) (rows : List Row) (bn bc : Nat) (L : Option Addr) (ls : List Int) (ln lc : Nat) (O : Option Addr) (os : List Int) (on oc : Nat) (hyn : Hid (ys.length = yn)) (hbn : Hid (rows.length = bn)) (hln : Hid (ls.length = ln)) (hlb : ln < 1000000) (hon : Hid (os.length = on)) (hob : on < 1000000) (HVL : Hid (validR P Q G ys rows = true)) (hlen : ls.length ≠ rowN rows) (hQ : Q < 9223372036854775808) (w : World) (hv : Hid (Vars w)) (hY : Hid (Sl w Y ys)) (hB : Hid (Rw w B rows)) (hL : Hid (Sl w L ls)) (hO : Hid (Sl w O os)) :
    Calls Tryz.prog 47 #[gv P Q G, relV Y yn yc B bn bc, .slice L ln lc, .slice O on oc] w fun e' w' => e' = .returned (.int .i64 1) ∧ Below w.heap.size w w' := by
  obtain ⟨w0, hW⟩ : ∃ W, (w.alloc (gObj P Q G)).alloc (relO Y yn yc B bn bc) = W := ⟨_, rfl⟩
  have HBw : Hid (Below w.heap.size w w0) := Lib.hid (by rw [← hW]; exact below_two (Below.refl _ _))
  have HX0 : Hid (GBox w0 w.heap.size P Q G) := Lib.hid (by rw [← hW]; exact (gbox_alloc w P Q G).below (below_box0 _ _))
  have HR0 : Hid (RBox w0 (w.heap.size + 1) (.slice Y yn yc) (.slice B bn bc)) := Lib.hid (by rw [← hW]; exact rbox_alloc1 _ _ _ _ _)
  have HY0 : Hid (Sl w0 Y ys) := Lib.hid (hY.out.below HBw.out)
  have HW_0 : Hid (Rw w0 B rows) := Lib.hid (hB.out.below HBw.out)
  have HL0 : Hid (Sl w0 L ls) := Lib.hid (hL.out.below HBw.out)
  have HO0 : Hid (Sl w0 O os) := Lib.hid (hO.out.below HBw.out)
  have HV0 : Hid (Vars w0) := Lib.hid (hv.out.below HBw.out)
  have HW := Lib.hid hW
  clear hW hY hB hL hO hv
  obtain ⟨v1, v2, v3, v4, v5, v6, v7, v8⟩ := validR_parts HVL.out
  have hbp : 0 < bn := by rw [← hbn.out]; omega
  obtain ⟨n0, hn0⟩ : ∃ n, rowN rows = n := ⟨_, rfl⟩
  have HN := Lib.hid hn0
  clear v1 v2 v3 v4 v5 v6 v7 v8
  have hne : ((ln : Int) != (n0 : Int)) = true := by rw [← hln.out, ← hn0]; simp; omega
  clear hn0
  go_enter Tryz.func47, Tryz.ntmps47
  go_wp2_with fail
  rw [HW.out]
  go_wp2_with fail
  refine (lvalid_any P Q G Y ys yn yc B rows bn bc true HVL hyn hbn hQ _ HV0 HY0 HW_0).mono ?_
  rintro e w1 ⟨rfl, hb0⟩
  have hb1 := below_ext (HBw.out) hb0
  have HV1 := Lib.hid (HV0.out.below hb0)
  have HX1 := Lib.hid (HX0.out.below hb0)
  have HR1 := Lib.hid (HR0.out.below hb0)
  have HY1 := Lib.hid (HY0.out.below hb0)
  have HW_1 := Lib.hid (HW_0.out.below hb0)
  have HL1 := Lib.hid (HL0.out.below hb0)
  have HO1 := Lib.hid (HO0.out.below hb0)
  clear hb0
  obtain ⟨c0, c1, c2⟩ := HX1.out
  obtain ⟨d0, d1⟩ := HR1.out
  go_wp2_with fail
  refine (lunknowns_any Y yn yc B rows bn bc n0 hbn hbp HN _ HW_1).mono ?_
  rintro e w2 ⟨rfl, hb0⟩
  have hb2 := below_ext hb1 hb0
  have HV2 := Lib.hid (HV1.out.below hb0)
  have HX2 := Lib.hid (HX1.out.below hb0)
  have HR2 := Lib.hid (HR1.out.below hb0)
  have HY2 := Lib.hid (HY1.out.below hb0)
  have HW_2 := Lib.hid (HW_1.out.below hb0)
  have HL2 := Lib.hid (HL1.out.below hb0)
  have HO2 := Lib.hid (HO1.out.below hb0)
  clear c0 c1 c2 d0 d1 hb0
  obtain ⟨c0, c1, c2⟩ := HX2.out
  obtain ⟨d0, d1⟩ := HR2.out
  go_wp2
  go_ret
  exact ⟨rfl, hb2⟩
set_option maxHeartbeats 6400000 in
theorem lcheck_2a (P Q G : Int) (Y : Option Addr) (ys : List Int) (yn yc : Nat) (B : Option Addr) (rows : List Row) (bn bc : Nat) (L : Option Addr) (ls : List Int) (ln lc : Nat) (O : Option Addr) (os : List Int) (on oc : Nat) (hyn : Hid (ys.length = yn)) (hbn : Hid (rows.length = bn)) (hln : Hid (ls.length = ln)) (hlb : ln < 1000000) (hon : Hid (os.length = on)) (hob : on < 1000000) (HVL : Hid (validR P Q G ys rows = true)) (hlen : ls.length = rowN rows) (Hl : Hid (ls.all (scB Q) = false)) (hQ : Q < 9223372036854775808) (w : World) (hv : Hid (Vars w)) (hY : Hid (Sl w Y ys)) (hB : Hid (Rw w B rows)) (hL : Hid (Sl w L ls)) (hO : Hid (Sl w O os)) :
    Calls Tryz.prog 47 #[gv P Q G, relV Y yn yc B bn bc, .slice L ln lc, .slice O on oc] w fun e' w' => e' = .returned (.int .i64 2) ∧ Below w.heap.size w w' := by
  obtain ⟨w0, hW⟩ : ∃ W, (w.alloc (gObj P Q G)).alloc (relO Y yn yc B bn bc) = W := ⟨_, rfl⟩
  have HBw : Hid (Below w.heap.size w w0) := Lib.hid (by rw [← hW]; exact below_two (Below.refl _ _))
  have HX0 : Hid (GBox w0 w.heap.size P Q G) := Lib.hid (by rw [← hW]; exact (gbox_alloc w P Q G).below (below_box0 _ _))
  have HR0 : Hid (RBox w0 (w.heap.size + 1) (.slice Y yn yc) (.slice B bn bc)) := Lib.hid (by rw [← hW]; exact rbox_alloc1 _ _ _ _ _)
  have HY0 : Hid (Sl w0 Y ys) := Lib.hid (hY.out.below HBw.out)
  have HW_0 : Hid (Rw w0 B rows) := Lib.hid (hB.out.below HBw.out)
  have HL0 : Hid (Sl w0 L ls) := Lib.hid (hL.out.below HBw.out)
  have HO0 : Hid (Sl w0 O os) := Lib.hid (hO.out.below HBw.out)
  have HV0 : Hid (Vars w0) := Lib.hid (hv.out.below HBw.out)
  have HW := Lib.hid hW
  clear hW hY hB hL hO hv
  obtain ⟨v1, v2, v3, v4, v5, v6, v7, v8⟩ := validR_parts HVL.out
  have hbp : 0 < bn := by rw [← hbn.out]; omega
  obtain ⟨n0, hn0⟩ : ∃ n, rowN rows = n := ⟨_, rfl⟩
  have HN := Lib.hid hn0
  clear v1 v2 v3 v4 v5 v6 v7 v8
  have hne : ((ln : Int) != (n0 : Int)) = false := by rw [← hln.out, ← hn0]; simp; omega
  clear hn0
  go_enter Tryz.func47, Tryz.ntmps47
  go_wp2_with fail
  rw [HW.out]
  go_wp2_with fail
  refine (lvalid_any P Q G Y ys yn yc B rows bn bc true HVL hyn hbn hQ _ HV0 HY0 HW_0).mono ?_
  rintro e w1 ⟨rfl, hb0⟩
  have hb1 := below_ext (HBw.out) hb0
  have HV1 := Lib.hid (HV0.out.below hb0)
  have HX1 := Lib.hid (HX0.out.below hb0)
  have HR1 := Lib.hid (HR0.out.below hb0)
  have HY1 := Lib.hid (HY0.out.below hb0)
  have HW_1 := Lib.hid (HW_0.out.below hb0)
  have HL1 := Lib.hid (HL0.out.below hb0)
  have HO1 := Lib.hid (HO0.out.below hb0)
  clear hb0
  obtain ⟨c0, c1, c2⟩ := HX1.out
  obtain ⟨d0, d1⟩ := HR1.out
  go_wp2_with fail
  refine (lunknowns_any Y yn yc B rows bn bc n0 hbn hbp HN _ HW_1).mono ?_
  rintro e w2 ⟨rfl, hb0⟩
  have hb2 := below_ext hb1 hb0
  have HV2 := Lib.hid (HV1.out.below hb0)
  have HX2 := Lib.hid (HX1.out.below hb0)
  have HR2 := Lib.hid (HR1.out.below hb0)
  have HY2 := Lib.hid (HY1.out.below hb0)
  have HW_2 := Lib.hid (HW_1.out.below hb0)
  have HL2 := Lib.hid (HL1.out.below hb0)
  have HO2 := Lib.hid (HO1.out.below hb0)
  clear c0 c1 c2 d0 d1 hb0
  obtain ⟨c0, c1, c2⟩ := HX2.out
  obtain ⟨d0, d1⟩ := HR2.out
  go_wp2_with fail
  refine (scalars_any P Q G L ls ln lc false Hl hln (Lib.hid hlb) _ HL2).mono ?_
  rintro e w3 ⟨rfl, hb0⟩
  have hb3 := below_ext hb2 hb0
  have HV3 := Lib.hid (HV2.out.below hb0)
  have HX3 := Lib.hid (HX2.out.below hb0)
  have HR3 := Lib.hid (HR2.out.below hb0)
  have HY3 := Lib.hid (HY2.out.below hb0)
  have HW_3 := Lib.hid (HW_2.out.below hb0)
  have HL3 := Lib.hid (HL2.out.below hb0)
  have HO3 := Lib.hid (HO2.out.below hb0)
  clear c0 c1 c2 d0 d1 hb0
  obtain ⟨c0, c1, c2⟩ := HX3.out
  obtain ⟨d0, d1⟩ := HR3.out
  go_wp2
  go_ret
  exact ⟨rfl, hb3⟩
set_option maxHeartbeats 6400000 in
theorem lcheck_2b (P Q G : Int) (Y : Option Addr) (ys : List Int) (yn yc : Nat) (B : Option Addr) (rows : List Row) (bn bc : Nat) (L : Option Addr) (ls : List Int) (ln lc : Nat) (O : Option Addr) (os : List Int) (on oc : Nat) (hyn : Hid (ys.length = yn)) (hbn : Hid (rows.length = bn)) (hln : Hid (ls.length = ln)) (hlb : ln < 1000000) (hon : Hid (os.length = on)) (hob : on < 1000000) (HVL : Hid (validR P Q G ys rows = true)) (hlen : ls.length = rowN rows) (Hl : Hid (ls.all (scB Q) = true)) (Ho : Hid (os.all (scB Q) = false)) (hQ : Q < 9223372036854775808) (w : World) (hv : Hid (Vars w)) (hY : Hid (Sl w Y ys)) (hB : Hid (Rw w B rows)) (hL : Hid (Sl w L ls)) (hO : Hid (Sl w O os)) :
    Calls Tryz.prog 47 #[gv P Q G, relV Y yn yc B bn bc, .slice L ln lc, .slice O on oc] w fun e' w' => e' = .returned (.int .i64 2) ∧ Below w.heap.size w w' := by
  obtain ⟨w0, hW⟩ : ∃ W, (w.alloc (gObj P Q G)).alloc (relO Y yn yc B bn bc) = W := ⟨_, rfl⟩
  have HBw : Hid (Below w.heap.size w w0) := Lib.hid (by rw [← hW]; exact below_two (Below.refl _ _))
  have HX0 : Hid (GBox w0 w.heap.size P Q G) := Lib.hid (by rw [← hW]; exact (gbox_alloc w P Q G).below (below_box0 _ _))
  have HR0 : Hid (RBox w0 (w.heap.size + 1) (.slice Y yn yc) (.slice B bn bc)) := Lib.hid (by rw [← hW]; exact rbox_alloc1 _ _ _ _ _)
  have HY0 : Hid (Sl w0 Y ys) := Lib.hid (hY.out.below HBw.out)
  have HW_0 : Hid (Rw w0 B rows) := Lib.hid (hB.out.below HBw.out)
  have HL0 : Hid (Sl w0 L ls) := Lib.hid (hL.out.below HBw.out)
  have HO0 : Hid (Sl w0 O os) := Lib.hid (hO.out.below HBw.out)
  have HV0 : Hid (Vars w0) := Lib.hid (hv.out.below HBw.out)
  have HW := Lib.hid hW
  clear hW hY hB hL hO hv
  obtain ⟨v1, v2, v3, v4, v5, v6, v7, v8⟩ := validR_parts HVL.out
  have hbp : 0 < bn := by rw [← hbn.out]; omega
  obtain ⟨n0, hn0⟩ : ∃ n, rowN rows = n := ⟨_, rfl⟩
  have HN := Lib.hid hn0
  clear v1 v2 v3 v4 v5 v6 v7 v8
  have hne : ((ln : Int) != (n0 : Int)) = false := by rw [← hln.out, ← hn0]; simp; omega
  clear hn0
  go_enter Tryz.func47, Tryz.ntmps47
  go_wp2_with fail
  rw [HW.out]
  go_wp2_with fail
  refine (lvalid_any P Q G Y ys yn yc B rows bn bc true HVL hyn hbn hQ _ HV0 HY0 HW_0).mono ?_
  rintro e w1 ⟨rfl, hb0⟩
  have hb1 := below_ext (HBw.out) hb0
  have HV1 := Lib.hid (HV0.out.below hb0)
  have HX1 := Lib.hid (HX0.out.below hb0)
  have HR1 := Lib.hid (HR0.out.below hb0)
  have HY1 := Lib.hid (HY0.out.below hb0)
  have HW_1 := Lib.hid (HW_0.out.below hb0)
  have HL1 := Lib.hid (HL0.out.below hb0)
  have HO1 := Lib.hid (HO0.out.below hb0)
  clear hb0
  obtain ⟨c0, c1, c2⟩ := HX1.out
  obtain ⟨d0, d1⟩ := HR1.out
  go_wp2_with fail
  refine (lunknowns_any Y yn yc B rows bn bc n0 hbn hbp HN _ HW_1).mono ?_
  rintro e w2 ⟨rfl, hb0⟩
  have hb2 := below_ext hb1 hb0
  have HV2 := Lib.hid (HV1.out.below hb0)
  have HX2 := Lib.hid (HX1.out.below hb0)
  have HR2 := Lib.hid (HR1.out.below hb0)
  have HY2 := Lib.hid (HY1.out.below hb0)
  have HW_2 := Lib.hid (HW_1.out.below hb0)
  have HL2 := Lib.hid (HL1.out.below hb0)
  have HO2 := Lib.hid (HO1.out.below hb0)
  clear c0 c1 c2 d0 d1 hb0
  obtain ⟨c0, c1, c2⟩ := HX2.out
  obtain ⟨d0, d1⟩ := HR2.out
  go_wp2_with fail
  refine (scalars_any P Q G L ls ln lc true Hl hln (Lib.hid hlb) _ HL2).mono ?_
  rintro e w3 ⟨rfl, hb0⟩
  have hb3 := below_ext hb2 hb0
  have HV3 := Lib.hid (HV2.out.below hb0)
  have HX3 := Lib.hid (HX2.out.below hb0)
  have HR3 := Lib.hid (HR2.out.below hb0)
  have HY3 := Lib.hid (HY2.out.below hb0)
  have HW_3 := Lib.hid (HW_2.out.below hb0)
  have HL3 := Lib.hid (HL2.out.below hb0)
  have HO3 := Lib.hid (HO2.out.below hb0)
  clear c0 c1 c2 d0 d1 hb0
  obtain ⟨c0, c1, c2⟩ := HX3.out
  obtain ⟨d0, d1⟩ := HR3.out
  go_wp2_with fail
  refine (scalars_any P Q G O os on oc false Ho hon (Lib.hid hob) _ HO3).mono ?_
  rintro e w4 ⟨rfl, hb0⟩
  have hb4 := below_ext hb3 hb0
  have HV4 := Lib.hid (HV3.out.below hb0)
  have HX4 := Lib.hid (HX3.out.below hb0)
  have HR4 := Lib.hid (HR3.out.below hb0)
  have HY4 := Lib.hid (HY3.out.below hb0)
  have HW_4 := Lib.hid (HW_3.out.below hb0)
  have HL4 := Lib.hid (HL3.out.below hb0)
  have HO4 := Lib.hid (HO3.out.below hb0)
  clear c0 c1 c2 d0 d1 hb0
  obtain ⟨c0, c1, c2⟩ := HX4.out
  obtain ⟨d0, d1⟩ := HR4.out
  go_wp2
  go_ret
  exact ⟨rfl, hb4⟩
set_option maxHeartbeats 6400000 in
theorem lcheck_0 (P Q G : Int) (Y : Option Addr) (ys : List Int) (yn yc : Nat) (B : Option Addr) (rows : List Row) (bn bc : Nat) (L : Option Addr) (ls : List Int) (ln lc : Nat) (O : Option Addr) (os : List Int) (on oc : Nat) (hyn : Hid (ys.length = yn)) (hbn : Hid (rows.length = bn)) (hln : Hid (ls.length = ln)) (hlb : ln < 1000000) (hon : Hid (os.length = on)) (hob : on < 1000000) (HVL : Hid (validR P Q G ys rows = true)) (hlen : ls.length = rowN rows) (Hl : Hid (ls.all (scB Q) = true)) (Ho : Hid (os.all (scB Q) = true)) (hQ : Q < 9223372036854775808) (w : World) (hv : Hid (Vars w)) (hY : Hid (Sl w Y ys)) (hB : Hid (Rw w B rows)) (hL : Hid (Sl w L ls)) (hO : Hid (Sl w O os)) :
    Calls Tryz.prog 47 #[gv P Q G, relV Y yn yc B bn bc, .slice L ln lc, .slice O on oc] w fun e' w' => e' = .returned (.int .i64 0) ∧ Below w.heap.size w w' := by
  obtain ⟨w0, hW⟩ : ∃ W, (w.alloc (gObj P Q G)).alloc (relO Y yn yc B bn bc) = W := ⟨_, rfl⟩
  have HBw : Hid (Below w.heap.size w w0) := Lib.hid (by rw [← hW]; exact below_two (Below.refl _ _))
  have HX0 : Hid (GBox w0 w.heap.size P Q G) := Lib.hid (by rw [← hW]; exact (gbox_alloc w P Q G).below (below_box0 _ _))
  have HR0 : Hid (RBox w0 (w.heap.size + 1) (.slice Y yn yc) (.slice B bn bc)) := Lib.hid (by rw [← hW]; exact rbox_alloc1 _ _ _ _ _)
  have HY0 : Hid (Sl w0 Y ys) := Lib.hid (hY.out.below HBw.out)
  have HW_0 : Hid (Rw w0 B rows) := Lib.hid (hB.out.below HBw.out)
  have HL0 : Hid (Sl w0 L ls) := Lib.hid (hL.out.below HBw.out)
  have HO0 : Hid (Sl w0 O os) := Lib.hid (hO.out.below HBw.out)
  have HV0 : Hid (Vars w0) := Lib.hid (hv.out.below HBw.out)
  have HW := Lib.hid hW
  clear hW hY hB hL hO hv
  obtain ⟨v1, v2, v3, v4, v5, v6, v7, v8⟩ := validR_parts HVL.out
  have hbp : 0 < bn := by rw [← hbn.out]; omega
  obtain ⟨n0, hn0⟩ : ∃ n, rowN rows = n := ⟨_, rfl⟩
  have HN := Lib.hid hn0
  clear v1 v2 v3 v4 v5 v6 v7 v8
  have hne : ((ln : Int) != (n0 : Int)) = false := by rw [← hln.out, ← hn0]; simp; omega
  clear hn0
  go_enter Tryz.func47, Tryz.ntmps47
  go_wp2_with fail
  rw [HW.out]
  go_wp2_with fail
  refine (lvalid_any P Q G Y ys yn yc B rows bn bc true HVL hyn hbn hQ _ HV0 HY0 HW_0).mono ?_
  rintro e w1 ⟨rfl, hb0⟩
  have hb1 := below_ext (HBw.out) hb0
  have HV1 := Lib.hid (HV0.out.below hb0)
  have HX1 := Lib.hid (HX0.out.below hb0)
  have HR1 := Lib.hid (HR0.out.below hb0)
  have HY1 := Lib.hid (HY0.out.below hb0)
  have HW_1 := Lib.hid (HW_0.out.below hb0)
  have HL1 := Lib.hid (HL0.out.below hb0)
  have HO1 := Lib.hid (HO0.out.below hb0)
  clear hb0
  obtain ⟨c0, c1, c2⟩ := HX1.out
  obtain ⟨d0, d1⟩ := HR1.out
  go_wp2_with fail
  refine (lunknowns_any Y yn yc B rows bn bc n0 hbn hbp HN _ HW_1).mono ?_
  rintro e w2 ⟨rfl, hb0⟩
  have hb2 := below_ext hb1 hb0
  have HV2 := Lib.hid (HV1.out.below hb0)
  have HX2 := Lib.hid (HX1.out.below hb0)
  have HR2 := Lib.hid (HR1.out.below hb0)
  have HY2 := Lib.hid (HY1.out.below hb0)
  have HW_2 := Lib.hid (HW_1.out.below hb0)
  have HL2 := Lib.hid (HL1.out.below hb0)
  have HO2 := Lib.hid (HO1.out.below hb0)
  clear c0 c1 c2 d0 d1 hb0
  obtain ⟨c0, c1, c2⟩ := HX2.out
  obtain ⟨d0, d1⟩ := HR2.out
  go_wp2_with fail
  refine (scalars_any P Q G L ls ln lc true Hl hln (Lib.hid hlb) _ HL2).mono ?_
  rintro e w3 ⟨rfl, hb0⟩
  have hb3 := below_ext hb2 hb0
  have HV3 := Lib.hid (HV2.out.below hb0)
  have HX3 := Lib.hid (HX2.out.below hb0)
  have HR3 := Lib.hid (HR2.out.below hb0)
  have HY3 := Lib.hid (HY2.out.below hb0)
  have HW_3 := Lib.hid (HW_2.out.below hb0)
  have HL3 := Lib.hid (HL2.out.below hb0)
  have HO3 := Lib.hid (HO2.out.below hb0)
  clear c0 c1 c2 d0 d1 hb0
  obtain ⟨c0, c1, c2⟩ := HX3.out
  obtain ⟨d0, d1⟩ := HR3.out
  go_wp2_with fail
  refine (scalars_any P Q G O os on oc true Ho hon (Lib.hid hob) _ HO3).mono ?_
  rintro e w4 ⟨rfl, hb0⟩
  have hb4 := below_ext hb3 hb0
  have HV4 := Lib.hid (HV3.out.below hb0)
  have HX4 := Lib.hid (HX3.out.below hb0)
  have HR4 := Lib.hid (HR3.out.below hb0)
  have HY4 := Lib.hid (HY3.out.below hb0)
  have HW_4 := Lib.hid (HW_3.out.below hb0)
  have HL4 := Lib.hid (HL3.out.below hb0)
  have HO4 := Lib.hid (HO3.out.below hb0)
  clear c0 c1 c2 d0 d1 hb0
  obtain ⟨c0, c1, c2⟩ := HX4.out
  obtain ⟨d0, d1⟩ := HR4.out
  go_wp2
  go_ret
  exact ⟨rfl, hb4⟩
theorem lcheck_any (P Q G : Int) (Y : Option Addr) (ys : List Int) (yn yc : Nat) (B : Option Addr) (rows : List Row) (bn bc : Nat) (L : Option Addr) (ls : List Int) (ln lc : Nat) (O : Option Addr) (os : List Int) (on oc : Nat) (r : Int) (hr : Hid (chkR P Q G ys rows ls os = r)) (hyn : Hid (ys.length = yn)) (hbn : Hid (rows.length = bn)) (hln : Hid (ls.length = ln)) (hlb : ln < 1000000) (hon : Hid (os.length = on)) (hob : on < 1000000) (hQ : Q < 9223372036854775808) (w : World) (hv : Hid (Vars w)) (hY : Hid (Sl w Y ys)) (hB : Hid (Rw w B rows)) (hL : Hid (Sl w L ls)) (hO : Hid (Sl w O os)) :
    Calls Tryz.prog 47 #[gv P Q G, relV Y yn yc B bn bc, .slice L ln lc, .slice O on oc] w fun e' w' => e' = .returned (.int .i64 r) ∧ Below w.heap.size w w' := by
  have hr' := hr.out
  unfold chkR at hr'
  cases h1 : validR P Q G ys rows with
  | false =>
    rw [h1] at hr'
    obtain rfl : r = 1 := hr'.symm
    exact lcheck_1a P Q G Y ys yn yc B rows bn bc L ls ln lc O os on oc hyn hbn hln hlb hon hob (Lib.hid h1) hQ w hv hY hB hL hO
  | true =>
    rw [h1, if_pos rfl] at hr'
    by_cases h2 : ls.length = rowN rows
    · rw [if_pos h2] at hr'
      cases h3 : ls.all (scB Q) with
      | false =>
        rw [h3] at hr'
        obtain rfl : r = 2 := hr'.symm
        exact lcheck_2a P Q G Y ys yn yc B rows bn bc L ls ln lc O os on oc hyn hbn hln hlb hon hob (Lib.hid h1) h2 (Lib.hid h3) hQ w hv hY hB hL hO
      | true =>
        rw [h3, if_pos rfl] at hr'
        cases h4 : os.all (scB Q) with
        | false =>
          rw [h4] at hr'
          obtain rfl : r = 2 := hr'.symm
          exact lcheck_2b P Q G Y ys yn yc B rows bn bc L ls ln lc O os on oc hyn hbn hln hlb hon hob (Lib.hid h1) h2 (Lib.hid h3) (Lib.hid h4) hQ w hv hY hB hL hO
        | true =>
          rw [h4, if_pos rfl] at hr'
          obtain rfl : r = 0 := hr'.symm
          exact lcheck_0 P Q G Y ys yn yc B rows bn bc L ls ln lc O os on oc hyn hbn hln hlb hon hob (Lib.hid h1) h2 (Lib.hid h3) (Lib.hid h4) hQ w hv hY hB hL hO
    · rw [if_neg h2] at hr'
      obtain rfl : r = 1 := hr'.symm
      exact lcheck_1b P Q G Y ys yn yc B rows bn bc L ls ln lc O os on oc hyn hbn hln hlb hon hob (Lib.hid h1) h2 hQ w hv hY hB hL hO
/-- a list that the call made, and no error. -/
def ListOk (zs : List Int) (w : World) (e : Ending) (w' : World) : Prop := ∃ v, e = .returned (.tuple #[v, .int .i64 0]) ∧ OwnL w' w.heap.size v zs ∧ Below w.heap.size w w'
end Go.Proofs.YtdlhodbiaoafiaaGreatDoor
namespace Go.Proofs.YtdlhodbiaoafiaaGreatDoor
open Go.RowKit SpM
set_option linter.unusedVariables false
set_option linter.unusedSimpArgs false
set_option maxRecDepth 20000
/-- the responses up to n. -/
def rspL (Q c : Int) (ks xs : List Int) (n : Nat) : List Int := (List.range n).map fun i => (ks.getD i 0 + c * xs.getD i 0 % Q) % Q
theorem rspL_length (Q c : Int) (ks xs : List Int) (n : Nat) : (rspL Q c ks xs n).length = n := by simp [rspL]
theorem rspL_succ (Q c : Int) (ks xs : List Int) (n : Nat) : rspL Q c ks xs (n + 1) = rspL Q c ks xs n ++ [(ks.getD n 0 + c * xs.getD n 0 % Q) % Q] := by
  simp [rspL, List.range_succ]
theorem sl_of_cells {w : World} {b : Nat} {xs : List Int} (h : Cells w b xs) : Sl w (some ⟨b, 0, none⟩) xs := fun k hk => ⟨b, 0, rfl, by rw [Nat.zero_add]; exact h k hk⟩
theorem scB_one {Q c : Int} (h0 : 0 ≤ c) (h1 : c < Q) : [c].all (scB Q) = true := by simp [scB]; omega
set_option maxHeartbeats 6400000 in
theorem lrespond_ok (P Q G : Int) (K : Option Addr) (ks : List Int) (kn kc : Nat) (c : Int) (X : Option Addr) (xs : List Int) (xc : Nat) (hg : Hid (validG P Q G = true)) (hkn : Hid (ks.length = kn)) (hxn : Hid (xs.length = kn)) (h1 : 1 ≤ kn) (h2 : kn ≤ 12)
    (hk : Hid (ks.all (scB Q) = true)) (hx : Hid (xs.all (scB Q) = true)) (hc0 : 0 ≤ c) (hc1 : c < Q) (hQ : Q < 9223372036854775808) (w : World) (hv : Hid (Vars w)) (hK : Hid (Sl w K ks)) (hX : Hid (Sl w X xs)) :
    Calls Tryz.prog 60 #[gv P Q G, .slice K kn kc, .int .i64 c, .slice X kn xc] w (ListOk (rspL Q c ks xs kn) w) := by
  obtain ⟨i0, hi, hz0, hz1, hz2⟩ := info_parts intInfo
  obtain ⟨hp2, hp, hq3, hqp⟩ := validG_P hg.out
  have HV0 := Lib.hid (hv.out.below (below_box0 w (gObj P Q G)))
  have HX0 := Lib.hid (gbox_alloc w P Q G)
  have HK0 := Lib.hid (hK.out.below (below_box0 w (gObj P Q G)))
  have HS0 := Lib.hid (hX.out.below (below_box0 w (gObj P Q G)))
  have d1 : decide ((kn : Int) < 1) = false := by simp; omega
  have d2 : decide ((12 : Int) < (kn : Int)) = false := by simp; omega
  clear hv hK hX
  go_enter Tryz.func60, Tryz.ntmps60
  go_wp2_with fail
  refine (valid_any P Q G true hg hQ _ HV0).mono ?_
  rintro e w1 ⟨rfl, hb0⟩
  have hb1 := below_ext (below_box0 _ _) hb0
  have HV1 := Lib.hid (HV0.out.below hb0)
  have HX1 := Lib.hid (HX0.out.below hb0)
  have HK1 := Lib.hid (HK0.out.below hb0)
  have HS1 := Lib.hid (HS0.out.below hb0)
  clear hb0
  obtain ⟨c0, c1, c2⟩ := HX1.out
  go_wp2_with fail
  refine (scalars_any P Q G K ks kn kc true hk hkn (Lib.hid (by omega)) _ HK1).mono ?_
  rintro e w2 ⟨rfl, hb0⟩
  have hb2 := below_ext hb1 hb0
  have HV2 := Lib.hid (HV1.out.below hb0)
  have HX2 := Lib.hid (HX1.out.below hb0)
  have HK2 := Lib.hid (HK1.out.below hb0)
  have HS2 := Lib.hid (HS1.out.below hb0)
  clear c0 c1 c2 hb0
  obtain ⟨c0, c1, c2⟩ := HX2.out
  go_wp2_with fail
  refine (scalars_any P Q G X xs kn xc true hx hxn (Lib.hid (by omega)) _ HS2).mono ?_
  rintro e w3 ⟨rfl, hb0⟩
  have hb3 := below_ext hb2 hb0
  have HV3 := Lib.hid (HV2.out.below hb0)
  have HX3 := Lib.hid (HX2.out.below hb0)
  have HK3 := Lib.hid (HK2.out.below hb0)
  have HS3 := Lib.hid (HS2.out.below hb0)
  clear c0 c1 c2 hb0
  obtain ⟨c0, c1, c2⟩ := HX3.out
  have hq := below_box0 w3 (.cells #[.int .i64 c] 3)
  have HO := Lib.hid (sl_of_cells (cells1 w3 3 c))
  have HXa := Lib.hid (HX3.out.below hq)
  have HKa := Lib.hid (HK3.out.below hq)
  have HSa := Lib.hid (HS3.out.below hq)
  have hba := below_ext hb3 hq
  have HBO := Lib.hid (scB_one hc0 hc1)
  clear hq
  go_wp2_with fail
  refine (scalars_any P Q G (some ⟨w3.heap.size, 0, none⟩) [c] 1 1 true HBO (Lib.hid rfl) (Lib.hid (by omega)) _ HO).mono ?_
  rintro e W ⟨rfl, hb0⟩
  have hbW := below_ext hba hb0
  have HXW := Lib.hid (HXa.out.below hb0)
  have HKW := Lib.hid (HKa.out.below hb0)
  have HSW := Lib.hid (HSa.out.below hb0)
  clear hb0 c0 c1 c2
  go_wp2
  go_loopw [10, 55] (fun v i wr => ∃ k : Nat, k ≤ kn ∧ i = .int .i64 k ∧ Hid (OwnL wr W.heap.size v (rspL Q c ks xs k)) ∧ Hid (Below W.heap.size W wr)) (fun _ i _ => kn - (intOf i).toNat)
  case atStart => exact ⟨0, by omega, rfl, Lib.hid (ownL_nil _ _), Lib.hid (Below.refl _ _)⟩
  case round =>
    obtain ⟨k, hkk, rfl, HOr, HBr⟩ := hrel
    by_cases hlt : k < kn
    · have hkl : k < ks.length := by rw [hkn.out]; exact hlt
      have hxl : k < xs.length := by rw [hxn.out]; exact hlt
      obtain ⟨b1, o1, hK, hi0⟩ := HKW.out.below HBr.out k hkl
      obtain ⟨b2, o2, hX, hi1⟩ := HSW.out.below HBr.out k hxl
      subst hK
      subst hX
      obtain ⟨c0, c1, c2⟩ := HXW.out.below HBr.out
      have hm1 := all_get hk.out hkl
      have hm2 := all_get hx.out hxl
      have hst := rspL_succ Q c ks xs k
      obtain ⟨x, hxx⟩ : ∃ x, ks.getD k 0 = x := ⟨_, rfl⟩
      obtain ⟨y, hyy⟩ : ∃ x, xs.getD k 0 = x := ⟨_, rfl⟩
      rw [hxx] at hi0 hm1 hst
      rw [hyy] at hi1 hm2 hst
      have x0 := scB_lo hm1
      have x1 := scB_hi hm1
      have y0 := scB_lo hm2
      have y1 := scB_hi hm2
      obtain ⟨p, hp1⟩ : ∃ p, c * y % Q = p := ⟨_, rfl⟩
      have p0 : 0 ≤ p := by rw [← hp1]; exact Int.emod_nonneg _ (by omega)
      have p1 : p < Q := by rw [← hp1]; exact Int.emod_lt_of_pos _ (by omega)
      rw [hp1] at hst
      obtain ⟨t, ht⟩ : ∃ t, (x + p) % Q = t := ⟨_, rfl⟩
      rw [ht] at hst
      have htm : (x + p).tmod Q = t := by rw [Int.tmod_eq_emod_of_nonneg (by omega), ht]
      have t0 : 0 ≤ t := by rw [← ht]; exact Int.emod_nonneg _ (by omega)
      have t1 : t < Q := by rw [← ht]; exact Int.emod_lt_of_pos _ (by omega)
      have hwt : IntKind.i64.wrap t = t := IntWalk.i64_in _ (by omega)
      have hQn : ¬ (Q = 0) := by omega
      have hQz : ((Q : Int) == 0) = false := by simp; omega
      have hsum : IntKind.i64.wrap (x + p) = x + p := IntWalk.i64_in _ (by omega)
      have hsum2 : wrap64 (x + p) = x + p := IntWalk.wrap64_in _ (by omega)
      have HST := Lib.hid hst
      have HP1 := Lib.hid hp1
      have HTL := Lib.hid (rspL_length Q c ks xs k)
      clear hm1 hm2 hst hxx hyy hp1 hkl hxl
      go_wp2
      go_quiet ((go_at_call 75; exact Calls.quiet_of (wmul_eq c y Q p HP1 (by omega) hc0 hc1 y0 y1 _)))
      have HO1 := Lib.hid (HOr.out.keep (below_drawN (Below.refl wr.heap.size wr) nq))
      have HB1 : Hid (Below W.heap.size W (wr.drewN nq)) := Lib.hid (below_drawN HBr.out _)
      obtain ⟨wq, hwq⟩ : ∃ x, wr.drewN nq = x := ⟨_, rfl⟩
      have HQB : Hid (Below wr.heap.size wr wq) := Lib.hid (by rw [← hwq]; exact below_drawN (Below.refl _ _) _)
      rw [hwq] at HO1 HB1 ⊢
      clear hwq
      have hi0q := cell_below hi0 HQB.out
      have c1q := cell_below c1 HQB.out
      go_wp2
      have hown : wq.ownsRow W.heap.size 3 1 u10 k ((rspL Q c ks xs k).map (Value.int .i64)) := by
        have h3 := HO1.out
        unfold OwnL at h3
        rwa [HTL.out] at h3
      have hbs := HB1.out.size
      have lb : b1 < W.heap.size := by
        obtain ⟨bb, oo, e1, e2⟩ := HKW.out k (by rw [hkn.out]; exact hlt)
        cases e1
        exact World.block_lt_of_cell? _ _ e2
      have lg : w.heap.size < W.heap.size := World.block_lt_of_cell? _ _ HXW.out.2.1
      have ag : u10.ownBlock ≠ some b1 := fun e => by have := (World.ownsRow.lt hown _ e).1; omega
      have ah : u10.ownBlock ≠ some w.heap.size := fun e => by have := (World.ownsRow.lt hown _ e).1; omega
      go_region_held3 (fun w' => w'.cell? ⟨b1, o1 + k, none⟩ = some (.int .i64 x) ∧ w'.cell? ⟨w.heap.size, 1, none⟩ = some (.int .i64 Q))
        (first | go_keep | (go_split_ands; refine ⟨?_, ?_⟩ <;> (first | (rw [hgrow.cell_far _ (by simp; omega) (Ne.symm ag)]; assumption) | (rw [hgrow.cell_far _ (by simp; omega) (Ne.symm ah)]; assumption))))
        ((refine step_append_lies _ (by rfl) _ _ _ (by rfl) W.heap.size 3 i0 _ 1 8 Tryz.underlying26 hi hz0 hz1 hz2 rfl (by omega) u10 k ((rspL Q c ks xs k).map (Value.int .i64)) (by rfl) ((hown.alloc _).drew)
            ⟨wq.heap.size, 0, none⟩ 1 1 [.int .i64 t] (by rfl) (by rfl) (World.news_of_block (cs := #[.int .i64 t]) (t := 3) (fr := (0, 0)) (heap_alloc_new wq _)) (by simp [Value.oneCell'])
            (by omega) (by unfold maxLen; omega) (by omega) (by simp; omega) (wq.heap.size + 1) (by simp) ?_; intro gg cap wz hown1 hgrow hat hlt2))
      have HO3 : Hid (OwnL wz W.heap.size (.slice (some ⟨gg, 0, none⟩) (k + 1) cap) (rspL Q c ks xs (k + 1))) := Lib.hid (by
        rw [HST.out]
        exact OwnL.app HTL.out.symm hown1)
      have HB3 : Hid (Below W.heap.size W wz) := Lib.hid (OwnL.below (o := .cells #[.int .i64 t] 3) HO1.out HB1.out hbs (by first | exact hgrow | exact ⟨hgrow.os, hgrow.tape, hgrow.output, hgrow.size, hgrow.block⟩))
      clear hown hown1 hgrow
      go_wp2
      go_roundw
      case rel => exact ⟨k + 1, by omega, by go_num, HO3, HB3⟩
      case measure => simp [intOf]; omega
    · obtain rfl : k = kn := by omega
      have HF := Lib.hid (HOr.out.mono (by have := hbW.size; omega : w.heap.size ≤ W.heap.size))
      have hbF := below_ext hbW HBr.out
      clear HOr hlt
      go_wp2
      go_ret2
      exact ⟨_, rfl, HF.out, hbF⟩
end Go.Proofs.YtdlhodbiaoafiaaGreatDoor
namespace Go.Proofs.YtdlhodbiaoafiaaGreatDoor
open Go.RowKit SpM
set_option linter.unusedVariables false
set_option linter.unusedSimpArgs false
set_option maxRecDepth 100000
/-- the states of a source that yields numbers: the counter, and whether it is used up. -/
def stD (h : List Int) (q c : Int) : Nat → Int × Bool
  | 0 => (c, false)
  | k + 1 => ((numD h q (maskD q) 256 (stD h q c k).1 0).2.1, (numD h q (maskD q) 256 (stD h q c k).1 0).2.2)
def xD (h : List Int) (q c : Int) (k : Nat) : Int := (numD h q (maskD q) 256 (stD h q c k).1 0).1
def lstD (h : List Int) (q c : Int) (n : Nat) : List Int := (List.range n).map (xD h q c)
theorem lstD_len (h : List Int) (q c : Int) (n : Nat) : (lstD h q c n).length = n := by simp [lstD]
theorem lstD_succ (h : List Int) (q c : Int) (k : Nat) : lstD h q c (k + 1) = lstD h q c k ++ [xD h q c k] := by simp [lstD, List.range_succ]
theorem numD_full {h : List Int} {q m : Int} : ∀ (k : Nat) (c x : Int), (numD h q m k c x).2.2 = true → (numD h q m k c x).2.1 = 1099511627776
  | 0, c, x, hf => by simp [numD] at hf
  | k + 1, c, x, hf => by
    simp only [numD] at hf ⊢
    by_cases he : c = 1099511627776
    · rw [if_pos he]; exact he
    · rw [if_neg he] at hf ⊢
      by_cases hy : bits BinOp.and IntKind.u64 (fst8 (blkL h c)) m < q
      · rw [if_pos hy] at hf; cases hf
      · rw [if_neg hy] at hf ⊢; exact numD_full k _ _ hf
theorem stD_lo {h : List Int} {q c : Int} (hc0 : 0 ≤ c) (hc1 : c ≤ 1099511627776) : ∀ k, 0 ≤ (stD h q c k).1 ∧ (stD h q c k).1 ≤ 1099511627776 ∧ ((stD h q c k).2 = true → (stD h q c k).1 = 1099511627776)
  | 0 => ⟨hc0, hc1, fun h => by cases h⟩
  | k + 1 => by
    obtain ⟨h0, h1, _⟩ := stD_lo (h := h) (q := q) hc0 hc1 k
    have h2 := numD_cnt (h := h) (q := q) (m := maskD q) 256 (stD h q c k).1 0 h1
    exact ⟨by show 0 ≤ (numD h q (maskD q) 256 (stD h q c k).1 0).2.1; omega, h2.2, numD_full 256 _ _⟩
theorem xD_lo {h : List Int} {q c : Int} (hq : 1 ≤ q) (k : Nat) : 0 ≤ xD h q c k ∧ xD h q c k < q := numD_lo hq _ _ _ (Int.le_refl _)
theorem lstD_sc {h : List Int} {q c : Int} (hq : 1 ≤ q) (n : Nat) : (lstD h q c n).all (scB q) = true := by
  rw [List.all_eq_true]
  intro x hx
  obtain ⟨i, _, rfl⟩ := List.mem_map.1 hx
  have := xD_lo (h := h) (c := c) hq i
  simp [scB]; exact this
theorem builtS (h : List Int) (hl : h.length = 32) (c : Int) : Tryz.prog.built 118 [(0, .agg (tcs h c))] = some (scs h c false) := by
  obtain ⟨a0, a1, a2, a3, a4, a5, a6, a7, a8, a9, a10, a11, a12, a13, a14, a15, a16, a17, a18, a19, a20, a21, a22, a23, a24, a25, a26, a27, a28, a29, a30, a31, rfl⟩ := list32 h hl
  kernel_rfl
/-- what a list of draws is: the source behind it and the numbers, or that the source is used up. -/
def LstOut (h : List Int) (q c : Int) (n : Nat) (w : World) (e : Ending) (w' : World) : Prop :=
  if (stD h q c n).2 = true then e = .returned (.tuple #[.agg (tcs (zer 32) 0), .slice none 0 0, .int .i64 5]) ∧ Below w.heap.size w w'
  else ∃ v, e = .returned (.tuple #[.agg (tcs h (stD h q c n).1), v, .int .i64 0]) ∧ OwnL w' w.heap.size v (lstD h q c n) ∧ Below w.heap.size w w'
set_option maxHeartbeats 6400000 in
theorem dlist_any (h : List Int) (hl : Hid (h.length = 32)) (hb : Hid (bytesB h = true)) (c : Int) (hdr : Hid (drB c = true)) (q : Int) (hq1 : 1 ≤ q) (hq2 : q < 2305843009213693952) (n : Nat) (hn : n ≤ 1000) (w : World) (hv : Hid (VarsD w)) :
    Calls Tryz.prog 57 #[.agg (tcs h c), .int .i64 q, .int .i64 n] w (LstOut h q c n w) := by
  obtain ⟨hc0, hc1⟩ : 0 ≤ c ∧ c ≤ 1099511627776 := by have h2 := hdr.out; simp [drB] at h2; exact h2
  obtain ⟨i0, hi, hz0, hz1, hz2⟩ := info_parts intInfo
  obtain ⟨W, hW⟩ : ∃ W, (w.alloc (.cells (tcs h c) 56)).alloc (.cells #[.int .u8 0, .int .u8 0, .int .u8 0, .int .u8 0, .int .u8 0, .int .u8 0, .int .u8 0, .int .u8 0, .int .u8 0, .int .u8 0, .int .u8 0, .int .u8 0, .int .u8 0, .int .u8 0, .int .u8 0, .int .u8 0, .int .u8 0, .int .u8 0, .int .u8 0, .int .u8 0, .int .u8 0, .int .u8 0, .int .u8 0, .int .u8 0, .int .u8 0, .int .u8 0, .int .u8 0, .int .u8 0, .int .u8 0, .int .u8 0, .int .u8 0, .int .u8 0, .int .i64 0] 56) = W := ⟨_, rfl⟩
  have HBX : Hid (Below w.heap.size w W) := Lib.hid (by rw [← hW]; exact below_two (Below.refl _ _))
  have HT0 : Hid (DBlk W w.heap.size h c) := Lib.hid (by rw [← hW]; exact heap_alloc2_old _ _ _)
  have HR0 : Hid (DBlk W (w.heap.size + 1) (zer 32) 0) := Lib.hid (by rw [← hW, ztr]; exact heap_alloc2_new _ _ _)
  have HSZ : Hid (W.heap.size = w.heap.size + 2) := Lib.hid (by rw [← hW]; simp)
  have HV := Lib.hid (hv.out.below HBX.out)
  have HW := Lib.hid hW
  clear hW hv
  go_enter Tryz.func57, Tryz.ntmps57
  go_upto_region 1 with (fail)
  rw [HW.out]
  clear HW
  go_wp2_with ((with_reducible show wpList _ _ _ (⟨some 12, _, _, _, _, _⟩ :: _) _ _); refine wpList_load_row rfl 56 _ rfl w.heap.size rfl _ _ _ _ HT0.out Tryz.underlying56 rfl (dr_info hl.out) ?_)
  refine (dcheck_ok h hl c hdr q 1 2305843009213693951 hq1 (by omega) _).mono ?_
  rintro e w1 ⟨rfl, hb1⟩
  have HT1 := Lib.hid (HT0.out.below hb1)
  have HB1 := Lib.hid (below_ext HBX.out hb1)
  have HBW1 := Lib.hid hb1
  clear hb1
  go_wp2_with ((with_reducible show wpList _ _ _ (⟨some 17, _, _, _, _, _⟩ :: _) _ _); refine wpList_load_row rfl 56 _ rfl w.heap.size rfl _ _ _ _ HT1.out Tryz.underlying56 rfl (dr_info hl.out) ?_)
  refine (dcheck_ok h hl c hdr n 0 1000 (by omega) (by omega) _).mono ?_
  rintro e w2 ⟨rfl, hb2⟩
  have HT2 := Lib.hid (HT1.out.below hb2)
  have HB2 := Lib.hid (below_ext HB1.out hb2)
  have HBW2 := Lib.hid (below_ext HBW1.out hb2)
  have HV2 := Lib.hid (HV.out.below HBW2.out)
  clear hb2 HT1 HB1 HBW1
  go_wp2_with (first
    | ((with_reducible show wpList _ _ _ (⟨some 24, _, _, _, _, _⟩ :: _) _ _); refine wpList_load_row rfl 56 _ rfl w.heap.size rfl _ _ _ _ HT2.out Tryz.underlying56 rfl (dr_info hl.out) ?_)
    | ((with_reducible show wpList _ _ _ (⟨some 25, _, _, _, _, _⟩ :: _) _ _); refine wpList_built rfl 118 _ rfl _ (builtS h hl.out c) ?_))
  have hS3 : SBlk (w2.alloc (.cells (scs h c false) 118)) w2.heap.size h c false := heap_alloc_new _ _
  have hb3 := below_box0 w2 (.cells (scs h c false) 118)
  have hsz3 : (w2.alloc (.cells (scs h c false) 118)).heap.size = w2.heap.size + 1 := by simp
  obtain ⟨W3, hW3⟩ : ∃ u, w2.alloc (.cells (scs h c false) 118) = u := ⟨_, rfl⟩
  rw [hW3] at hS3 hb3 hsz3 ⊢
  have HS3 := Lib.hid hS3
  have HB3 := Lib.hid hb3
  have HSZ3 := Lib.hid hsz3
  obtain ⟨b, hbb⟩ : ∃ b, w2.heap.size = b := ⟨_, rfl⟩
  rw [hbb] at HS3 HSZ3 ⊢
  have HBB := Lib.hid hbb
  have hbw : w.heap.size + 2 ≤ b := by have := HBW2.out.size; have := HSZ.out; omega
  clear hS3 hb3 hsz3 hW3 hbb
  go_loopw [11, 28] (fun v i u => ∃ k : Nat, k ≤ n ∧ i = .int .i64 k ∧ Hid (SBlk u b h (stD h q c k).1 (stD h q c k).2) ∧ Hid (OwnL u (b + 1) v (lstD h q c k)) ∧ Hid (Below b w2 u) ∧ Hid (b + 1 ≤ u.heap.size)) (fun _ i _ => n - (intOf i).toNat)
  case atStart => exact ⟨0, by omega, rfl, HS3, Lib.hid (ownL_nil _ _), Lib.hid (by have h2 := HB3.out; rwa [HBB.out] at h2), Lib.hid (by have := HSZ3.out; omega)⟩
  case round =>
    obtain ⟨k, hk, rfl, HSr, HO, HBr, HZr⟩ := hrel
    by_cases hlt : k < n
    · obtain ⟨hk0, hk1, hkf⟩ := stD_lo (h := h) (q := q) hc0 hc1 k
      have HST : Hid (stD h q c (k + 1) = ((numD h q (maskD q) 256 (stD h q c k).1 0).2.1, (numD h q (maskD q) 256 (stD h q c k).1 0).2.2)) := Lib.hid rfl
      have HX : Hid (xD h q c k = (numD h q (maskD q) 256 (stD h q c k).1 0).1) := Lib.hid rfl
      have HLS := Lib.hid (lstD_succ h q c k)
      have HLL := Lib.hid (lstD_len h q c k)
      obtain ⟨cc, hcc⟩ : ∃ x, (stD h q c k).1 = x := ⟨_, rfl⟩
      obtain ⟨ff, hff⟩ : ∃ x, (stD h q c k).2 = x := ⟨_, rfl⟩
      obtain ⟨L, hL⟩ : ∃ x, lstD h q c k = x := ⟨_, rfl⟩
      obtain ⟨x, hx⟩ : ∃ x, xD h q c k = x := ⟨_, rfl⟩
      obtain ⟨r, hr⟩ : ∃ x, numD h q (maskD q) 256 cc 0 = x := ⟨_, rfl⟩
      rw [hcc, hr] at HST HX
      rw [hL, hx] at HLS
      rw [hL] at HLL HO
      rw [hx] at HX
      rw [hcc, hff] at HSr
      rw [hcc] at hk0 hk1 hkf
      rw [hff] at hkf
      obtain ⟨rn, rc, rf⟩ := r
      have HNR : Kp (numD h q (maskD q) 256 cc 0 = (rn, rc, rf)) := ⟨hr⟩
      obtain rfl : x = rn := HX.out
      clear hcc hff hL hx hr HX
      go_wp2_with fail
      refine (dnumber_any h hl hb q hq1 hq2 cc hk0 hk1 b w2 HV2 _ (Lib.hid (by have h2 := HBr.out; rwa [← HBB.out] at h2)) (by rw [HBB.out]; exact Nat.le_refl _) ff hkf HSr x rc rf HNR).mono ?_
      rintro e w4 ⟨rfl, hS4, hG4⟩
      have HS4 := Lib.hid hS4
      have HB4 : Hid (Below b w2 w4) := Lib.hid (HBr.out.trans (gb_toBelow hG4 (Nat.le_refl _) (by have := HZr.out; omega)))
      have HZ4 : Hid (b + 1 ≤ w4.heap.size) := Lib.hid (Nat.le_trans HZr.out hG4.size)
      have HO4 : Hid (OwnL w4 (b + 1) u11 L) := Lib.hid (World.ownsRow.kept HO.out hG4 (Or.inr (fun e => by have := (World.ownsRow.lt HO.out _ e).1; omega)))
      have hown : w4.ownsRow (b + 1) 3 1 u11 k (L.map (Value.int .i64)) := by
        have h3 := HO4.out
        unfold OwnL at h3
        rwa [HLL.out] at h3
      have hbs := HZ4.out
      clear hS4 hG4 HO
      go_wp2_with (at_builtin; refine wpList_append_own _ rfl _ _ 26 rfl (b + 1) 3 i0 (.int .i64 0) 1 8 Tryz.underlying26 hi hz0 hz1 hz2 rfl (by decide) _ _ _ rfl (hown.alloc _) ⟨w4.heap.size, 0, none⟩ 1 1 [.int .i64 x] rfl rfl (cell_one_new _ _ _) (ints_oneCell .i64 [x]) (by unfold maxLen; omega) (by omega) (by simp; omega) ?_; intro v' w5 hown1 hgrow1 _)
      have HO5 : Hid (OwnL w5 (b + 1) v' (lstD h q c (k + 1))) := Lib.hid (by
        rw [HLS.out]
        exact OwnL.app HLL.out.symm hown1)
      have HB5 : Hid (Below b w2 w5) := Lib.hid ((HB4.out.alloc (by omega) (.cells #[.int .i64 x] 3)).grown hgrow1 (by simp; omega) (fun j hj => by have := (World.ownsRow.lt HO4.out j hj).1; omega))
      have HZ5 : Hid (b + 1 ≤ w5.heap.size) := Lib.hid (by have h2 := hgrow1.size; simp at h2; omega)
      have HS5 : Hid (SBlk w5 b h (stD h q c (k + 1)).1 (stD h q c (k + 1)).2) := Lib.hid (by
        rw [HST.out]
        have h2 : SBlk (w4.alloc (.cells #[.int .i64 x] 3)) b h rc rf := HS4.out.below (below_box0 _ _)
        exact (hgrow1.block b h2.lt (fun e => by have := (World.ownsRow.lt HO4.out _ e.symm).1; omega)).trans h2)
      clear hown hown1 hgrow1
      go_roundw
      case rel => exact ⟨k + 1, by omega, by go_num, HS5, HO5, HB5, HZ5⟩
      case measure => simp [intOf]; omega
    · obtain rfl : k = n := by omega
      clear hlt
      have HT3 : Hid (DBlk wr w.heap.size h c) := Lib.hid ((HBr.out.block _ (by omega)).trans HT2.out)
      have HR3 : Hid (DBlk wr (w.heap.size + 1) (zer 32) 0) := Lib.hid ((HBr.out.block _ (by omega)).trans (HR0.out.below HBW2.out))
      have HBw : Hid (Below w.heap.size w wr) := Lib.hid (HB2.out.trans (HBr.out.mono (by omega)))
      have HLO : Hid (LstOut h q c k w = fun e w' => if (stD h q c k).2 = true then e = .returned (.tuple #[.agg (tcs (zer 32) 0), .slice none 0 0, .int .i64 5]) ∧ Below w.heap.size w w' else ∃ v, e = .returned (.tuple #[.agg (tcs h (stD h q c k).1), v, .int .i64 0]) ∧ OwnL w' w.heap.size v (lstD h q c k) ∧ Below w.heap.size w w') := Lib.hid rfl
      obtain ⟨cc, hcc⟩ : ∃ x, (stD h q c k).1 = x := ⟨_, rfl⟩
      obtain ⟨ff, hff⟩ : ∃ x, (stD h q c k).2 = x := ⟨_, rfl⟩
      obtain ⟨L, hL⟩ : ∃ x, lstD h q c k = x := ⟨_, rfl⟩
      rw [hcc, hff, hL] at HLO
      rw [hcc, hff] at HSr
      rw [hL] at HO
      clear hcc hff hL HBr HB2 HT2 HR0 HBW2
      go_wp2_with fail
      refine (dresult_any h hl cc ff b _ HSr).mono ?_
      rintro e w5 ⟨rfl, hb5⟩
      have HT5 := Lib.hid (HT3.out.below hb5)
      have HR5 := Lib.hid (HR3.out.below hb5)
      have HB5 := Lib.hid (below_ext HBw.out hb5)
      have HO5 : Hid (OwnL w5 (b + 1) u11 L) := Lib.hid (World.ownsRow.kept HO.out (gb_below hb5 none) (by cases hq : u11.ownBlock with | none => exact Or.inl rfl | some j => exact Or.inr (by simp)))
      clear hb5 HT3 HR3 HBw HO HSr
      cases ff with
      | true =>
        rw [if_pos rfl, show DrE (zer 32) 0 5 = .tuple #[.agg (tcs (zer 32) 0), .int .i64 5] from rfl]
        have HR6 : Hid (DBlk (w5.setRow w.heap.size (tcs (zer 32) 0)) (w.heap.size + 1) (zer 32) 0) := Lib.hid ((setRow_other _ _ _ _ (by omega)).trans HR5.out)
        have HB6 := Lib.hid (below_setRow' (cs := tcs (zer 32) 0) HB5.out (Nat.le_refl _))
        go_wp2_with (first
          | ((with_reducible show wpList _ _ _ (⟨some 44, _, _, _, _, _⟩ :: _) _ _); refine wpList_built rfl 56 _ rfl _ builtD ?_)
          | ((with_reducible show wpList _ _ _ (⟨none, Op.store _ (Operand.tmp 3) _, _, _, _, _⟩ :: _) _ _); refine wpList_store_row rfl 56 _ _ rfl w.heap.size (tcs (zer 32) 0) rfl rfl _ _ HT5.out (dr_info rfl) (tcs_sz hl.out rfl) (tcs_one _ _) ?_)
          | ((with_reducible show wpList _ _ _ (⟨none, Op.store _ (Operand.tmp 6) _, _, _, _, _⟩ :: _) _ _); refine wpList_store_row rfl 56 _ _ rfl (w.heap.size + 1) (tcs (zer 32) 0) rfl rfl _ _ HR6.out (dr_info rfl) rfl (tcs_one _ _) ?_))
        have HRR : Hid (DBlk ((w5.setRow w.heap.size (tcs (zer 32) 0)).setRow (w.heap.size + 1) (tcs (zer 32) 0)) (w.heap.size + 1) (zer 32) 0) := Lib.hid HR6.out.setRow
        have HBF := below_setRow' (cs := tcs (zer 32) 0) HB6.out (Nat.le_succ _)
        exact bodyPost_ret (v := .tuple #[.agg (tcs (zer 32) 0), .slice none 0 0, .int .i64 5]) (results_cell_tmp3 (p := 6) (q := 7) (r := 8) (ty := 56) rfl _ _ ⟨w.heap.size + 1, 0, none⟩ _ _ _ rfl rfl rfl (run_loadVar_row _ _ _ _ _ _ _ HRR.out Tryz.underlying56 rfl (dr_info rfl))) rfl (by rw [HLO.out]; show (if True then _ else _ : Prop); rw [if_pos trivial]; exact ⟨rfl, HBF⟩)
      | false =>
        rw [if_neg (by decide), show DrE h cc 0 = .tuple #[.agg (tcs h cc), .int .i64 0] from rfl]
        have HT6 : Hid (DBlk (w5.setRow w.heap.size (tcs h cc)) w.heap.size h cc) := Lib.hid HT5.out.setRow
        have HR6 : Hid (DBlk (w5.setRow w.heap.size (tcs h cc)) (w.heap.size + 1) (zer 32) 0) := Lib.hid ((setRow_other _ _ _ _ (by omega)).trans HR5.out)
        have HB6 := Lib.hid (below_setRow' (cs := tcs h cc) HB5.out (Nat.le_refl _))
        go_wp2_with (first
          | ((with_reducible show wpList _ _ _ (⟨some 46, _, _, _, _, _⟩ :: _) _ _); refine wpList_load_row rfl 56 _ rfl w.heap.size rfl _ _ _ _ HT6.out Tryz.underlying56 rfl (dr_info hl.out) ?_)
          | ((with_reducible show wpList _ _ _ (⟨none, Op.store _ (Operand.tmp 3) _, _, _, _, _⟩ :: _) _ _); refine wpList_store_row rfl 56 _ _ rfl w.heap.size (tcs h cc) rfl rfl _ _ HT5.out (dr_info hl.out) (tcs_sz hl.out hl.out) (tcs_one _ _) ?_)
          | ((with_reducible show wpList _ _ _ (⟨none, Op.store _ (Operand.tmp 6) _, _, _, _, _⟩ :: _) _ _); refine wpList_store_row rfl 56 _ _ rfl (w.heap.size + 1) (tcs h cc) rfl rfl _ _ HR6.out (dr_info hl.out) (tcs_sz rfl hl.out) (tcs_one _ _) ?_))
        have HRR : Hid (DBlk ((w5.setRow w.heap.size (tcs h cc)).setRow (w.heap.size + 1) (tcs h cc)) (w.heap.size + 1) h cc) := Lib.hid HR6.out.setRow
        have HBF := below_setRow' (cs := tcs h cc) HB6.out (Nat.le_succ _)
        have HO6 : OwnL (w5.setRow w.heap.size (tcs h cc)) (b + 1) u11 L := World.ownsRow.kept HO5.out (grown_setRow _ _ _) (Or.inr (fun e => by have := (World.ownsRow.lt HO5.out _ e).1; omega))
        have HO7 : OwnL ((w5.setRow w.heap.size (tcs h cc)).setRow (w.heap.size + 1) (tcs h cc)) (b + 1) u11 L := World.ownsRow.kept HO6 (grown_setRow _ _ _) (Or.inr (fun e => by have := (World.ownsRow.lt HO6 _ e).1; omega))
        exact bodyPost_ret (v := .tuple #[.agg (tcs h cc), u11, .int .i64 0]) (results_cell_tmp3 (p := 6) (q := 7) (r := 8) (ty := 56) rfl _ _ ⟨w.heap.size + 1, 0, none⟩ _ _ _ rfl rfl rfl (run_loadVar_row _ _ _ _ _ _ _ HRR.out Tryz.underlying56 rfl (dr_info hl.out))) rfl (by rw [HLO.out]; show (if (false = true) then _ else _ : Prop); rw [if_neg (by decide)]; exact ⟨u11, rfl, OwnL.mono HO7 (by omega), HBF⟩)
end Go.Proofs.YtdlhodbiaoafiaaGreatDoor
namespace Go.Proofs.YtdlhodbiaoafiaaGreatDoor
open Go.RowKit SpM
set_option linter.unusedVariables false
set_option linter.unusedSimpArgs false
set_option maxRecDepth 100000
theorem own_setRow {w : World} {p : Addr} {v : Value} {a : Nat} {cs : Array Value} (h : Own w p v) (hne : p.block ≠ a) : Own (w.setRow a cs) p v := by
  have hb := setRow_other w a p.block cs hne
  exact ⟨(World.cell?_of_block hb).trans h.1, by
    have h2 := h.2
    simp only [World.frozen?] at h2 ⊢
    rw [hb]
    exact h2⟩
/-- a list of machine integers, not too long. -/
def okL (l : List Int) : Prop := l.length ≤ 1000 ∧ ∀ x ∈ l, -9223372036854775808 ≤ x ∧ x < 9223372036854775808
theorem okL.fits {l : List Int} (h : okL l) : Hid (fits 7 (.lst (l.map .int))) := Lib.hid (by
  refine ⟨by rw [List.length_map]; exact h.1, fun x hx => ?_⟩
  obtain ⟨y, hy, rfl⟩ := List.mem_map.1 hx
  exact h.2 y hy)
theorem encL_ints (l : List Int) : (encL (l.map .int)).length = 9 * l.length := by
  induction l with
  | nil => rfl
  | cons x l ih => rw [List.map_cons, encL, List.length_append, ih, enc_int, List.length_cons, be8_len, List.length_cons]; omega
theorem okL.len {l : List Int} (h : okL l) : Hid ((enc (.lst (l.map .int))).length ≤ 14000) := Lib.hid (by
  rw [enc_lst, List.length_cons, List.length_append, be4_len, encL_ints]
  have := h.1
  omega)
/-- the state behind a list of integers absorbed. -/
def absL (h s l : List Int) : List Int := abL h s (.lst (l.map .int))
theorem absL_len (h s l : List Int) : (absL h s l).length = 32 := abL_len _ _ _
theorem absL_bytes (h s l : List Int) : bytesB (absL h s l) = true := sha_bytes _
theorem absorb_no (A : Option Addr) (n cA : Nat) (s : ByteArray) (a e0 : Nat) (x : Int) (hx : (x == 0) = false) (w : World) (hE : Hid (Own w ⟨e0, 0, none⟩ (.int .i64 x))) :
    Calls Tryz.prog 84 #[.string s, .slice A n cA, .pointer (some ⟨e0, 0, none⟩), .pointer (some ⟨a, 0, none⟩)] w fun e w' => (∃ v, e = .returned v) ∧ w' = w := by
  obtain ⟨hc, hf⟩ := hE.out
  go_enter Tryz.func84, Tryz.ntmps84
  go_wp2
  go_end0
  exact ⟨⟨_, rfl⟩, rfl⟩
set_option maxHeartbeats 3200000 in
theorem absorb_ok (h : List Int) (hl : Hid (h.length = 32)) (hb : Hid (bytesB h = true)) (c : Int) (hc0 : 0 ≤ c) (hc1 : c < 1000) (s : ByteArray) (hs : s.size ≤ 1000) (hr : Hid (labB (bys s) = true)) (A : Option Addr) (l : List Int) (n cA : Nat) (hn : Hid (l.length = n)) (hok : Hid (okL l)) (a e0 B : Nat) (w : World) (hv : Hid (VarsD w)) (hS : Hid (Sl w A l))
    (hT : Hid (TBlk w a h c)) (hE : Hid (Own w ⟨e0, 0, none⟩ (.int .i64 0))) (hne : e0 ≠ a) (hBa : B ≤ a) (hBe : B ≤ e0) :
    Calls Tryz.prog 84 #[.string s, .slice A n cA, .pointer (some ⟨e0, 0, none⟩), .pointer (some ⟨a, 0, none⟩)] w fun e w' => (∃ v, e = .returned v) ∧ TBlk w' a (absL h (bys s) l) (c + 1) ∧ Own w' ⟨e0, 0, none⟩ (.int .i64 0) ∧ Below B w w' := by
  have hbig : n ≤ 1000 := by rw [← hn.out]; exact hok.out.1
  have HF := hok.out.fits
  have HLN := hok.out.len
  obtain ⟨hc, hf⟩ := hE.out
  have HBS : Hid (B ≤ w.heap.size) := Lib.hid (by have := hT.out.lt; omega)
  go_enter Tryz.func84, Tryz.ntmps84
  go_wp2_with ((with_reducible show wpList _ _ _ (⟨some 9, _, _, _, _, _⟩ :: _) _ _); refine wpList_load_row rfl 85 _ rfl a rfl _ _ _ _ hT.out Tryz.underlying85 rfl (tr_info hl.out) ?_)
  refine (tints_ok h hl hb c hc0 hc1 s hs hr A l n cA hn hbig _ hv hS HF HLN).mono ?_
  rintro e w1 ⟨rfl, hb1⟩
  have HT1 := Lib.hid (hT.out.below hb1)
  have HE1 := Lib.hid (hE.out.below hb1)
  have HB1 : Hid (Below B w w1) := Lib.hid (hb1.mono HBS.out)
  obtain ⟨R, hR⟩ : ∃ R, abL h (bys s) (.lst (l.map .int)) = R := ⟨_, rfl⟩
  have hRl : R.length = 32 := by rw [← hR]; exact abL_len _ _ _
  have HN : Kp (absL h (bys s) l = R) := ⟨hR⟩
  have HRL := Lib.hid hRl
  rw [hR, show TrE R (c + 1) 0 = .tuple #[.agg (tcs R (c + 1)), .int .i64 0] from rfl]
  have HE2 := Lib.hid (own_setRow (cs := tcs R (c + 1)) HE1.out (show (⟨e0, 0, none⟩ : Addr).block ≠ a from hne))
  clear hb1 hc hf hR hRl
  obtain ⟨q1, q2⟩ := HE2.out
  go_wp2_with ((with_reducible show wpList _ _ _ (⟨none, _, _, _, _, _⟩ :: _) _ _); refine wpList_store_row rfl 85 _ _ rfl a (tcs R (c + 1)) rfl rfl _ _ HT1.out (tr_info HRL.out) (tcs_sz hl.out HRL.out) (tcs_one _ _) ?_)
  have HT2 : Hid (TBlk (w1.setRow a (tcs R (c + 1))) a R (c + 1)) := Lib.hid HT1.out.setRow
  have hT3 : TBlk ((w1.setRow a (tcs R (c + 1))).setCell ⟨e0, 0, none⟩ (.int .i64 0)) a R (c + 1) := (heap_setCell_other _ _ _ _ (Ne.symm hne)).trans HT2.out
  have hE3 := own_set_eq2 (u := .int .i64 0) HE2.out
  have hB3 : Below B w ((w1.setRow a (tcs R (c + 1))).setCell ⟨e0, 0, none⟩ (.int .i64 0)) := (below_setRow' HB1.out hBa).setCell hBe _
  go_end0
  exact ⟨⟨_, rfl⟩, by rw [HN.out]; exact hT3, hE3, hB3⟩
end Go.Proofs.YtdlhodbiaoafiaaGreatDoor
namespace Go.Proofs.YtdlhodbiaoafiaaGreatDoor
open Go.RowKit SpM
set_option linter.unusedVariables false
set_option linter.unusedSimpArgs false
set_option maxRecDepth 100000
def lbGroup : ByteArray := { data := #[103, 114, 111, 117, 112] }
def lbY : ByteArray := { data := #[121] }
def lbBases : ByteArray := { data := #[98, 97, 115, 101, 115] }
def lbCommit : ByteArray := { data := #[99, 111, 109, 109, 105, 116] }
def lbCh : ByteArray := { data := #[99, 104, 97, 108, 108, 101, 110, 103, 101] }
theorem labGroup : Hid (labB (bys lbGroup) = true) := Lib.hid (by kernel_rfl)
theorem labY : Hid (labB (bys lbY) = true) := Lib.hid (by kernel_rfl)
theorem labBases : Hid (labB (bys lbBases) = true) := Lib.hid (by kernel_rfl)
theorem labCommit : Hid (labB (bys lbCommit) = true) := Lib.hid (by kernel_rfl)
theorem labCh : Hid (labB (bys lbCh) = true) := Lib.hid (by kernel_rfl)
/-- the state behind the rows absorbed. -/
def chRows (h : List Int) : List Row → List Int
  | [] => h
  | r :: rs => chRows (absL h (bys lbBases) r.xs) rs
/-- the challenge of a statement, of commitments and of a label. -/
def chalV (P Q G : Int) (lb : List Int) (ys : List Int) (rows : List Row) (al : List Int) : Int :=
  chN Q (absL (chRows (absL (absL (newL lb) (bys lbGroup) [P, Q, G]) (bys lbY) ys) rows) (bys lbCommit) al) (bys lbCh)
theorem chalV_lo {P Q G : Int} (hq : 1 ≤ Q) (lb ys : List Int) (rows : List Row) (al : List Int) : 0 ≤ chalV P Q G lb ys rows al ∧ chalV P Q G lb ys rows al < Q := chN_lo hq _ _
theorem chRows_step {h : List Int} {rows : List Row} {k : Nat} (hk : k < rows.length) : chRows h (rows.drop k) = chRows (absL h (bys lbBases) (rows.getD k noRow).xs) (rows.drop (k + 1)) := by
  rw [List.drop_eq_getElem_cons hk, List.getD_eq_getElem?_getD, List.getElem?_eq_getElem hk]
  rfl
/-- a state: 32 bytes. -/
def St32 (h : List Int) : Prop := h.length = 32 ∧ bytesB h = true
theorem st_abs (h s l : List Int) : St32 (absL h s l) := ⟨absL_len _ _ _, absL_bytes _ _ _⟩
theorem st_new (l : List Int) : St32 (newL l) := ⟨tagged_len _ _, sha_bytes _⟩
/-- what stands while the lists are absorbed. -/
def LcI (W : World) (a : Nat) (h : List Int) (c : Int) (x : Int) (u : World) : Prop := TBlk u a h c ∧ Own u ⟨a + 1, 0, none⟩ (.int .i64 x) ∧ Below W.heap.size W u
theorem LcI.alloc {W : World} {a : Nat} {h : List Int} {c x : Int} {u : World} (hI : LcI W a h c x u) (o : Obj) : LcI W a h c x (u.alloc o) :=
  ⟨hI.1.below (below_box0 _ _), hI.2.1.below (below_box0 _ _), below_ext hI.2.2 (below_box0 _ _)⟩
theorem LcI.below {W : World} {a : Nat} {h : List Int} {c x : Int} {u u' : World} (hI : LcI W a h c x u) (hb : Below u.heap.size u u') : LcI W a h c x u' :=
  ⟨hI.1.below hb, hI.2.1.below hb, below_ext hI.2.2 hb⟩
theorem absorb_st (W : World) (a : Nat) (hWa : W.heap.size ≤ a) (h : List Int) (hst : Hid (St32 h)) (c : Int) (hc0 : 0 ≤ c) (hc1 : c < 1000) (s : ByteArray) (hs : s.size ≤ 1000) (hr : Hid (labB (bys s) = true)) (A : Option Addr) (l : List Int) (n cA : Nat) (hn : Hid (l.length = n)) (hok : Hid (okL l)) (u : World) (hv : Hid (VarsD W)) (hS : Hid (Sl u A l)) (hI : Hid (LcI W a h c 0 u)) :
    Calls Tryz.prog 84 #[.string s, .slice A n cA, .pointer (some ⟨a + 1, 0, none⟩), .pointer (some ⟨a, 0, none⟩)] u fun e u' => (∃ v, e = .returned v) ∧ LcI W a (absL h (bys s) l) (c + 1) 0 u' := by
  refine (absorb_ok h (Lib.hid hst.out.1) (Lib.hid hst.out.2) c hc0 hc1 s hs hr A l n cA hn hok a (a + 1) a u (Lib.hid (hv.out.below hI.out.2.2)) hS (Lib.hid hI.out.1) (Lib.hid hI.out.2.1) (by omega) (Nat.le_refl _) (by omega)).mono ?_
  rintro e u' ⟨he, hT, hE, hb⟩
  exact ⟨he, hT, hE, hI.out.2.2.trans (hb.mono hWa)⟩
theorem cells3l (w : World) (T : TypeId) (a b c : Int) : Cells (w.alloc (.cells #[.int .i64 a, .int .i64 b, .int .i64 c] T)) w.heap.size [a, b, c] := by
  intro k hk
  rw [World.cell?_alloc_at _ _ _ _ rfl]
  match k, hk with
  | 0, _ => rfl
  | 1, _ => rfl
  | 2, _ => rfl
theorem two_boxes {w1 : World} {S0 : List Int} {c x : Int} (hl : S0.length = 32) :
    LcI w1 w1.heap.size S0 c x ((((w1.alloc (.cells #[.int .u8 0, .int .u8 0, .int .u8 0, .int .u8 0, .int .u8 0, .int .u8 0, .int .u8 0, .int .u8 0, .int .u8 0, .int .u8 0, .int .u8 0, .int .u8 0, .int .u8 0, .int .u8 0, .int .u8 0, .int .u8 0, .int .u8 0, .int .u8 0, .int .u8 0, .int .u8 0, .int .u8 0, .int .u8 0, .int .u8 0, .int .u8 0, .int .u8 0, .int .u8 0, .int .u8 0, .int .u8 0, .int .u8 0, .int .u8 0, .int .u8 0, .int .u8 0, .int .i64 0] 85)).alloc (.cells #[.int .i64 0] 38)).setRow w1.heap.size (tcs S0 c)).setCell ⟨w1.heap.size + 1, 0, none⟩ (.int .i64 x)) := by
  have hT : TBlk ((w1.alloc (.cells #[.int .u8 0, .int .u8 0, .int .u8 0, .int .u8 0, .int .u8 0, .int .u8 0, .int .u8 0, .int .u8 0, .int .u8 0, .int .u8 0, .int .u8 0, .int .u8 0, .int .u8 0, .int .u8 0, .int .u8 0, .int .u8 0, .int .u8 0, .int .u8 0, .int .u8 0, .int .u8 0, .int .u8 0, .int .u8 0, .int .u8 0, .int .u8 0, .int .u8 0, .int .u8 0, .int .u8 0, .int .u8 0, .int .u8 0, .int .u8 0, .int .u8 0, .int .u8 0, .int .i64 0] 85)).alloc (.cells #[.int .i64 0] 38)) w1.heap.size (zer 32) 0 := by rw [ztr]; exact heap_alloc2_old _ _ _
  have hE : Own ((w1.alloc (.cells #[.int .u8 0, .int .u8 0, .int .u8 0, .int .u8 0, .int .u8 0, .int .u8 0, .int .u8 0, .int .u8 0, .int .u8 0, .int .u8 0, .int .u8 0, .int .u8 0, .int .u8 0, .int .u8 0, .int .u8 0, .int .u8 0, .int .u8 0, .int .u8 0, .int .u8 0, .int .u8 0, .int .u8 0, .int .u8 0, .int .u8 0, .int .u8 0, .int .u8 0, .int .u8 0, .int .u8 0, .int .u8 0, .int .u8 0, .int .u8 0, .int .u8 0, .int .u8 0, .int .i64 0] 85)).alloc (.cells #[.int .i64 0] 38)) ⟨w1.heap.size + 1, 0, none⟩ (.int .i64 0) := ⟨cell_blk (heap_alloc2_new _ _ _) 0, frozen_blk (heap_alloc2_new _ _ _) 0⟩
  have hb : Below w1.heap.size w1 ((w1.alloc (.cells #[.int .u8 0, .int .u8 0, .int .u8 0, .int .u8 0, .int .u8 0, .int .u8 0, .int .u8 0, .int .u8 0, .int .u8 0, .int .u8 0, .int .u8 0, .int .u8 0, .int .u8 0, .int .u8 0, .int .u8 0, .int .u8 0, .int .u8 0, .int .u8 0, .int .u8 0, .int .u8 0, .int .u8 0, .int .u8 0, .int .u8 0, .int .u8 0, .int .u8 0, .int .u8 0, .int .u8 0, .int .u8 0, .int .u8 0, .int .u8 0, .int .u8 0, .int .u8 0, .int .i64 0] 85)).alloc (.cells #[.int .i64 0] 38)) := below_two (Below.refl _ _)
  refine ⟨(heap_setCell_other _ _ _ _ (show w1.heap.size ≠ w1.heap.size + 1 by omega)).trans hT.setRow, own_set_eq2 (own_setRow hE (show w1.heap.size + 1 ≠ w1.heap.size by omega)), (below_setRow' hb (Nat.le_refl _)).setCell (Nat.le_succ _) _⟩
set_option maxHeartbeats 6400000 in
theorem lchal_ok (P Q G : Int) (Y : Option Addr) (ys : List Int) (yn yc : Nat) (B : Option Addr) (rows : List Row) (bn bc : Nat) (A : Option Addr) (al : List Int) (na ca : Nat) (s : ByteArray) (hs : s.size ≤ 1000) (hr : Hid (labB (bys s) = true))
    (hyn : Hid (ys.length = yn)) (hbn : Hid (rows.length = bn)) (hna : Hid (al.length = na)) (hb9 : bn ≤ 900) (okg : Hid (okL [P, Q, G])) (oky : Hid (okL ys)) (oka : Hid (okL al)) (okr : Hid (∀ k, k < rows.length → okL (rows.getD k noRow).xs))
    (hQ1 : 2 ≤ Q) (hQ2 : Q < 2305843009213693952) (V : Int) (hV : Kp (chalV P Q G (bys s) ys rows al = V)) (w : World) (hv : Hid (VarsD w)) (hY : Hid (Sl w Y ys)) (hB : Hid (Rw w B rows)) (hA : Hid (Sl w A al)) :
    Calls Tryz.prog 46 #[gv P Q G, .agg #[.slice Y yn yc, .slice B bn bc], .slice A na ca, .string s] w fun e w' => e = .returned (.tuple #[.int .i64 V, .int .i64 0]) ∧ Below w.heap.size w w' := by
  obtain ⟨W, hW⟩ : ∃ W, (w.alloc (gObj P Q G)).alloc (.cells #[.slice Y yn yc, .slice B bn bc] 37) = W := ⟨_, rfl⟩
  have HBX : Hid (Below w.heap.size w W) := Lib.hid (by rw [← hW]; exact below_two (Below.refl _ _))
  have HGX : Hid (GBox W w.heap.size P Q G) := Lib.hid (by rw [← hW]; exact (gbox_alloc w P Q G).below (below_box0 _ _))
  have HRX : Hid (RBox W (w.heap.size + 1) (.slice Y yn yc) (.slice B bn bc)) := Lib.hid (by rw [← hW]; exact rbox_alloc1 w _ _ _ _)
  have HV := Lib.hid (hv.out.below HBX.out)
  have HYY := Lib.hid (hY.out.below HBX.out)
  have HBB := Lib.hid (hB.out.below HBX.out)
  have HAA := Lib.hid (hA.out.below HBX.out)
  have HW := Lib.hid hW
  clear hW hv hY hB hA
  go_enter Tryz.func46, Tryz.ntmps46
  go_upto_region 1 with (fail)
  rw [HW.out]
  clear HW
  go_wp2_with fail
  refine (tnew_ok s hs hr _ HV).mono ?_
  rintro e w1 ⟨rfl, hb1⟩
  obtain ⟨S0, hS0⟩ : ∃ S, newL (bys s) = S := ⟨_, rfl⟩
  have HS0 : Hid (St32 S0) := Lib.hid (by rw [← hS0]; exact st_new _)
  have HV0 : Kp (chN Q (absL (chRows (absL (absL S0 (bys lbGroup) [P, Q, G]) (bys lbY) ys) rows) (bys lbCommit) al) (bys lbCh) = V) := ⟨by rw [← hS0]; exact hV.1⟩
  rw [hS0, show TrE S0 0 0 = .tuple #[.agg (tcs S0 0), .int .i64 0] from rfl]
  have HB1 := Lib.hid hb1
  have HL0 := Lib.hid HS0.out.1
  clear hb1 hS0 hV
  have HTz : Hid (TBlk ((w1.alloc (.cells #[.int .u8 0, .int .u8 0, .int .u8 0, .int .u8 0, .int .u8 0, .int .u8 0, .int .u8 0, .int .u8 0, .int .u8 0, .int .u8 0, .int .u8 0, .int .u8 0, .int .u8 0, .int .u8 0, .int .u8 0, .int .u8 0, .int .u8 0, .int .u8 0, .int .u8 0, .int .u8 0, .int .u8 0, .int .u8 0, .int .u8 0, .int .u8 0, .int .u8 0, .int .u8 0, .int .u8 0, .int .u8 0, .int .u8 0, .int .u8 0, .int .u8 0, .int .u8 0, .int .i64 0] 85)).alloc (.cells #[.int .i64 0] 38)) w1.heap.size (zer 32) 0) := Lib.hid (by rw [ztr]; exact heap_alloc2_old _ _ _)
  have HEz : Hid (Own ((w1.alloc (.cells #[.int .u8 0, .int .u8 0, .int .u8 0, .int .u8 0, .int .u8 0, .int .u8 0, .int .u8 0, .int .u8 0, .int .u8 0, .int .u8 0, .int .u8 0, .int .u8 0, .int .u8 0, .int .u8 0, .int .u8 0, .int .u8 0, .int .u8 0, .int .u8 0, .int .u8 0, .int .u8 0, .int .u8 0, .int .u8 0, .int .u8 0, .int .u8 0, .int .u8 0, .int .u8 0, .int .u8 0, .int .u8 0, .int .u8 0, .int .u8 0, .int .u8 0, .int .u8 0, .int .i64 0] 85)).alloc (.cells #[.int .i64 0] 38)) ⟨w1.heap.size + 1, 0, none⟩ (.int .i64 0)) := Lib.hid ⟨cell_blk (heap_alloc2_new _ _ _) 0, frozen_blk (heap_alloc2_new _ _ _) 0⟩
  have HEy := Lib.hid (own_setRow (a := w1.heap.size) (cs := tcs S0 0) HEz.out (show w1.heap.size + 1 ≠ w1.heap.size by omega))
  obtain ⟨q1, q2⟩ := HEy.out
  go_upto_region 2 with ((with_reducible show wpList _ _ _ (⟨none, _, _, _, _, _⟩ :: _) _ _); refine wpList_store_row rfl 85 _ _ rfl w1.heap.size (tcs S0 0) rfl rfl _ _ HTz.out (tr_info HL0.out) (tcs_sz (h := zer 32) (c := 0) rfl HL0.out) (tcs_one _ _) ?_)
  clear q1 q2 HTz HEz HEy
  have hI2 := two_boxes (w1 := w1) (c := 0) (x := 0) HL0.out
  obtain ⟨W2, hW2⟩ : ∃ u, ((((w1.alloc (.cells #[.int .u8 0, .int .u8 0, .int .u8 0, .int .u8 0, .int .u8 0, .int .u8 0, .int .u8 0, .int .u8 0, .int .u8 0, .int .u8 0, .int .u8 0, .int .u8 0, .int .u8 0, .int .u8 0, .int .u8 0, .int .u8 0, .int .u8 0, .int .u8 0, .int .u8 0, .int .u8 0, .int .u8 0, .int .u8 0, .int .u8 0, .int .u8 0, .int .u8 0, .int .u8 0, .int .u8 0, .int .u8 0, .int .u8 0, .int .u8 0, .int .u8 0, .int .u8 0, .int .i64 0] 85)).alloc (.cells #[.int .i64 0] 38)).setRow w1.heap.size (tcs S0 0)).setCell ⟨w1.heap.size + 1, 0, none⟩ (.int .i64 0)) = u := ⟨_, rfl⟩
  rw [hW2] at hI2 ⊢
  obtain ⟨a, ha⟩ : ∃ a, w1.heap.size = a := ⟨_, rfl⟩
  have hWa : W.heap.size ≤ a := by rw [← ha]; exact HB1.out.size
  have hI2' : LcI W a S0 0 0 W2 := ⟨by rw [← ha]; exact hI2.1, by rw [← ha]; exact hI2.2.1, below_ext HB1.out hI2.2.2⟩
  rw [ha]
  have HI2 := Lib.hid hI2'
  clear hW2 hI2 hI2' ha HB1
  obtain ⟨c0, c1, c2⟩ := HGX.out.below HI2.out.2.2
  go_wp2_with fail
  refine (absorb_st W a hWa S0 HS0 0 (by omega) (by omega) lbGroup (by decide) labGroup (some ⟨W2.heap.size, 0, none⟩) [P, Q, G] 3 3 (Lib.hid rfl) okg _ HV (Lib.hid (sl_of_cells (cells3l W2 _ P Q G))) (Lib.hid (HI2.out.alloc _))).mono ?_
  rintro e w3 ⟨⟨v3, rfl⟩, hI3⟩
  clear c0 c1 c2 HI2
  obtain ⟨S1, hS1⟩ : ∃ S, absL S0 (bys lbGroup) [P, Q, G] = S := ⟨_, rfl⟩
  have HS1 : Hid (St32 S1) := Lib.hid (by rw [← hS1]; exact st_abs _ _ _)
  have HV1 : Kp (chN Q (absL (chRows (absL S1 (bys lbY) ys) rows) (bys lbCommit) al) (bys lbCh) = V) := ⟨by rw [← hS1]; exact HV0.1⟩
  rw [hS1] at hI3
  have HI3 := Lib.hid hI3
  clear hI3 hS1 HV0
  obtain ⟨d0, d1⟩ := HRX.out.below HI3.out.2.2
  go_wp2_with fail
  refine (absorb_st W a hWa S1 HS1 (0 + 1) (by omega) (by omega) lbY (by decide) labY Y ys yn yc hyn oky _ HV (Lib.hid (HYY.out.below HI3.out.2.2)) HI3).mono ?_
  rintro e w4 ⟨⟨v4, rfl⟩, hI4⟩
  clear d0 d1 HI3
  obtain ⟨S2, hS2⟩ : ∃ S, absL S1 (bys lbY) ys = S := ⟨_, rfl⟩
  have HS2 : Hid (St32 S2) := Lib.hid (by rw [← hS2]; exact st_abs _ _ _)
  have HV2 : Kp (chN Q (absL (chRows S2 rows) (bys lbCommit) al) (bys lbCh) = V) := ⟨by rw [← hS2]; exact HV1.1⟩
  rw [hS2] at hI4
  have HI4 := Lib.hid hI4
  clear hI4 hS2 HV1
  obtain ⟨S3, hS3⟩ : ∃ S, chRows S2 rows = S := ⟨_, rfl⟩
  have HR3 : Kp (chRows S2 (rows.drop 0) = S3) := ⟨hS3⟩
  have HV3 : Kp (chN Q (absL S3 (bys lbCommit) al) (bys lbCh) = V) := ⟨by rw [← hS3]; exact HV2.1⟩
  clear hS3 HV2
  obtain ⟨d0, d1⟩ := HRX.out.below HI4.out.2.2
  go_wp2_with fail
  clear d0 d1
  go_loopw [39] (fun i u => ∃ (k : Nat) (S : List Int), k ≤ bn ∧ i = .int .i64 k ∧ Hid (St32 S) ∧ Kp (chRows S (rows.drop k) = S3) ∧ Hid (LcI W a S (2 + k) 0 u)) (fun i _ => bn - (intOf i).toNat)
  case atStart => exact ⟨0, S2, by omega, rfl, HS2, HR3, HI4⟩
  case round =>
    obtain ⟨k, S, hk, rfl, HS, HR, HI⟩ := hrel
    by_cases hlt : k < bn
    · have hkl : k < rows.length := by rw [hbn.out]; exact hlt
      obtain ⟨⟨b, o, hA, hi0⟩, hok⟩ := HBB.out.below HI.out.2.2 k hkl
      subst hA
      have HRN := Kp.mk ((chRows_step (h := S) hkl).symm.trans HR.1)
      have HOK := Lib.hid (okr.out k hkl)
      obtain ⟨R, hR⟩ : ∃ R, rows.getD k noRow = R := ⟨_, rfl⟩
      rw [hR] at hi0 hok HRN HOK
      obtain ⟨p, rn, rc, xs⟩ := R
      have HL := Lib.hid hok.1
      have HX := Lib.hid hok.2
      dsimp only [Row.val] at hi0 HRN HOK
      clear hR hok hkl
      go_wp2_with fail
      refine (absorb_st W a hWa S HS (2 + k) (by omega) (by omega) lbBases (by decide) labBases p xs rn rc HL HOK _ HV HX HI).mono ?_
      rintro e w5 ⟨⟨v5, rfl⟩, hI5⟩
      obtain ⟨S', hS'⟩ : ∃ S', absL S (bys lbBases) xs = S' := ⟨_, rfl⟩
      have HS' : Hid (St32 S') := Lib.hid (by rw [← hS']; exact st_abs _ _ _)
      have HRR : Kp (chRows S' (rows.drop (k + 1)) = S3) := ⟨by rw [← hS']; exact HRN.1⟩
      rw [hS', show (2 + (k : Int) + 1) = 2 + ((k + 1 : Nat) : Int) by omega] at hI5
      have HI5 := Lib.hid hI5
      clear hI5 hS' HRN hi0
      go_wp2
      go_roundw
      case rel => exact ⟨k + 1, S', by omega, by go_num, HS', HRR, HI5⟩
      case measure => simp [intOf]; omega
    · obtain rfl : k = bn := by omega
      have hd : rows.drop k = [] := List.drop_of_length_le (by rw [hbn.out]; exact Nat.le_refl _)
      have HSE : Kp (S = S3) := ⟨by have h := HR.1; rwa [hd] at h⟩
      have HV4 : Kp (chN Q (absL S (bys lbCommit) al) (bys lbCh) = V) := ⟨by rw [HSE.1]; exact HV3.1⟩
      clear hd HR HSE HV3 hlt
      go_wp2_with fail
      refine (absorb_st W a hWa S HS (2 + k) (by omega) (by omega) lbCommit (by decide) labCommit A al na ca hna oka _ HV (Lib.hid (HAA.out.below HI.out.2.2)) HI).mono ?_
      rintro e w6 ⟨⟨v6, rfl⟩, hI6⟩
      obtain ⟨S4, hS4⟩ : ∃ S', absL S (bys lbCommit) al = S' := ⟨_, rfl⟩
      have HS4 : Hid (St32 S4) := Lib.hid (by rw [← hS4]; exact st_abs _ _ _)
      have HV5 : Kp (chN Q S4 (bys lbCh) = V) := ⟨by rw [← hS4]; exact HV4.1⟩
      rw [hS4] at hI6
      have HI6 := Lib.hid hI6
      have HL4 := Lib.hid HS4.out.1
      clear hI6 hS4 HV4 HI
      obtain ⟨z0, z1⟩ := HI6.out.2.1
      obtain ⟨c0, c1, c2⟩ := HGX.out.below HI6.out.2.2
      have HT6 := Lib.hid HI6.out.1
      go_wp2_with ((with_reducible show wpList _ _ _ (⟨some 54, _, _, _, _, _⟩ :: _) _ _); refine wpList_load_row rfl 85 _ rfl a rfl _ _ _ _ HT6.out Tryz.underlying85 rfl (tr_info HL4.out) ?_)
      refine (tchal_ok S4 HL4 (Lib.hid HS4.out.2) (2 + k + 1) (by omega) (by omega) lbCh (by decide) labCh Q hQ1 hQ2 _ (Lib.hid (HV.out.below HI6.out.2.2))).mono ?_
      rintro e w7 ⟨rfl, hb7⟩
      obtain ⟨G4, hG4⟩ : ∃ G4, chL Q S4 (bys lbCh) = G4 := ⟨_, rfl⟩
      have HG4 : Hid (G4.length = 32) := Lib.hid (by rw [← hG4]; exact abL_len _ _ _)
      rw [hG4, HV5.1, show ChE G4 (2 + (k : Int) + 1 + 1) V 0 = .tuple #[.agg (tcs G4 (2 + (k : Int) + 1 + 1)), .int .i64 V, .int .i64 0] from rfl]
      have HI7 := Lib.hid (HI6.out.below hb7)
      obtain ⟨y0, y1⟩ := HI7.out.2.1
      clear hb7 hG4 z0 z1 c0 c1 c2
      have HTy : Hid (TBlk (w7.alloc (.cells #[.int .u8 0, .int .u8 0, .int .u8 0, .int .u8 0, .int .u8 0, .int .u8 0, .int .u8 0, .int .u8 0, .int .u8 0, .int .u8 0, .int .u8 0, .int .u8 0, .int .u8 0, .int .u8 0, .int .u8 0, .int .u8 0, .int .u8 0, .int .u8 0, .int .u8 0, .int .u8 0, .int .u8 0, .int .u8 0, .int .u8 0, .int .u8 0, .int .u8 0, .int .u8 0, .int .u8 0, .int .u8 0, .int .u8 0, .int .u8 0, .int .u8 0, .int .u8 0, .int .i64 0] 85)) w7.heap.size (zer 32) 0) := Lib.hid (by rw [ztr]; exact heap_alloc_new _ _)
      have HEw := Lib.hid (own_setRow (a := w7.heap.size) (cs := tcs G4 (2 + (k : Int) + 1 + 1)) (HI7.out.2.1.below (below_box0 w7 (.cells #[.int .u8 0, .int .u8 0, .int .u8 0, .int .u8 0, .int .u8 0, .int .u8 0, .int .u8 0, .int .u8 0, .int .u8 0, .int .u8 0, .int .u8 0, .int .u8 0, .int .u8 0, .int .u8 0, .int .u8 0, .int .u8 0, .int .u8 0, .int .u8 0, .int .u8 0, .int .u8 0, .int .u8 0, .int .u8 0, .int .u8 0, .int .u8 0, .int .u8 0, .int .u8 0, .int .u8 0, .int .u8 0, .int .u8 0, .int .u8 0, .int .u8 0, .int .u8 0, .int .i64 0] 85))) (show a + 1 ≠ w7.heap.size by have := HI7.out.1.lt; have := World.block_lt_of_cell? _ _ y0; simp at this; omega))
      obtain ⟨x0, x1⟩ := HEw.out
      go_wp2_with ((with_reducible show wpList _ _ _ (⟨none, _, _, _, _, _⟩ :: _) _ _); refine wpList_store_row rfl 85 _ _ rfl w7.heap.size (tcs G4 (2 + (k : Int) + 1 + 1)) rfl rfl _ _ HTy.out (tr_info HG4.out) (tcs_sz (h := zer 32) (c := 0) rfl HG4.out) (tcs_one _ _) ?_)
      have hZ := own_set_eq2 (u := .int .i64 0) HEw.out
      have hBF : Below w.heap.size w (((w7.alloc (.cells #[.int .u8 0, .int .u8 0, .int .u8 0, .int .u8 0, .int .u8 0, .int .u8 0, .int .u8 0, .int .u8 0, .int .u8 0, .int .u8 0, .int .u8 0, .int .u8 0, .int .u8 0, .int .u8 0, .int .u8 0, .int .u8 0, .int .u8 0, .int .u8 0, .int .u8 0, .int .u8 0, .int .u8 0, .int .u8 0, .int .u8 0, .int .u8 0, .int .u8 0, .int .u8 0, .int .u8 0, .int .u8 0, .int .u8 0, .int .u8 0, .int .u8 0, .int .u8 0, .int .i64 0] 85)).setRow w7.heap.size (tcs G4 (2 + (k : Int) + 1 + 1))).setCell ⟨a + 1, 0, none⟩ (.int .i64 0)) := by
        have h1 := below_ext HI7.out.2.2 (below_setRow' (cs := tcs G4 (2 + (k : Int) + 1 + 1)) (below_box0 w7 (.cells #[.int .u8 0, .int .u8 0, .int .u8 0, .int .u8 0, .int .u8 0, .int .u8 0, .int .u8 0, .int .u8 0, .int .u8 0, .int .u8 0, .int .u8 0, .int .u8 0, .int .u8 0, .int .u8 0, .int .u8 0, .int .u8 0, .int .u8 0, .int .u8 0, .int .u8 0, .int .u8 0, .int .u8 0, .int .u8 0, .int .u8 0, .int .u8 0, .int .u8 0, .int .u8 0, .int .u8 0, .int .u8 0, .int .u8 0, .int .u8 0, .int .u8 0, .int .u8 0, .int .i64 0] 85)) (Nat.le_refl _))
        exact below_ext HBX.out (h1.setCell (by show W.heap.size ≤ a + 1; omega) _)
      have HBF := Lib.hid hBF
      have hz0 := hZ.1
      obtain ⟨W8, hW8⟩ : ∃ u, (((w7.alloc (.cells #[.int .u8 0, .int .u8 0, .int .u8 0, .int .u8 0, .int .u8 0, .int .u8 0, .int .u8 0, .int .u8 0, .int .u8 0, .int .u8 0, .int .u8 0, .int .u8 0, .int .u8 0, .int .u8 0, .int .u8 0, .int .u8 0, .int .u8 0, .int .u8 0, .int .u8 0, .int .u8 0, .int .u8 0, .int .u8 0, .int .u8 0, .int .u8 0, .int .u8 0, .int .u8 0, .int .u8 0, .int .u8 0, .int .u8 0, .int .u8 0, .int .u8 0, .int .u8 0, .int .i64 0] 85)).setRow w7.heap.size (tcs G4 (2 + (k : Int) + 1 + 1))).setCell ⟨a + 1, 0, none⟩ (.int .i64 0)) = u := ⟨_, rfl⟩
      rw [hW8] at hz0 HBF ⊢
      clear hZ hBF hW8 x0 x1 HEw HTy y0 y1
      go_region
      go_wp2
      go_ret2
      exact ⟨rfl, below_drawN HBF.out _⟩
set_option maxHeartbeats 6400000 in
theorem lchal_bad (P Q G : Int) (Y : Option Addr) (ys : List Int) (yn yc : Nat) (B : Option Addr) (rows : List Row) (bn bc : Nat) (A : Option Addr) (al : List Int) (na ca : Nat) (s : ByteArray) (hs : s.size ≤ 1000) (hr : Hid (labB (bys s) = false))
    (hbn : Hid (rows.length = bn)) (hb9 : bn ≤ 900) (w : World) (hB : Hid (Rw w B rows)) :
    Calls Tryz.prog 46 #[gv P Q G, .agg #[.slice Y yn yc, .slice B bn bc], .slice A na ca, .string s] w fun e w' => e = .returned (.tuple #[.int .i64 0, .int .i64 1]) ∧ Below w.heap.size w w' := by
  obtain ⟨W, hW⟩ : ∃ W, (w.alloc (gObj P Q G)).alloc (.cells #[.slice Y yn yc, .slice B bn bc] 37) = W := ⟨_, rfl⟩
  have HBX : Hid (Below w.heap.size w W) := Lib.hid (by rw [← hW]; exact below_two (Below.refl _ _))
  have HGX : Hid (GBox W w.heap.size P Q G) := Lib.hid (by rw [← hW]; exact (gbox_alloc w P Q G).below (below_box0 _ _))
  have HRX : Hid (RBox W (w.heap.size + 1) (.slice Y yn yc) (.slice B bn bc)) := Lib.hid (by rw [← hW]; exact rbox_alloc1 w _ _ _ _)
  have HBB := Lib.hid (hB.out.below HBX.out)
  have HW := Lib.hid hW
  clear hW hB
  go_enter Tryz.func46, Tryz.ntmps46
  go_upto_region 1 with (fail)
  rw [HW.out]
  clear HW
  go_wp2_with fail
  refine (tnew_bad s hs hr _).mono ?_
  rintro e w1 ⟨rfl, hb1⟩
  obtain ⟨S0, hS0⟩ : ∃ S, zer 32 = S := ⟨_, rfl⟩
  have HL0 : Hid (S0.length = 32) := Lib.hid (by rw [← hS0]; rfl)
  rw [hS0, show TrE S0 0 1 = .tuple #[.agg (tcs S0 0), .int .i64 1] from rfl]
  have HB1 := Lib.hid hb1
  clear hb1 hS0
  have HTz : Hid (TBlk ((w1.alloc (.cells #[.int .u8 0, .int .u8 0, .int .u8 0, .int .u8 0, .int .u8 0, .int .u8 0, .int .u8 0, .int .u8 0, .int .u8 0, .int .u8 0, .int .u8 0, .int .u8 0, .int .u8 0, .int .u8 0, .int .u8 0, .int .u8 0, .int .u8 0, .int .u8 0, .int .u8 0, .int .u8 0, .int .u8 0, .int .u8 0, .int .u8 0, .int .u8 0, .int .u8 0, .int .u8 0, .int .u8 0, .int .u8 0, .int .u8 0, .int .u8 0, .int .u8 0, .int .u8 0, .int .i64 0] 85)).alloc (.cells #[.int .i64 0] 38)) w1.heap.size (zer 32) 0) := Lib.hid (by rw [ztr]; exact heap_alloc2_old _ _ _)
  have HEz : Hid (Own ((w1.alloc (.cells #[.int .u8 0, .int .u8 0, .int .u8 0, .int .u8 0, .int .u8 0, .int .u8 0, .int .u8 0, .int .u8 0, .int .u8 0, .int .u8 0, .int .u8 0, .int .u8 0, .int .u8 0, .int .u8 0, .int .u8 0, .int .u8 0, .int .u8 0, .int .u8 0, .int .u8 0, .int .u8 0, .int .u8 0, .int .u8 0, .int .u8 0, .int .u8 0, .int .u8 0, .int .u8 0, .int .u8 0, .int .u8 0, .int .u8 0, .int .u8 0, .int .u8 0, .int .u8 0, .int .i64 0] 85)).alloc (.cells #[.int .i64 0] 38)) ⟨w1.heap.size + 1, 0, none⟩ (.int .i64 0)) := Lib.hid ⟨cell_blk (heap_alloc2_new _ _ _) 0, frozen_blk (heap_alloc2_new _ _ _) 0⟩
  have HEy := Lib.hid (own_setRow (a := w1.heap.size) (cs := tcs S0 0) HEz.out (show w1.heap.size + 1 ≠ w1.heap.size by omega))
  obtain ⟨q1, q2⟩ := HEy.out
  go_upto_region 2 with ((with_reducible show wpList _ _ _ (⟨none, _, _, _, _, _⟩ :: _) _ _); refine wpList_store_row rfl 85 _ _ rfl w1.heap.size (tcs S0 0) rfl rfl _ _ HTz.out (tr_info HL0.out) (tcs_sz (h := zer 32) (c := 0) rfl HL0.out) (tcs_one _ _) ?_)
  clear q1 q2 HTz HEz HEy
  have hI2 := two_boxes (w1 := w1) (c := 0) (x := 1) HL0.out
  obtain ⟨W2, hW2⟩ : ∃ u, ((((w1.alloc (.cells #[.int .u8 0, .int .u8 0, .int .u8 0, .int .u8 0, .int .u8 0, .int .u8 0, .int .u8 0, .int .u8 0, .int .u8 0, .int .u8 0, .int .u8 0, .int .u8 0, .int .u8 0, .int .u8 0, .int .u8 0, .int .u8 0, .int .u8 0, .int .u8 0, .int .u8 0, .int .u8 0, .int .u8 0, .int .u8 0, .int .u8 0, .int .u8 0, .int .u8 0, .int .u8 0, .int .u8 0, .int .u8 0, .int .u8 0, .int .u8 0, .int .u8 0, .int .u8 0, .int .i64 0] 85)).alloc (.cells #[.int .i64 0] 38)).setRow w1.heap.size (tcs S0 0)).setCell ⟨w1.heap.size + 1, 0, none⟩ (.int .i64 1)) = u := ⟨_, rfl⟩
  rw [hW2] at hI2 ⊢
  obtain ⟨a, ha⟩ : ∃ a, w1.heap.size = a := ⟨_, rfl⟩
  have hI2' : LcI W a S0 0 1 W2 := ⟨by rw [← ha]; exact hI2.1, by rw [← ha]; exact hI2.2.1, below_ext HB1.out hI2.2.2⟩
  rw [ha]
  have HI2 := Lib.hid hI2'
  clear hW2 hI2 hI2' ha HB1
  obtain ⟨c0, c1, c2⟩ := HGX.out.below HI2.out.2.2
  go_wp2_with fail
  refine (absorb_no (some ⟨W2.heap.size, 0, none⟩) 3 3 lbGroup a (a + 1) 1 rfl _ (Lib.hid (HI2.out.alloc _).2.1)).mono ?_
  rintro e w3 ⟨⟨v3, rfl⟩, rfl⟩
  have HI3 := Lib.hid (HI2.out.alloc (.cells #[.int .i64 P, .int .i64 Q, .int .i64 G] 3))
  obtain ⟨W3, hW3⟩ : ∃ u, W2.alloc (.cells #[.int .i64 P, .int .i64 Q, .int .i64 G] 3) = u := ⟨_, rfl⟩
  rw [hW3] at HI3 ⊢
  clear c0 c1 c2 HI2 hW3
  obtain ⟨d0, d1⟩ := HRX.out.below HI3.out.2.2
  go_wp2_with fail
  refine (absorb_no Y yn yc lbY a (a + 1) 1 rfl _ (Lib.hid HI3.out.2.1)).mono ?_
  rintro e w4 ⟨⟨v4, rfl⟩, rfl⟩
  go_wp2_with fail
  clear d0 d1
  go_loopw [39] (fun i u => ∃ (k : Nat), k ≤ bn ∧ i = .int .i64 k ∧ Hid (LcI W a S0 0 1 u)) (fun i _ => bn - (intOf i).toNat)
  case atStart => exact ⟨0, by omega, rfl, HI3⟩
  case round =>
    obtain ⟨k, hk, rfl, HI⟩ := hrel
    by_cases hlt : k < bn
    · have hkl : k < rows.length := by rw [hbn.out]; exact hlt
      obtain ⟨⟨b, o, hA, hi0⟩, hok⟩ := HBB.out.below HI.out.2.2 k hkl
      subst hA
      obtain ⟨R, hR⟩ : ∃ R, rows.getD k noRow = R := ⟨_, rfl⟩
      rw [hR] at hi0 hok
      obtain ⟨p, rn, rc, xs⟩ := R
      dsimp only [Row.val] at hi0
      clear hR hok hkl
      go_wp2_with fail
      refine (absorb_no p rn rc lbBases a (a + 1) 1 rfl _ (Lib.hid HI.out.2.1)).mono ?_
      rintro e w5 ⟨⟨v5, rfl⟩, rfl⟩
      clear hi0
      go_wp2
      go_roundw
      case rel => exact ⟨k + 1, by omega, by go_num, HI⟩
      case measure => simp [intOf]; omega
    · go_wp2_with fail
      refine (absorb_no A na ca lbCommit a (a + 1) 1 rfl _ (Lib.hid HI.out.2.1)).mono ?_
      rintro e w6 ⟨⟨v6, rfl⟩, rfl⟩
      obtain ⟨z0, z1⟩ := HI.out.2.1
      have HBF := Lib.hid (below_ext HBX.out HI.out.2.2)
      go_wp2
      go_region
      go_wp2
      go_ret2
      exact ⟨rfl, below_drawN HBF.out _⟩
end Go.Proofs.YtdlhodbiaoafiaaGreatDoor
namespace Go.Proofs.YtdlhodbiaoafiaaGreatDoor
open Go.RowKit SpM
set_option linter.unusedVariables false
set_option linter.unusedSimpArgs false
set_option maxRecDepth 100000
/-- whether scalars fit a relation. -/
def holdsB (P Q G : Int) (ys : List Int) (rows : List Row) (xs : List Int) : Bool :=
  validR P Q G ys rows && (decide (xs.length = rowN rows) && (xs.all (scB Q) && ((rows.map fun r => prodF P 1 r.xs xs) == ys)))
theorem eq_any (g n cap : Nat) (zs : List Int) (Y : Option Addr) (ys : List Int) (m yc : Nat) (hn : zs.length = n) (hm : Hid (ys.length = m)) (hpos : 0 < m) (hbig : n < 1000) (hbig2 : m < 1000) (w : World) (h1 : Hid (Cells w g zs)) (h2 : Hid (Sl w Y ys)) :
    Calls Tryz.prog 21 #[.slice (some ⟨g, 0, none⟩) n cap, .slice Y m yc] w fun e w' => e = .returned (.bool (zs == ys)) ∧ Below w.heap.size w w' := by
  obtain ⟨b, o, rfl, _⟩ := h2.out 0 (by rw [hm.out]; exact hpos)
  have hm' := hm.out
  refine (Tryz.slices_Equal_int g 0 n cap b o m yc zs ys w (by omega) (by omega) (by omega) (by omega) (fun j hj => ?_) (fun j hj => ?_)).mono ?_
  · rw [Nat.zero_add]; exact h1.out j hj
  · obtain ⟨b', o', e1, e2⟩ := h2.out j hj
    cases e1
    exact e2
  · rintro e w' ⟨rfl, q, rfl⟩
    refine ⟨?_, below_drawN (Below.refl _ _) _⟩
    rw [List.take_of_length_le (by omega), List.take_of_length_le (by omega)]
/-- a list that the call made, its block named. -/
def CellsOut (zs : List Int) (n : Nat) (w : World) (e : Ending) (w' : World) : Prop := ∃ g cap, e = .returned (.slice (some ⟨g, 0, none⟩) n cap) ∧ Hid (Cells w' g zs) ∧ Below w.heap.size w w'
theorem ListOut.cells {zs : List Int} {n : Nat} {w w' : World} {e : Ending} (h : ListOut zs w e w') (hn : zs.length = n) (hpos : 0 < n) : CellsOut zs n w e w' := by
  obtain ⟨v, he, ho, hb⟩ := h
  obtain ⟨g, cap, rfl, _, hc⟩ := OwnL.cells ho (by omega)
  rw [hn] at he
  exact ⟨g, cap, he, Lib.hid hc, hb⟩
set_option maxHeartbeats 12800000 in
theorem lholds_v (P Q G : Int) (Y : Option Addr) (ys : List Int) (yn yc : Nat) (B : Option Addr) (rows : List Row) (bn bc : Nat) (L : Option Addr) (ls : List Int) (ln lc : Nat) (hyn : Hid (ys.length = yn)) (hbn : Hid (rows.length = bn)) (hln : Hid (ls.length = ln)) (hlb : ln < 1000000) (HVL : Hid (validR P Q G ys rows = false)) (hQ : Q < 9223372036854775808) (w : World) (hv : Hid (Vars w)) (hY : Hid (Sl w Y ys)) (hB : Hid (Rw w B rows)) (hL : Hid (Sl w L ls)) :
    Calls Tryz.prog 56 #[gv P Q G, relV Y yn yc B bn bc, .slice L ln lc] w fun e' w' => e' = .returned (.bool false) ∧ Below w.heap.size w w' := by
  obtain ⟨W, hW⟩ : ∃ W, (w.alloc (gObj P Q G)).alloc (relO Y yn yc B bn bc) = W := ⟨_, rfl⟩
  have HBw : Hid (Below w.heap.size w W) := Lib.hid (by rw [← hW]; exact below_two (Below.refl _ _))
  have HX0 : Hid (GBox W w.heap.size P Q G) := Lib.hid (by rw [← hW]; exact (gbox_alloc w P Q G).below (below_box0 _ _))
  have HR0 : Hid (RBox W (w.heap.size + 1) (.slice Y yn yc) (.slice B bn bc)) := Lib.hid (by rw [← hW]; exact rbox_alloc1 _ _ _ _ _)
  have hOY := Lib.hid (show ∀ u1 : World, Hid (Below W.heap.size W u1) → Hid (Sl u1 Y ys) from fun u1 h1 => Lib.hid (hY.out.below (below_ext HBw.out h1.out)))
  have hOB := Lib.hid (show ∀ u1 : World, Hid (Below W.heap.size W u1) → Hid (Rw u1 B rows) from fun u1 h1 => Lib.hid (hB.out.below (below_ext HBw.out h1.out)))
  have hOL := Lib.hid (show ∀ u1 : World, Hid (Below W.heap.size W u1) → Hid (Sl u1 L ls) from fun u1 h1 => Lib.hid (hL.out.below (below_ext HBw.out h1.out)))
  have hOV := Lib.hid (show ∀ u1 : World, Hid (Below W.heap.size W u1) → Hid (Vars u1) from fun u1 h1 => Lib.hid (hv.out.below (below_ext HBw.out h1.out)))
  have hS := Lib.hid (show ∀ u1 u2 : World, Hid (Below W.heap.size W u1) → Below u1.heap.size u1 u2 → (u2.cell? ⟨w.heap.size, 0, none⟩ = some (.int .i64 P) ∧ u2.cell? ⟨w.heap.size, 1, none⟩ = some (.int .i64 Q) ∧ u2.cell? ⟨w.heap.size, 2, none⟩ = some (.int .i64 G) ∧ u2.cell? ⟨w.heap.size + 1, 0, none⟩ = some (.slice Y yn yc) ∧ u2.cell? ⟨w.heap.size + 1, 1, none⟩ = some (.slice B bn bc) ∧ Hid (Below W.heap.size W u2)) from fun u1 u2 h1 h2 => have h3 := below_ext h1.out h2; ⟨(HX0.out.below h3).1, (HX0.out.below h3).2.1, (HX0.out.below h3).2.2, (HR0.out.below h3).1, (HR0.out.below h3).2, Lib.hid h3⟩)
  have hR : Hid (Below W.heap.size W W) := Lib.hid (Below.refl _ _)
  have HW := Lib.hid hW
  clear hW hY hB hL
  go_enter Tryz.func56, Tryz.ntmps56
  go_wp2_with fail
  rw [HW.out]
  refine wp_region_held_drew (S := fun w' => w'.cell? ⟨w.heap.size, 0, none⟩ = some (.int .i64 P) ∧ w'.cell? ⟨w.heap.size, 1, none⟩ = some (.int .i64 Q) ∧ w'.cell? ⟨w.heap.size, 2, none⟩ = some (.int .i64 G) ∧ w'.cell? ⟨w.heap.size + 1, 0, none⟩ = some (.slice Y yn yc) ∧ w'.cell? ⟨w.heap.size + 1, 1, none⟩ = some (.slice B bn bc) ∧ Hid (Below W.heap.size W w')) (by kernel_rfl) (hS.out _ _ hR ((Below.refl W.heap.size W).drew)) (fun hHeld => ?_)
  refine wpAnyH_take (i := 0) (oi := _) (v := ?_) rfl (by kernel_rfl) (by kernel_rfl) (by kernel_rfl) (fun _ _ _ h => h) (Or.inl ⟨by rfl, ?_⟩) (by assumption) ?_
  rotate_left; (intro wS hSw; (try dsimp only at hSw); go_simp <;> with_reducible rfl)
  try simp only [List.getElem_toArray, List.getElem_cons_zero, List.getElem_cons_succ, Act.put, List.setIfInBounds_toArray, List.set_cons_zero, List.set_cons_succ]
  refine wpAnyH_take (i := 1) (oi := _) (v := ?_) rfl (by kernel_rfl) (by kernel_rfl) (by kernel_rfl) (fun _ _ _ h => h) (Or.inl ⟨by rfl, ?_⟩) (by assumption) ?_
  rotate_left; (intro wS hSw; (try dsimp only at hSw); go_simp <;> with_reducible rfl)
  try simp only [List.getElem_toArray, List.getElem_cons_zero, List.getElem_cons_succ, Act.put, List.setIfInBounds_toArray, List.set_cons_zero, List.set_cons_succ]
  refine wpAnyH_ready (rs := [2]) (by kernel_rfl) (by simp) ?_
  refine AllReadyH.cons rfl (fun K hK => ?_) AllReadyH.nil
  go_simp
  (with_reducible refine (lvalid_any P Q G Y ys yn yc B rows bn bc false HVL hyn hbn hQ _ ?_ ?_ ?_).mono ?_); (go_split_ands; exact hOV.out _ (by assumption)); (go_split_ands; exact hOY.out _ (by assumption)); (go_split_ands; exact hOB.out _ (by assumption)); rintro e wA ⟨rfl, hbA⟩
  refine hK.out _ _ ?_ (fun hHeld => ?_)
  · (go_split_ands; exact hS.out _ _ (by assumption) hbA)
  clear hK K
  try simp only [List.getElem_toArray, List.getElem_cons_zero, List.getElem_cons_succ, Act.put, List.setIfInBounds_toArray, List.set_cons_zero, List.set_cons_succ]
  refine wpAnyH_take (i := 3) (oi := _) (v := ?_) rfl (by kernel_rfl) (by kernel_rfl) (by kernel_rfl) (fun _ _ _ h => h) (Or.inl ⟨by rfl, ?_⟩) (by assumption) ?_
  rotate_left; (intro wS hSw; (try dsimp only at hSw); go_simp <;> with_reducible rfl)
  try simp only [List.getElem_toArray, List.getElem_cons_zero, List.getElem_cons_succ, Act.put, List.setIfInBounds_toArray, List.set_cons_zero, List.set_cons_succ]
  refine wpAnyH_take (i := 4) (oi := _) (v := undef) rfl (by kernel_rfl) (by kernel_rfl) (by kernel_rfl) (fun _ _ _ h => h) (Or.inr ⟨by rfl, rfl⟩) (by assumption) ?_
  try simp only [List.getElem_toArray, List.getElem_cons_zero, List.getElem_cons_succ, Act.put, List.setIfInBounds_toArray, List.set_cons_zero, List.set_cons_succ]
  refine wpAnyH_take (i := 5) (oi := _) (v := undef) rfl (by kernel_rfl) (by kernel_rfl) (by kernel_rfl) (fun _ _ _ h => h) (Or.inr ⟨by rfl, rfl⟩) (by assumption) ?_
  try simp only [List.getElem_toArray, List.getElem_cons_zero, List.getElem_cons_succ, Act.put, List.setIfInBounds_toArray, List.set_cons_zero, List.set_cons_succ]
  refine wpAnyH_take (i := 6) (oi := _) (v := undef) rfl (by kernel_rfl) (by kernel_rfl) (by kernel_rfl) (fun _ _ _ h => h) (Or.inr ⟨by rfl, rfl⟩) (by assumption) ?_
  try simp only [List.getElem_toArray, List.getElem_cons_zero, List.getElem_cons_succ, Act.put, List.setIfInBounds_toArray, List.set_cons_zero, List.set_cons_succ]
  refine wpAnyH_take (i := 7) (oi := _) (v := undef) rfl (by kernel_rfl) (by kernel_rfl) (by kernel_rfl) (fun _ _ _ h => h) (Or.inr ⟨by rfl, rfl⟩) (by assumption) ?_
  try simp only [List.getElem_toArray, List.getElem_cons_zero, List.getElem_cons_succ, Act.put, List.setIfInBounds_toArray, List.set_cons_zero, List.set_cons_succ]
  refine wpAnyH_take (i := 8) (oi := _) (v := undef) rfl (by kernel_rfl) (by kernel_rfl) (by kernel_rfl) (fun _ _ _ h => h) (Or.inr ⟨by rfl, rfl⟩) (by assumption) ?_
  try simp only [List.getElem_toArray, List.getElem_cons_zero, List.getElem_cons_succ, Act.put, List.setIfInBounds_toArray, List.set_cons_zero, List.set_cons_succ]
  refine wpAnyH_take (i := 9) (oi := _) (v := ?_) rfl (by kernel_rfl) (by kernel_rfl) (by kernel_rfl) (fun _ _ _ h => h) (Or.inl ⟨by rfl, ?_⟩) (by assumption) ?_
  rotate_left; (intro wS hSw; (try dsimp only at hSw); go_simp <;> with_reducible rfl)
  try simp only [List.getElem_toArray, List.getElem_cons_zero, List.getElem_cons_succ, Act.put, List.setIfInBounds_toArray, List.set_cons_zero, List.set_cons_succ]
  refine wpAnyH_take (i := 10) (oi := _) (v := ?_) rfl (by kernel_rfl) (by kernel_rfl) (by kernel_rfl) (fun _ _ _ h => h) (Or.inl ⟨by rfl, ?_⟩) (by assumption) ?_
  rotate_left; (intro wS hSw; (try dsimp only at hSw); go_simp <;> with_reducible rfl)
  try simp only [List.getElem_toArray, List.getElem_cons_zero, List.getElem_cons_succ, Act.put, List.setIfInBounds_toArray, List.set_cons_zero, List.set_cons_succ]
  refine wpAnyH_take (i := 11) (oi := _) (v := undef) rfl (by kernel_rfl) (by kernel_rfl) (by kernel_rfl) (fun _ _ _ h => h) (Or.inr ⟨by rfl, rfl⟩) (by assumption) ?_
  try simp only [List.getElem_toArray, List.getElem_cons_zero, List.getElem_cons_succ, Act.put, List.setIfInBounds_toArray, List.set_cons_zero, List.set_cons_succ]
  refine wpAnyH_take (i := 12) (oi := _) (v := undef) rfl (by kernel_rfl) (by kernel_rfl) (by kernel_rfl) (fun _ _ _ h => h) (Or.inr ⟨by rfl, rfl⟩) (by assumption) ?_
  try simp only [List.getElem_toArray, List.getElem_cons_zero, List.getElem_cons_succ, Act.put, List.setIfInBounds_toArray, List.set_cons_zero, List.set_cons_succ]
  refine wpAnyH_take (i := 13) (oi := _) (v := undef) rfl (by kernel_rfl) (by kernel_rfl) (by kernel_rfl) (fun _ _ _ h => h) (Or.inr ⟨by rfl, rfl⟩) (by assumption) ?_
  try simp only [List.getElem_toArray, List.getElem_cons_zero, List.getElem_cons_succ, Act.put, List.setIfInBounds_toArray, List.set_cons_zero, List.set_cons_succ]
  refine wpAnyH_take (i := 14) (oi := _) (v := ?_) rfl (by kernel_rfl) (by kernel_rfl) (by kernel_rfl) (fun _ _ _ h => h) (Or.inl ⟨by rfl, ?_⟩) (by assumption) ?_
  rotate_left; (intro wS hSw; (try dsimp only at hSw); go_simp <;> with_reducible rfl)
  try simp only [List.getElem_toArray, List.getElem_cons_zero, List.getElem_cons_succ, Act.put, List.setIfInBounds_toArray, List.set_cons_zero, List.set_cons_succ]
  refine wpAnyH_take (i := 15) (oi := _) (v := ?_) rfl (by kernel_rfl) (by kernel_rfl) (by kernel_rfl) (fun _ _ _ h => h) (Or.inl ⟨by rfl, ?_⟩) (by assumption) ?_
  rotate_left; (intro wS hSw; (try dsimp only at hSw); go_simp <;> with_reducible rfl)
  try simp only [List.getElem_toArray, List.getElem_cons_zero, List.getElem_cons_succ, Act.put, List.setIfInBounds_toArray, List.set_cons_zero, List.set_cons_succ]
  refine wpAnyH_take (i := 16) (oi := _) (v := undef) rfl (by kernel_rfl) (by kernel_rfl) (by kernel_rfl) (fun _ _ _ h => h) (Or.inr ⟨by rfl, rfl⟩) (by assumption) ?_
  try simp only [List.getElem_toArray, List.getElem_cons_zero, List.getElem_cons_succ, Act.put, List.setIfInBounds_toArray, List.set_cons_zero, List.set_cons_succ]
  refine wpAnyH_take (i := 17) (oi := _) (v := undef) rfl (by kernel_rfl) (by kernel_rfl) (by kernel_rfl) (fun _ _ _ h => h) (Or.inr ⟨by rfl, rfl⟩) (by assumption) ?_
  try simp only [List.getElem_toArray, List.getElem_cons_zero, List.getElem_cons_succ, Act.put, List.setIfInBounds_toArray, List.set_cons_zero, List.set_cons_succ]
  refine wpAnyH_take (i := 18) (oi := _) (v := undef) rfl (by kernel_rfl) (by kernel_rfl) (by kernel_rfl) (fun _ _ _ h => h) (Or.inr ⟨by rfl, rfl⟩) (by assumption) ?_
  try simp only [List.getElem_toArray, List.getElem_cons_zero, List.getElem_cons_succ, Act.put, List.setIfInBounds_toArray, List.set_cons_zero, List.set_cons_succ]
  refine wpAnyH_take (i := 19) (oi := _) (v := undef) rfl (by kernel_rfl) (by kernel_rfl) (by kernel_rfl) (fun _ _ _ h => h) (Or.inr ⟨by rfl, rfl⟩) (by assumption) ?_
  try simp only [List.getElem_toArray, List.getElem_cons_zero, List.getElem_cons_succ, Act.put, List.setIfInBounds_toArray, List.set_cons_zero, List.set_cons_succ]
  refine wpAnyH_take (i := 20) (oi := _) (v := undef) rfl (by kernel_rfl) (by kernel_rfl) (by kernel_rfl) (fun _ _ _ h => h) (Or.inr ⟨by rfl, rfl⟩) (by assumption) ?_
  try simp only [List.getElem_toArray, List.getElem_cons_zero, List.getElem_cons_succ, Act.put, List.setIfInBounds_toArray, List.set_cons_zero, List.set_cons_succ]
  refine wpAnyH_take (i := 21) (oi := _) (v := undef) rfl (by kernel_rfl) (by kernel_rfl) (by kernel_rfl) (fun _ _ _ h => h) (Or.inr ⟨by rfl, rfl⟩) (by assumption) ?_
  try simp only [List.getElem_toArray, List.getElem_cons_zero, List.getElem_cons_succ, Act.put, List.setIfInBounds_toArray, List.set_cons_zero, List.set_cons_succ]
  refine wpAnyH_take (i := 22) (oi := _) (v := undef) rfl (by kernel_rfl) (by kernel_rfl) (by kernel_rfl) (fun _ _ _ h => h) (Or.inr ⟨by rfl, rfl⟩) (by assumption) ?_
  try simp only [List.getElem_toArray, List.getElem_cons_zero, List.getElem_cons_succ, Act.put, List.setIfInBounds_toArray, List.set_cons_zero, List.set_cons_succ]
  refine wpAnyH_take (i := 23) (oi := _) (v := undef) rfl (by kernel_rfl) (by kernel_rfl) (by kernel_rfl) (fun _ _ _ h => h) (Or.inr ⟨by rfl, rfl⟩) (by assumption) ?_
  try simp only [List.getElem_toArray, List.getElem_cons_zero, List.getElem_cons_succ, Act.put, List.setIfInBounds_toArray, List.set_cons_zero, List.set_cons_succ]
  refine wpAnyH_take (i := 24) (oi := _) (v := ?_) rfl (by kernel_rfl) (by kernel_rfl) (by kernel_rfl) (fun _ _ _ h => h) (Or.inl ⟨by rfl, ?_⟩) (by assumption) ?_
  rotate_left; (intro wS hSw; (try dsimp only at hSw); go_simp <;> with_reducible rfl)
  try simp only [List.getElem_toArray, List.getElem_cons_zero, List.getElem_cons_succ, Act.put, List.setIfInBounds_toArray, List.set_cons_zero, List.set_cons_succ]
  refine wpAnyH_take (i := 25) (oi := _) (v := ?_) rfl (by kernel_rfl) (by kernel_rfl) (by kernel_rfl) (fun _ _ _ h => h) (Or.inl ⟨by rfl, ?_⟩) (by assumption) ?_
  rotate_left; (intro wS hSw; (try dsimp only at hSw); go_simp <;> with_reducible rfl)
  try simp only [List.getElem_toArray, List.getElem_cons_zero, List.getElem_cons_succ, Act.put, List.setIfInBounds_toArray, List.set_cons_zero, List.set_cons_succ]
  refine wpAnyH_done (by kernel_rfl) ?_ _
  obtain ⟨x0, x1, x2, x3, x4, HBA⟩ := hHeld
  have hbF := below_ext HBw.out HBA.out
  go_wp2
  go_ret
  exact ⟨rfl, hbF⟩
set_option maxHeartbeats 12800000 in
theorem lholds_n (P Q G : Int) (Y : Option Addr) (ys : List Int) (yn yc : Nat) (B : Option Addr) (rows : List Row) (bn bc : Nat) (L : Option Addr) (ls : List Int) (ln lc : Nat) (hyn : Hid (ys.length = yn)) (hbn : Hid (rows.length = bn)) (hln : Hid (ls.length = ln)) (hlb : ln < 1000000) (HVL : Hid (validR P Q G ys rows = true)) (hlen : ls.length ≠ rowN rows) (hQ : Q < 9223372036854775808) (w : World) (hv : Hid (Vars w)) (hY : Hid (Sl w Y ys)) (hB : Hid (Rw w B rows)) (hL : Hid (Sl w L ls)) :
    Calls Tryz.prog 56 #[gv P Q G, relV Y yn yc B bn bc, .slice L ln lc] w fun e' w' => e' = .returned (.bool false) ∧ Below w.heap.size w w' := by
  obtain ⟨W, hW⟩ : ∃ W, (w.alloc (gObj P Q G)).alloc (relO Y yn yc B bn bc) = W := ⟨_, rfl⟩
  have HBw : Hid (Below w.heap.size w W) := Lib.hid (by rw [← hW]; exact below_two (Below.refl _ _))
  have HX0 : Hid (GBox W w.heap.size P Q G) := Lib.hid (by rw [← hW]; exact (gbox_alloc w P Q G).below (below_box0 _ _))
  have HR0 : Hid (RBox W (w.heap.size + 1) (.slice Y yn yc) (.slice B bn bc)) := Lib.hid (by rw [← hW]; exact rbox_alloc1 _ _ _ _ _)
  have hOY := Lib.hid (show ∀ u1 : World, Hid (Below W.heap.size W u1) → Hid (Sl u1 Y ys) from fun u1 h1 => Lib.hid (hY.out.below (below_ext HBw.out h1.out)))
  have hOB := Lib.hid (show ∀ u1 : World, Hid (Below W.heap.size W u1) → Hid (Rw u1 B rows) from fun u1 h1 => Lib.hid (hB.out.below (below_ext HBw.out h1.out)))
  have hOL := Lib.hid (show ∀ u1 : World, Hid (Below W.heap.size W u1) → Hid (Sl u1 L ls) from fun u1 h1 => Lib.hid (hL.out.below (below_ext HBw.out h1.out)))
  have hOV := Lib.hid (show ∀ u1 : World, Hid (Below W.heap.size W u1) → Hid (Vars u1) from fun u1 h1 => Lib.hid (hv.out.below (below_ext HBw.out h1.out)))
  have hS := Lib.hid (show ∀ u1 u2 : World, Hid (Below W.heap.size W u1) → Below u1.heap.size u1 u2 → (u2.cell? ⟨w.heap.size, 0, none⟩ = some (.int .i64 P) ∧ u2.cell? ⟨w.heap.size, 1, none⟩ = some (.int .i64 Q) ∧ u2.cell? ⟨w.heap.size, 2, none⟩ = some (.int .i64 G) ∧ u2.cell? ⟨w.heap.size + 1, 0, none⟩ = some (.slice Y yn yc) ∧ u2.cell? ⟨w.heap.size + 1, 1, none⟩ = some (.slice B bn bc) ∧ Hid (Below W.heap.size W u2)) from fun u1 u2 h1 h2 => have h3 := below_ext h1.out h2; ⟨(HX0.out.below h3).1, (HX0.out.below h3).2.1, (HX0.out.below h3).2.2, (HR0.out.below h3).1, (HR0.out.below h3).2, Lib.hid h3⟩)
  have hR : Hid (Below W.heap.size W W) := Lib.hid (Below.refl _ _)
  have HW := Lib.hid hW
  clear hW hY hB hL
  obtain ⟨v1, v2, v3, v4, v5, v6, v7, v8⟩ := validR_parts HVL.out
  have hbp : 0 < bn := by rw [← hbn.out]; omega
  obtain ⟨n0, hn0⟩ : ∃ n, rowN rows = n := ⟨_, rfl⟩
  have HN := Lib.hid hn0
  have heq : ((ln : Int) == (n0 : Int)) = false := by rw [← hln.out, ← hn0]; simp; omega
  clear v1 v2 v3 v4 v5 v6 v7 v8 hn0 hlen
  go_enter Tryz.func56, Tryz.ntmps56
  go_wp2_with fail
  rw [HW.out]
  refine wp_region_held_drew (S := fun w' => w'.cell? ⟨w.heap.size, 0, none⟩ = some (.int .i64 P) ∧ w'.cell? ⟨w.heap.size, 1, none⟩ = some (.int .i64 Q) ∧ w'.cell? ⟨w.heap.size, 2, none⟩ = some (.int .i64 G) ∧ w'.cell? ⟨w.heap.size + 1, 0, none⟩ = some (.slice Y yn yc) ∧ w'.cell? ⟨w.heap.size + 1, 1, none⟩ = some (.slice B bn bc) ∧ Hid (Below W.heap.size W w')) (by kernel_rfl) (hS.out _ _ hR ((Below.refl W.heap.size W).drew)) (fun hHeld => ?_)
  refine wpAnyH_take (i := 0) (oi := _) (v := ?_) rfl (by kernel_rfl) (by kernel_rfl) (by kernel_rfl) (fun _ _ _ h => h) (Or.inl ⟨by rfl, ?_⟩) (by assumption) ?_
  rotate_left; (intro wS hSw; (try dsimp only at hSw); go_simp <;> with_reducible rfl)
  try simp only [List.getElem_toArray, List.getElem_cons_zero, List.getElem_cons_succ, Act.put, List.setIfInBounds_toArray, List.set_cons_zero, List.set_cons_succ]
  refine wpAnyH_take (i := 1) (oi := _) (v := ?_) rfl (by kernel_rfl) (by kernel_rfl) (by kernel_rfl) (fun _ _ _ h => h) (Or.inl ⟨by rfl, ?_⟩) (by assumption) ?_
  rotate_left; (intro wS hSw; (try dsimp only at hSw); go_simp <;> with_reducible rfl)
  try simp only [List.getElem_toArray, List.getElem_cons_zero, List.getElem_cons_succ, Act.put, List.setIfInBounds_toArray, List.set_cons_zero, List.set_cons_succ]
  refine wpAnyH_ready (rs := [2]) (by kernel_rfl) (by simp) ?_
  refine AllReadyH.cons rfl (fun K hK => ?_) AllReadyH.nil
  go_simp
  (with_reducible refine (lvalid_any P Q G Y ys yn yc B rows bn bc true HVL hyn hbn hQ _ ?_ ?_ ?_).mono ?_); (go_split_ands; exact hOV.out _ (by assumption)); (go_split_ands; exact hOY.out _ (by assumption)); (go_split_ands; exact hOB.out _ (by assumption)); rintro e wA ⟨rfl, hbA⟩
  refine hK.out _ _ ?_ (fun hHeld => ?_)
  · (go_split_ands; exact hS.out _ _ (by assumption) hbA)
  clear hK K
  try simp only [List.getElem_toArray, List.getElem_cons_zero, List.getElem_cons_succ, Act.put, List.setIfInBounds_toArray, List.set_cons_zero, List.set_cons_succ]
  refine wpAnyH_take (i := 3) (oi := _) (v := ?_) rfl (by kernel_rfl) (by kernel_rfl) (by kernel_rfl) (fun _ _ _ h => h) (Or.inl ⟨by rfl, ?_⟩) (by assumption) ?_
  rotate_left; (intro wS hSw; (try dsimp only at hSw); go_simp <;> with_reducible rfl)
  try simp only [List.getElem_toArray, List.getElem_cons_zero, List.getElem_cons_succ, Act.put, List.setIfInBounds_toArray, List.set_cons_zero, List.set_cons_succ]
  refine wpAnyH_take (i := 4) (oi := _) (v := ?_) rfl (by kernel_rfl) (by kernel_rfl) (by kernel_rfl) (fun _ _ _ h => h) (Or.inl ⟨by rfl, ?_⟩) (by assumption) ?_
  rotate_left; (intro wS hSw; (try dsimp only at hSw); go_simp <;> with_reducible rfl)
  try simp only [List.getElem_toArray, List.getElem_cons_zero, List.getElem_cons_succ, Act.put, List.setIfInBounds_toArray, List.set_cons_zero, List.set_cons_succ]
  refine wpAnyH_take (i := 5) (oi := _) (v := ?_) rfl (by kernel_rfl) (by kernel_rfl) (by kernel_rfl) (fun _ _ _ h => h) (Or.inl ⟨by rfl, ?_⟩) (by assumption) ?_
  rotate_left; (intro wS hSw; (try dsimp only at hSw); go_simp <;> with_reducible rfl)
  try simp only [List.getElem_toArray, List.getElem_cons_zero, List.getElem_cons_succ, Act.put, List.setIfInBounds_toArray, List.set_cons_zero, List.set_cons_succ]
  refine wpAnyH_take (i := 6) (oi := _) (v := ?_) rfl (by kernel_rfl) (by kernel_rfl) (by kernel_rfl) (fun _ _ _ h => h) (Or.inl ⟨by rfl, ?_⟩) (by assumption) ?_
  rotate_left; (intro wS hSw; (try dsimp only at hSw); go_simp <;> with_reducible rfl)
  try simp only [List.getElem_toArray, List.getElem_cons_zero, List.getElem_cons_succ, Act.put, List.setIfInBounds_toArray, List.set_cons_zero, List.set_cons_succ]
  refine wpAnyH_ready (rs := [7]) (by kernel_rfl) (by simp) ?_
  refine AllReadyH.cons rfl (fun K hK => ?_) AllReadyH.nil
  go_simp
  (with_reducible refine (lunknowns_any Y yn yc B rows bn bc n0 hbn hbp HN _ ?_).mono ?_); (go_split_ands; exact hOB.out _ (by assumption)); rintro e wA ⟨rfl, hbA⟩
  refine hK.out _ _ ?_ (fun hHeld => ?_)
  · (go_split_ands; exact hS.out _ _ (by assumption) hbA)
  clear hK K
  try simp only [List.getElem_toArray, List.getElem_cons_zero, List.getElem_cons_succ, Act.put, List.setIfInBounds_toArray, List.set_cons_zero, List.set_cons_succ]
  refine wpAnyH_take (i := 8) (oi := _) (v := ?_) rfl (by kernel_rfl) (by kernel_rfl) (by kernel_rfl) (fun _ _ _ h => h) (Or.inl ⟨by rfl, ?_⟩) (by assumption) ?_
  rotate_left; (intro wS hSw; (try dsimp only at hSw); go_simp <;> with_reducible rfl)
  try simp only [List.getElem_toArray, List.getElem_cons_zero, List.getElem_cons_succ, Act.put, List.setIfInBounds_toArray, List.set_cons_zero, List.set_cons_succ]
  refine wpAnyH_take (i := 9) (oi := _) (v := ?_) rfl (by kernel_rfl) (by kernel_rfl) (by kernel_rfl) (fun _ _ _ h => h) (Or.inl ⟨by rfl, ?_⟩) (by assumption) ?_
  rotate_left; (intro wS hSw; (try dsimp only at hSw); go_simp <;> with_reducible rfl)
  try simp only [List.getElem_toArray, List.getElem_cons_zero, List.getElem_cons_succ, Act.put, List.setIfInBounds_toArray, List.set_cons_zero, List.set_cons_succ]
  refine wpAnyH_take (i := 10) (oi := _) (v := ?_) rfl (by kernel_rfl) (by kernel_rfl) (by kernel_rfl) (fun _ _ _ h => h) (Or.inl ⟨by rfl, ?_⟩) (by assumption) ?_
  rotate_left; (intro wS hSw; (try dsimp only at hSw); go_simp <;> with_reducible rfl)
  try simp only [List.getElem_toArray, List.getElem_cons_zero, List.getElem_cons_succ, Act.put, List.setIfInBounds_toArray, List.set_cons_zero, List.set_cons_succ]
  refine wpAnyH_take (i := 11) (oi := _) (v := undef) rfl (by kernel_rfl) (by kernel_rfl) (by kernel_rfl) (fun _ _ _ h => h) (Or.inr ⟨by rfl, rfl⟩) (by assumption) ?_
  try simp only [List.getElem_toArray, List.getElem_cons_zero, List.getElem_cons_succ, Act.put, List.setIfInBounds_toArray, List.set_cons_zero, List.set_cons_succ]
  refine wpAnyH_take (i := 12) (oi := _) (v := undef) rfl (by kernel_rfl) (by kernel_rfl) (by kernel_rfl) (fun _ _ _ h => h) (Or.inr ⟨by rfl, rfl⟩) (by assumption) ?_
  try simp only [List.getElem_toArray, List.getElem_cons_zero, List.getElem_cons_succ, Act.put, List.setIfInBounds_toArray, List.set_cons_zero, List.set_cons_succ]
  refine wpAnyH_take (i := 13) (oi := _) (v := undef) rfl (by kernel_rfl) (by kernel_rfl) (by kernel_rfl) (fun _ _ _ h => h) (Or.inr ⟨by rfl, rfl⟩) (by assumption) ?_
  try simp only [List.getElem_toArray, List.getElem_cons_zero, List.getElem_cons_succ, Act.put, List.setIfInBounds_toArray, List.set_cons_zero, List.set_cons_succ]
  refine wpAnyH_take (i := 14) (oi := _) (v := ?_) rfl (by kernel_rfl) (by kernel_rfl) (by kernel_rfl) (fun _ _ _ h => h) (Or.inl ⟨by rfl, ?_⟩) (by assumption) ?_
  rotate_left; (intro wS hSw; (try dsimp only at hSw); go_simp <;> with_reducible rfl)
  try simp only [List.getElem_toArray, List.getElem_cons_zero, List.getElem_cons_succ, Act.put, List.setIfInBounds_toArray, List.set_cons_zero, List.set_cons_succ]
  refine wpAnyH_take (i := 15) (oi := _) (v := ?_) rfl (by kernel_rfl) (by kernel_rfl) (by kernel_rfl) (fun _ _ _ h => h) (Or.inl ⟨by rfl, ?_⟩) (by assumption) ?_
  rotate_left; (intro wS hSw; (try dsimp only at hSw); go_simp <;> with_reducible rfl)
  try simp only [List.getElem_toArray, List.getElem_cons_zero, List.getElem_cons_succ, Act.put, List.setIfInBounds_toArray, List.set_cons_zero, List.set_cons_succ]
  refine wpAnyH_take (i := 16) (oi := _) (v := undef) rfl (by kernel_rfl) (by kernel_rfl) (by kernel_rfl) (fun _ _ _ h => h) (Or.inr ⟨by rfl, rfl⟩) (by assumption) ?_
  try simp only [List.getElem_toArray, List.getElem_cons_zero, List.getElem_cons_succ, Act.put, List.setIfInBounds_toArray, List.set_cons_zero, List.set_cons_succ]
  refine wpAnyH_take (i := 17) (oi := _) (v := undef) rfl (by kernel_rfl) (by kernel_rfl) (by kernel_rfl) (fun _ _ _ h => h) (Or.inr ⟨by rfl, rfl⟩) (by assumption) ?_
  try simp only [List.getElem_toArray, List.getElem_cons_zero, List.getElem_cons_succ, Act.put, List.setIfInBounds_toArray, List.set_cons_zero, List.set_cons_succ]
  refine wpAnyH_take (i := 18) (oi := _) (v := undef) rfl (by kernel_rfl) (by kernel_rfl) (by kernel_rfl) (fun _ _ _ h => h) (Or.inr ⟨by rfl, rfl⟩) (by assumption) ?_
  try simp only [List.getElem_toArray, List.getElem_cons_zero, List.getElem_cons_succ, Act.put, List.setIfInBounds_toArray, List.set_cons_zero, List.set_cons_succ]
  refine wpAnyH_take (i := 19) (oi := _) (v := undef) rfl (by kernel_rfl) (by kernel_rfl) (by kernel_rfl) (fun _ _ _ h => h) (Or.inr ⟨by rfl, rfl⟩) (by assumption) ?_
  try simp only [List.getElem_toArray, List.getElem_cons_zero, List.getElem_cons_succ, Act.put, List.setIfInBounds_toArray, List.set_cons_zero, List.set_cons_succ]
  refine wpAnyH_take (i := 20) (oi := _) (v := undef) rfl (by kernel_rfl) (by kernel_rfl) (by kernel_rfl) (fun _ _ _ h => h) (Or.inr ⟨by rfl, rfl⟩) (by assumption) ?_
  try simp only [List.getElem_toArray, List.getElem_cons_zero, List.getElem_cons_succ, Act.put, List.setIfInBounds_toArray, List.set_cons_zero, List.set_cons_succ]
  refine wpAnyH_take (i := 21) (oi := _) (v := undef) rfl (by kernel_rfl) (by kernel_rfl) (by kernel_rfl) (fun _ _ _ h => h) (Or.inr ⟨by rfl, rfl⟩) (by assumption) ?_
  try simp only [List.getElem_toArray, List.getElem_cons_zero, List.getElem_cons_succ, Act.put, List.setIfInBounds_toArray, List.set_cons_zero, List.set_cons_succ]
  refine wpAnyH_take (i := 22) (oi := _) (v := undef) rfl (by kernel_rfl) (by kernel_rfl) (by kernel_rfl) (fun _ _ _ h => h) (Or.inr ⟨by rfl, rfl⟩) (by assumption) ?_
  try simp only [List.getElem_toArray, List.getElem_cons_zero, List.getElem_cons_succ, Act.put, List.setIfInBounds_toArray, List.set_cons_zero, List.set_cons_succ]
  refine wpAnyH_take (i := 23) (oi := _) (v := undef) rfl (by kernel_rfl) (by kernel_rfl) (by kernel_rfl) (fun _ _ _ h => h) (Or.inr ⟨by rfl, rfl⟩) (by assumption) ?_
  try simp only [List.getElem_toArray, List.getElem_cons_zero, List.getElem_cons_succ, Act.put, List.setIfInBounds_toArray, List.set_cons_zero, List.set_cons_succ]
  refine wpAnyH_take (i := 24) (oi := _) (v := ?_) rfl (by kernel_rfl) (by kernel_rfl) (by kernel_rfl) (fun _ _ _ h => h) (Or.inl ⟨by rfl, ?_⟩) (by assumption) ?_
  rotate_left; (intro wS hSw; (try dsimp only at hSw); go_simp <;> with_reducible rfl)
  try simp only [List.getElem_toArray, List.getElem_cons_zero, List.getElem_cons_succ, Act.put, List.setIfInBounds_toArray, List.set_cons_zero, List.set_cons_succ]
  refine wpAnyH_take (i := 25) (oi := _) (v := ?_) rfl (by kernel_rfl) (by kernel_rfl) (by kernel_rfl) (fun _ _ _ h => h) (Or.inl ⟨by rfl, ?_⟩) (by assumption) ?_
  rotate_left; (intro wS hSw; (try dsimp only at hSw); go_simp <;> with_reducible rfl)
  try simp only [List.getElem_toArray, List.getElem_cons_zero, List.getElem_cons_succ, Act.put, List.setIfInBounds_toArray, List.set_cons_zero, List.set_cons_succ]
  refine wpAnyH_done (by kernel_rfl) ?_ _
  obtain ⟨x0, x1, x2, x3, x4, HBA⟩ := hHeld
  have hbF := below_ext HBw.out HBA.out
  go_wp2
  go_ret
  exact ⟨rfl, hbF⟩
set_option maxHeartbeats 12800000 in
theorem lholds_s (P Q G : Int) (Y : Option Addr) (ys : List Int) (yn yc : Nat) (B : Option Addr) (rows : List Row) (bn bc : Nat) (L : Option Addr) (ls : List Int) (ln lc : Nat) (hyn : Hid (ys.length = yn)) (hbn : Hid (rows.length = bn)) (hln : Hid (ls.length = ln)) (hlb : ln < 1000000) (HVL : Hid (validR P Q G ys rows = true)) (hlen : ls.length = rowN rows) (Hl : Hid (ls.all (scB Q) = false)) (hQ : Q < 9223372036854775808) (w : World) (hv : Hid (Vars w)) (hY : Hid (Sl w Y ys)) (hB : Hid (Rw w B rows)) (hL : Hid (Sl w L ls)) :
    Calls Tryz.prog 56 #[gv P Q G, relV Y yn yc B bn bc, .slice L ln lc] w fun e' w' => e' = .returned (.bool false) ∧ Below w.heap.size w w' := by
  obtain ⟨W, hW⟩ : ∃ W, (w.alloc (gObj P Q G)).alloc (relO Y yn yc B bn bc) = W := ⟨_, rfl⟩
  have HBw : Hid (Below w.heap.size w W) := Lib.hid (by rw [← hW]; exact below_two (Below.refl _ _))
  have HX0 : Hid (GBox W w.heap.size P Q G) := Lib.hid (by rw [← hW]; exact (gbox_alloc w P Q G).below (below_box0 _ _))
  have HR0 : Hid (RBox W (w.heap.size + 1) (.slice Y yn yc) (.slice B bn bc)) := Lib.hid (by rw [← hW]; exact rbox_alloc1 _ _ _ _ _)
  have hOY := Lib.hid (show ∀ u1 : World, Hid (Below W.heap.size W u1) → Hid (Sl u1 Y ys) from fun u1 h1 => Lib.hid (hY.out.below (below_ext HBw.out h1.out)))
  have hOB := Lib.hid (show ∀ u1 : World, Hid (Below W.heap.size W u1) → Hid (Rw u1 B rows) from fun u1 h1 => Lib.hid (hB.out.below (below_ext HBw.out h1.out)))
  have hOL := Lib.hid (show ∀ u1 : World, Hid (Below W.heap.size W u1) → Hid (Sl u1 L ls) from fun u1 h1 => Lib.hid (hL.out.below (below_ext HBw.out h1.out)))
  have hOV := Lib.hid (show ∀ u1 : World, Hid (Below W.heap.size W u1) → Hid (Vars u1) from fun u1 h1 => Lib.hid (hv.out.below (below_ext HBw.out h1.out)))
  have hS := Lib.hid (show ∀ u1 u2 : World, Hid (Below W.heap.size W u1) → Below u1.heap.size u1 u2 → (u2.cell? ⟨w.heap.size, 0, none⟩ = some (.int .i64 P) ∧ u2.cell? ⟨w.heap.size, 1, none⟩ = some (.int .i64 Q) ∧ u2.cell? ⟨w.heap.size, 2, none⟩ = some (.int .i64 G) ∧ u2.cell? ⟨w.heap.size + 1, 0, none⟩ = some (.slice Y yn yc) ∧ u2.cell? ⟨w.heap.size + 1, 1, none⟩ = some (.slice B bn bc) ∧ Hid (Below W.heap.size W u2)) from fun u1 u2 h1 h2 => have h3 := below_ext h1.out h2; ⟨(HX0.out.below h3).1, (HX0.out.below h3).2.1, (HX0.out.below h3).2.2, (HR0.out.below h3).1, (HR0.out.below h3).2, Lib.hid h3⟩)
  have hR : Hid (Below W.heap.size W W) := Lib.hid (Below.refl _ _)
  have HW := Lib.hid hW
  clear hW hY hB hL
  obtain ⟨v1, v2, v3, v4, v5, v6, v7, v8⟩ := validR_parts HVL.out
  have hbp : 0 < bn := by rw [← hbn.out]; omega
  obtain ⟨n0, hn0⟩ : ∃ n, rowN rows = n := ⟨_, rfl⟩
  have HN := Lib.hid hn0
  have heq : ((ln : Int) == (n0 : Int)) = true := by rw [← hln.out, ← hn0]; simp; omega
  clear v1 v2 v3 v4 v5 v6 v7 v8 hn0 hlen
  go_enter Tryz.func56, Tryz.ntmps56
  go_wp2_with fail
  rw [HW.out]
  refine wp_region_held_drew (S := fun w' => w'.cell? ⟨w.heap.size, 0, none⟩ = some (.int .i64 P) ∧ w'.cell? ⟨w.heap.size, 1, none⟩ = some (.int .i64 Q) ∧ w'.cell? ⟨w.heap.size, 2, none⟩ = some (.int .i64 G) ∧ w'.cell? ⟨w.heap.size + 1, 0, none⟩ = some (.slice Y yn yc) ∧ w'.cell? ⟨w.heap.size + 1, 1, none⟩ = some (.slice B bn bc) ∧ Hid (Below W.heap.size W w')) (by kernel_rfl) (hS.out _ _ hR ((Below.refl W.heap.size W).drew)) (fun hHeld => ?_)
  refine wpAnyH_take (i := 0) (oi := _) (v := ?_) rfl (by kernel_rfl) (by kernel_rfl) (by kernel_rfl) (fun _ _ _ h => h) (Or.inl ⟨by rfl, ?_⟩) (by assumption) ?_
  rotate_left; (intro wS hSw; (try dsimp only at hSw); go_simp <;> with_reducible rfl)
  try simp only [List.getElem_toArray, List.getElem_cons_zero, List.getElem_cons_succ, Act.put, List.setIfInBounds_toArray, List.set_cons_zero, List.set_cons_succ]
  refine wpAnyH_take (i := 1) (oi := _) (v := ?_) rfl (by kernel_rfl) (by kernel_rfl) (by kernel_rfl) (fun _ _ _ h => h) (Or.inl ⟨by rfl, ?_⟩) (by assumption) ?_
  rotate_left; (intro wS hSw; (try dsimp only at hSw); go_simp <;> with_reducible rfl)
  try simp only [List.getElem_toArray, List.getElem_cons_zero, List.getElem_cons_succ, Act.put, List.setIfInBounds_toArray, List.set_cons_zero, List.set_cons_succ]
  refine wpAnyH_ready (rs := [2]) (by kernel_rfl) (by simp) ?_
  refine AllReadyH.cons rfl (fun K hK => ?_) AllReadyH.nil
  go_simp
  (with_reducible refine (lvalid_any P Q G Y ys yn yc B rows bn bc true HVL hyn hbn hQ _ ?_ ?_ ?_).mono ?_); (go_split_ands; exact hOV.out _ (by assumption)); (go_split_ands; exact hOY.out _ (by assumption)); (go_split_ands; exact hOB.out _ (by assumption)); rintro e wA ⟨rfl, hbA⟩
  refine hK.out _ _ ?_ (fun hHeld => ?_)
  · (go_split_ands; exact hS.out _ _ (by assumption) hbA)
  clear hK K
  try simp only [List.getElem_toArray, List.getElem_cons_zero, List.getElem_cons_succ, Act.put, List.setIfInBounds_toArray, List.set_cons_zero, List.set_cons_succ]
  refine wpAnyH_take (i := 3) (oi := _) (v := ?_) rfl (by kernel_rfl) (by kernel_rfl) (by kernel_rfl) (fun _ _ _ h => h) (Or.inl ⟨by rfl, ?_⟩) (by assumption) ?_
  rotate_left; (intro wS hSw; (try dsimp only at hSw); go_simp <;> with_reducible rfl)
  try simp only [List.getElem_toArray, List.getElem_cons_zero, List.getElem_cons_succ, Act.put, List.setIfInBounds_toArray, List.set_cons_zero, List.set_cons_succ]
  refine wpAnyH_take (i := 4) (oi := _) (v := ?_) rfl (by kernel_rfl) (by kernel_rfl) (by kernel_rfl) (fun _ _ _ h => h) (Or.inl ⟨by rfl, ?_⟩) (by assumption) ?_
  rotate_left; (intro wS hSw; (try dsimp only at hSw); go_simp <;> with_reducible rfl)
  try simp only [List.getElem_toArray, List.getElem_cons_zero, List.getElem_cons_succ, Act.put, List.setIfInBounds_toArray, List.set_cons_zero, List.set_cons_succ]
  refine wpAnyH_take (i := 5) (oi := _) (v := ?_) rfl (by kernel_rfl) (by kernel_rfl) (by kernel_rfl) (fun _ _ _ h => h) (Or.inl ⟨by rfl, ?_⟩) (by assumption) ?_
  rotate_left; (intro wS hSw; (try dsimp only at hSw); go_simp <;> with_reducible rfl)
  try simp only [List.getElem_toArray, List.getElem_cons_zero, List.getElem_cons_succ, Act.put, List.setIfInBounds_toArray, List.set_cons_zero, List.set_cons_succ]
  refine wpAnyH_take (i := 6) (oi := _) (v := ?_) rfl (by kernel_rfl) (by kernel_rfl) (by kernel_rfl) (fun _ _ _ h => h) (Or.inl ⟨by rfl, ?_⟩) (by assumption) ?_
  rotate_left; (intro wS hSw; (try dsimp only at hSw); go_simp <;> with_reducible rfl)
  try simp only [List.getElem_toArray, List.getElem_cons_zero, List.getElem_cons_succ, Act.put, List.setIfInBounds_toArray, List.set_cons_zero, List.set_cons_succ]
  refine wpAnyH_ready (rs := [7]) (by kernel_rfl) (by simp) ?_
  refine AllReadyH.cons rfl (fun K hK => ?_) AllReadyH.nil
  go_simp
  (with_reducible refine (lunknowns_any Y yn yc B rows bn bc n0 hbn hbp HN _ ?_).mono ?_); (go_split_ands; exact hOB.out _ (by assumption)); rintro e wA ⟨rfl, hbA⟩
  refine hK.out _ _ ?_ (fun hHeld => ?_)
  · (go_split_ands; exact hS.out _ _ (by assumption) hbA)
  clear hK K
  try simp only [List.getElem_toArray, List.getElem_cons_zero, List.getElem_cons_succ, Act.put, List.setIfInBounds_toArray, List.set_cons_zero, List.set_cons_succ]
  refine wpAnyH_take (i := 8) (oi := _) (v := ?_) rfl (by kernel_rfl) (by kernel_rfl) (by kernel_rfl) (fun _ _ _ h => h) (Or.inl ⟨by rfl, ?_⟩) (by assumption) ?_
  rotate_left; (intro wS hSw; (try dsimp only at hSw); go_simp <;> with_reducible rfl)
  try simp only [List.getElem_toArray, List.getElem_cons_zero, List.getElem_cons_succ, Act.put, List.setIfInBounds_toArray, List.set_cons_zero, List.set_cons_succ]
  refine wpAnyH_take (i := 9) (oi := _) (v := ?_) rfl (by kernel_rfl) (by kernel_rfl) (by kernel_rfl) (fun _ _ _ h => h) (Or.inl ⟨by rfl, ?_⟩) (by assumption) ?_
  rotate_left; (intro wS hSw; (try dsimp only at hSw); go_simp <;> with_reducible rfl)
  try simp only [List.getElem_toArray, List.getElem_cons_zero, List.getElem_cons_succ, Act.put, List.setIfInBounds_toArray, List.set_cons_zero, List.set_cons_succ]
  refine wpAnyH_take (i := 10) (oi := _) (v := ?_) rfl (by kernel_rfl) (by kernel_rfl) (by kernel_rfl) (fun _ _ _ h => h) (Or.inl ⟨by rfl, ?_⟩) (by assumption) ?_
  rotate_left; (intro wS hSw; (try dsimp only at hSw); go_simp <;> with_reducible rfl)
  try simp only [List.getElem_toArray, List.getElem_cons_zero, List.getElem_cons_succ, Act.put, List.setIfInBounds_toArray, List.set_cons_zero, List.set_cons_succ]
  refine wpAnyH_take (i := 11) (oi := _) (v := ?_) rfl (by kernel_rfl) (by kernel_rfl) (by kernel_rfl) (fun _ _ _ h => h) (Or.inl ⟨by rfl, ?_⟩) (by assumption) ?_
  rotate_left; (intro wS hSw; (try dsimp only at hSw); go_simp <;> with_reducible rfl)
  try simp only [List.getElem_toArray, List.getElem_cons_zero, List.getElem_cons_succ, Act.put, List.setIfInBounds_toArray, List.set_cons_zero, List.set_cons_succ]
  refine wpAnyH_take (i := 12) (oi := _) (v := ?_) rfl (by kernel_rfl) (by kernel_rfl) (by kernel_rfl) (fun _ _ _ h => h) (Or.inl ⟨by rfl, ?_⟩) (by assumption) ?_
  rotate_left; (intro wS hSw; (try dsimp only at hSw); go_simp <;> with_reducible rfl)
  try simp only [List.getElem_toArray, List.getElem_cons_zero, List.getElem_cons_succ, Act.put, List.setIfInBounds_toArray, List.set_cons_zero, List.set_cons_succ]
  refine wpAnyH_ready (rs := [13]) (by kernel_rfl) (by simp) ?_
  refine AllReadyH.cons rfl (fun K hK => ?_) AllReadyH.nil
  go_simp
  (with_reducible refine (scalars_any P Q G L ls ln lc false Hl hln (Lib.hid hlb) _ ?_).mono ?_); (go_split_ands; exact hOL.out _ (by assumption)); rintro e wA ⟨rfl, hbA⟩
  refine hK.out _ _ ?_ (fun hHeld => ?_)
  · (go_split_ands; exact hS.out _ _ (by assumption) hbA)
  clear hK K
  try simp only [List.getElem_toArray, List.getElem_cons_zero, List.getElem_cons_succ, Act.put, List.setIfInBounds_toArray, List.set_cons_zero, List.set_cons_succ]
  refine wpAnyH_take (i := 14) (oi := _) (v := ?_) rfl (by kernel_rfl) (by kernel_rfl) (by kernel_rfl) (fun _ _ _ h => h) (Or.inl ⟨by rfl, ?_⟩) (by assumption) ?_
  rotate_left; (intro wS hSw; (try dsimp only at hSw); go_simp <;> with_reducible rfl)
  try simp only [List.getElem_toArray, List.getElem_cons_zero, List.getElem_cons_succ, Act.put, List.setIfInBounds_toArray, List.set_cons_zero, List.set_cons_succ]
  refine wpAnyH_take (i := 15) (oi := _) (v := ?_) rfl (by kernel_rfl) (by kernel_rfl) (by kernel_rfl) (fun _ _ _ h => h) (Or.inl ⟨by rfl, ?_⟩) (by assumption) ?_
  rotate_left; (intro wS hSw; (try dsimp only at hSw); go_simp <;> with_reducible rfl)
  try simp only [List.getElem_toArray, List.getElem_cons_zero, List.getElem_cons_succ, Act.put, List.setIfInBounds_toArray, List.set_cons_zero, List.set_cons_succ]
  refine wpAnyH_take (i := 16) (oi := _) (v := undef) rfl (by kernel_rfl) (by kernel_rfl) (by kernel_rfl) (fun _ _ _ h => h) (Or.inr ⟨by rfl, rfl⟩) (by assumption) ?_
  try simp only [List.getElem_toArray, List.getElem_cons_zero, List.getElem_cons_succ, Act.put, List.setIfInBounds_toArray, List.set_cons_zero, List.set_cons_succ]
  refine wpAnyH_take (i := 17) (oi := _) (v := undef) rfl (by kernel_rfl) (by kernel_rfl) (by kernel_rfl) (fun _ _ _ h => h) (Or.inr ⟨by rfl, rfl⟩) (by assumption) ?_
  try simp only [List.getElem_toArray, List.getElem_cons_zero, List.getElem_cons_succ, Act.put, List.setIfInBounds_toArray, List.set_cons_zero, List.set_cons_succ]
  refine wpAnyH_take (i := 18) (oi := _) (v := undef) rfl (by kernel_rfl) (by kernel_rfl) (by kernel_rfl) (fun _ _ _ h => h) (Or.inr ⟨by rfl, rfl⟩) (by assumption) ?_
  try simp only [List.getElem_toArray, List.getElem_cons_zero, List.getElem_cons_succ, Act.put, List.setIfInBounds_toArray, List.set_cons_zero, List.set_cons_succ]
  refine wpAnyH_take (i := 19) (oi := _) (v := undef) rfl (by kernel_rfl) (by kernel_rfl) (by kernel_rfl) (fun _ _ _ h => h) (Or.inr ⟨by rfl, rfl⟩) (by assumption) ?_
  try simp only [List.getElem_toArray, List.getElem_cons_zero, List.getElem_cons_succ, Act.put, List.setIfInBounds_toArray, List.set_cons_zero, List.set_cons_succ]
  refine wpAnyH_take (i := 20) (oi := _) (v := undef) rfl (by kernel_rfl) (by kernel_rfl) (by kernel_rfl) (fun _ _ _ h => h) (Or.inr ⟨by rfl, rfl⟩) (by assumption) ?_
  try simp only [List.getElem_toArray, List.getElem_cons_zero, List.getElem_cons_succ, Act.put, List.setIfInBounds_toArray, List.set_cons_zero, List.set_cons_succ]
  refine wpAnyH_take (i := 21) (oi := _) (v := undef) rfl (by kernel_rfl) (by kernel_rfl) (by kernel_rfl) (fun _ _ _ h => h) (Or.inr ⟨by rfl, rfl⟩) (by assumption) ?_
  try simp only [List.getElem_toArray, List.getElem_cons_zero, List.getElem_cons_succ, Act.put, List.setIfInBounds_toArray, List.set_cons_zero, List.set_cons_succ]
  refine wpAnyH_take (i := 22) (oi := _) (v := undef) rfl (by kernel_rfl) (by kernel_rfl) (by kernel_rfl) (fun _ _ _ h => h) (Or.inr ⟨by rfl, rfl⟩) (by assumption) ?_
  try simp only [List.getElem_toArray, List.getElem_cons_zero, List.getElem_cons_succ, Act.put, List.setIfInBounds_toArray, List.set_cons_zero, List.set_cons_succ]
  refine wpAnyH_take (i := 23) (oi := _) (v := undef) rfl (by kernel_rfl) (by kernel_rfl) (by kernel_rfl) (fun _ _ _ h => h) (Or.inr ⟨by rfl, rfl⟩) (by assumption) ?_
  try simp only [List.getElem_toArray, List.getElem_cons_zero, List.getElem_cons_succ, Act.put, List.setIfInBounds_toArray, List.set_cons_zero, List.set_cons_succ]
  refine wpAnyH_take (i := 24) (oi := _) (v := ?_) rfl (by kernel_rfl) (by kernel_rfl) (by kernel_rfl) (fun _ _ _ h => h) (Or.inl ⟨by rfl, ?_⟩) (by assumption) ?_
  rotate_left; (intro wS hSw; (try dsimp only at hSw); go_simp <;> with_reducible rfl)
  try simp only [List.getElem_toArray, List.getElem_cons_zero, List.getElem_cons_succ, Act.put, List.setIfInBounds_toArray, List.set_cons_zero, List.set_cons_succ]
  refine wpAnyH_take (i := 25) (oi := _) (v := ?_) rfl (by kernel_rfl) (by kernel_rfl) (by kernel_rfl) (fun _ _ _ h => h) (Or.inl ⟨by rfl, ?_⟩) (by assumption) ?_
  rotate_left; (intro wS hSw; (try dsimp only at hSw); go_simp <;> with_reducible rfl)
  try simp only [List.getElem_toArray, List.getElem_cons_zero, List.getElem_cons_succ, Act.put, List.setIfInBounds_toArray, List.set_cons_zero, List.set_cons_succ]
  refine wpAnyH_done (by kernel_rfl) ?_ _
  obtain ⟨x0, x1, x2, x3, x4, HBA⟩ := hHeld
  have hbF := below_ext HBw.out HBA.out
  go_wp2
  go_ret
  exact ⟨rfl, hbF⟩
set_option maxHeartbeats 12800000 in
theorem lholds_e (P Q G : Int) (Y : Option Addr) (ys : List Int) (yn yc : Nat) (B : Option Addr) (rows : List Row) (bn bc : Nat) (L : Option Addr) (ls : List Int) (ln lc : Nat) (hyn : Hid (ys.length = yn)) (hbn : Hid (rows.length = bn)) (hln : Hid (ls.length = ln)) (hlb : ln < 1000000) (HVL : Hid (validR P Q G ys rows = true)) (hlen : ls.length = rowN rows) (Hl : Hid (ls.all (scB Q) = true)) (hQ : Q < 9223372036854775808) (w : World) (hv : Hid (Vars w)) (hY : Hid (Sl w Y ys)) (hB : Hid (Rw w B rows)) (hL : Hid (Sl w L ls)) :
    Calls Tryz.prog 56 #[gv P Q G, relV Y yn yc B bn bc, .slice L ln lc] w fun e' w' => e' = .returned (.bool ((rows.map fun r => prodF P 1 r.xs ls) == ys)) ∧ Below w.heap.size w w' := by
  obtain ⟨W, hW⟩ : ∃ W, (w.alloc (gObj P Q G)).alloc (relO Y yn yc B bn bc) = W := ⟨_, rfl⟩
  have HBw : Hid (Below w.heap.size w W) := Lib.hid (by rw [← hW]; exact below_two (Below.refl _ _))
  have HX0 : Hid (GBox W w.heap.size P Q G) := Lib.hid (by rw [← hW]; exact (gbox_alloc w P Q G).below (below_box0 _ _))
  have HR0 : Hid (RBox W (w.heap.size + 1) (.slice Y yn yc) (.slice B bn bc)) := Lib.hid (by rw [← hW]; exact rbox_alloc1 _ _ _ _ _)
  have hOY := Lib.hid (show ∀ u1 : World, Hid (Below W.heap.size W u1) → Hid (Sl u1 Y ys) from fun u1 h1 => Lib.hid (hY.out.below (below_ext HBw.out h1.out)))
  have hOB := Lib.hid (show ∀ u1 : World, Hid (Below W.heap.size W u1) → Hid (Rw u1 B rows) from fun u1 h1 => Lib.hid (hB.out.below (below_ext HBw.out h1.out)))
  have hOL := Lib.hid (show ∀ u1 : World, Hid (Below W.heap.size W u1) → Hid (Sl u1 L ls) from fun u1 h1 => Lib.hid (hL.out.below (below_ext HBw.out h1.out)))
  have hOV := Lib.hid (show ∀ u1 : World, Hid (Below W.heap.size W u1) → Hid (Vars u1) from fun u1 h1 => Lib.hid (hv.out.below (below_ext HBw.out h1.out)))
  have hS := Lib.hid (show ∀ u1 u2 : World, Hid (Below W.heap.size W u1) → Below u1.heap.size u1 u2 → (u2.cell? ⟨w.heap.size, 0, none⟩ = some (.int .i64 P) ∧ u2.cell? ⟨w.heap.size, 1, none⟩ = some (.int .i64 Q) ∧ u2.cell? ⟨w.heap.size, 2, none⟩ = some (.int .i64 G) ∧ u2.cell? ⟨w.heap.size + 1, 0, none⟩ = some (.slice Y yn yc) ∧ u2.cell? ⟨w.heap.size + 1, 1, none⟩ = some (.slice B bn bc) ∧ Hid (Below W.heap.size W u2)) from fun u1 u2 h1 h2 => have h3 := below_ext h1.out h2; ⟨(HX0.out.below h3).1, (HX0.out.below h3).2.1, (HX0.out.below h3).2.2, (HR0.out.below h3).1, (HR0.out.below h3).2, Lib.hid h3⟩)
  have hR : Hid (Below W.heap.size W W) := Lib.hid (Below.refl _ _)
  have HW := Lib.hid hW
  clear hW hY hB hL
  obtain ⟨v1, v2, v3, v4, v5, v6, v7, v8⟩ := validR_parts HVL.out
  have hbp : 0 < bn := by rw [← hbn.out]; omega
  obtain ⟨n0, hn0⟩ : ∃ n, rowN rows = n := ⟨_, rfl⟩
  have HN := Lib.hid hn0
  have heq : ((ln : Int) == (n0 : Int)) = true := by rw [← hln.out, ← hn0]; simp; omega
  obtain ⟨hp2, hp, hq3, hqp⟩ := validG_P v1
  rw [← hlen, hln.out] at v8
  have HRB := Lib.hid v8
  have hby : bn = yn := by rw [← hbn.out, ← hyn.out]; exact v4
  have hb8 : bn ≤ 8 := by rw [← hbn.out]; omega
  subst hby
  have hzl : (rows.map fun r => prodF P 1 r.xs ls).length = bn := by rw [List.length_map]; exact hbn.out
  clear v1 v2 v3 v4 v5 v6 v7 v8 hn0 hlen
  go_enter Tryz.func56, Tryz.ntmps56
  go_wp2_with fail
  rw [HW.out]
  go_region_held3 (fun w' => w'.cell? ⟨w.heap.size, 0, none⟩ = some (.int .i64 P) ∧ w'.cell? ⟨w.heap.size, 1, none⟩ = some (.int .i64 Q) ∧ w'.cell? ⟨w.heap.size, 2, none⟩ = some (.int .i64 G) ∧ w'.cell? ⟨w.heap.size + 1, 0, none⟩ = some (.slice Y bn yc) ∧ w'.cell? ⟨w.heap.size + 1, 1, none⟩ = some (.slice B bn bc) ∧ Hid (Below W.heap.size W w'))
    (first | exact hS.out _ _ hR ((Below.refl W.heap.size W).drew) | (go_split_ands; exact hS.out _ _ (by assumption) hbA) | go_keep)
    ((first
      | (go_at_call 77; (with_reducible refine (lvalid_any P Q G Y ys bn yc B rows bn bc true HVL hyn hbn hQ _ ?_ ?_ ?_).mono ?_); (go_split_ands; exact hOV.out _ (by assumption)); (go_split_ands; exact hOY.out _ (by assumption)); (go_split_ands; exact hOB.out _ (by assumption)); rintro e wA ⟨rfl, hbA⟩)
      | (go_at_call 58; (with_reducible refine (lunknowns_any Y bn yc B rows bn bc n0 hbn hbp HN _ ?_).mono ?_); (go_split_ands; exact hOB.out _ (by assumption)); rintro e wA ⟨rfl, hbA⟩)
      | (go_at_call 78; (with_reducible refine (scalars_any P Q G L ls ln lc true Hl hln (Lib.hid hlb) _ ?_).mono ?_); (go_split_ands; exact hOL.out _ (by assumption)); rintro e wA ⟨rfl, hbA⟩)
      | (go_at_call 59; (with_reducible refine (lproducts_any P Q G B rows bn bc L ls ln lc hbn hln hlb (by omega) HRB Hl hp2 hp hQ _ ?_ ?_).mono ?_); (go_split_ands; exact hOB.out _ (by assumption)); (go_split_ands; exact hOL.out _ (by assumption)); (intro e wA hA; obtain ⟨g, cap, rfl, hcA, hbA⟩ := hA.cells hzl hbp))
      | (go_at_call 21; (with_reducible refine (eq_any g bn cap (rows.map fun r => prodF P 1 r.xs ls) Y ys bn yc hzl hyn hbp (by omega) (by omega) _ hcA ?_).mono ?_); (go_split_ands; exact hOY.out _ (by assumption)); rintro e wA ⟨rfl, hbA⟩)))
  rename_i hHeld
  obtain ⟨x0, x1, x2, x3, x4, HBA⟩ := hHeld
  have hbF := below_ext HBw.out HBA.out
  go_wp2
  go_ret
  exact ⟨rfl, hbF⟩
theorem lholds_any (P Q G : Int) (Y : Option Addr) (ys : List Int) (yn yc : Nat) (B : Option Addr) (rows : List Row) (bn bc : Nat) (L : Option Addr) (ls : List Int) (ln lc : Nat) (r : Bool) (hr : Hid (holdsB P Q G ys rows ls = r)) (hyn : Hid (ys.length = yn)) (hbn : Hid (rows.length = bn)) (hln : Hid (ls.length = ln)) (hlb : ln < 1000000) (hQ : Q < 9223372036854775808) (w : World) (hv : Hid (Vars w)) (hY : Hid (Sl w Y ys)) (hB : Hid (Rw w B rows)) (hL : Hid (Sl w L ls)) :
    Calls Tryz.prog 56 #[gv P Q G, relV Y yn yc B bn bc, .slice L ln lc] w fun e' w' => e' = .returned (.bool r) ∧ Below w.heap.size w w' := by
  have hr' := hr.out
  unfold holdsB at hr'
  cases h1 : validR P Q G ys rows with
  | false =>
    obtain rfl : r = false := by rw [← hr', h1, Bool.false_and]
    exact lholds_v P Q G Y ys yn yc B rows bn bc L ls ln lc hyn hbn hln hlb (Lib.hid h1) hQ w hv hY hB hL
  | true =>
    rw [h1, Bool.true_and] at hr'
    by_cases h2 : ls.length = rowN rows
    · rw [decide_eq_true h2, Bool.true_and] at hr'
      cases h3 : ls.all (scB Q) with
      | false =>
        obtain rfl : r = false := by rw [← hr', h3, Bool.false_and]
        exact lholds_s P Q G Y ys yn yc B rows bn bc L ls ln lc hyn hbn hln hlb (Lib.hid h1) h2 (Lib.hid h3) hQ w hv hY hB hL
      | true =>
        rw [h3, Bool.true_and] at hr'
        rw [← hr']
        exact lholds_e P Q G Y ys yn yc B rows bn bc L ls ln lc hyn hbn hln hlb (Lib.hid h1) h2 (Lib.hid h3) hQ w hv hY hB hL
    · obtain rfl : r = false := by rw [← hr', decide_eq_false h2, Bool.false_and]
      exact lholds_n P Q G Y ys yn yc B rows bn bc L ls ln lc hyn hbn hln hlb (Lib.hid h1) h2 hQ w hv hY hB hL
end Go.Proofs.YtdlhodbiaoafiaaGreatDoor
namespace Go.Proofs.YtdlhodbiaoafiaaGreatDoor
open Go.RowKit SpM
set_option linter.unusedVariables false
set_option linter.unusedSimpArgs false
set_option maxRecDepth 20000
theorem OwnL.rowF {w : World} {B : Nat} {v : Value} {xs : List Int} (h : OwnL w B v xs) (hne : 0 < xs.length) : ∃ g cap, v = .slice (some ⟨g, 0, none⟩) xs.length cap ∧ B ≤ g ∧ RowF w g xs.length (fun j => xs.getD j 0) := by
  obtain ⟨g, cap, hv, hg, hc⟩ := OwnL.cells h hne
  obtain ⟨_, h2⟩ := h
  rcases h2 with ⟨_, h0⟩ | ⟨g', cap', cur, hv', _, hh, _⟩
  · omega
  · rw [hv] at hv'
    cases hv'
    exact ⟨g, cap, hv, hg, fun j hj => hc j hj, fun j => frozen_blk hh j⟩
theorem RowF.below {w w' : World} {g n : Nat} {f : Nat → Int} (h : RowF w g n f) (hn : 0 < n) (hb : Below w.heap.size w w') : RowF w' g n f := by
  have hg : g < w.heap.size := World.block_lt_of_cell? _ _ (h.1 0 hn)
  exact ⟨fun j hj => (hb.cell (p := ⟨g, j, none⟩) hg).trans (h.1 j hj), fun j => (hb.frozen (p := ⟨g, j, none⟩) hg).trans (h.2 j)⟩
/-- the commitment that fits a challenge. -/
def simF (P Q c : Int) (ys : List Int) (rows : List Row) (zs : List Int) (i : Nat) : Int := prodF P 1 (rows.getD i noRow).xs zs * pw (ys.getD i 0) ((Q - c) % Q) P % P
def simR (P Q c : Int) (ys : List Int) (rows : List Row) (zs : List Int) : List Int := (List.range rows.length).map (simF P Q c ys rows zs)
theorem simR_length (P Q c : Int) (ys : List Int) (rows : List Row) (zs : List Int) : (simR P Q c ys rows zs).length = rows.length := by simp [simR]
theorem simR_get {P Q c : Int} {ys : List Int} {rows : List Row} {zs : List Int} {i : Nat} (h : i < rows.length) : (simR P Q c ys rows zs).getD i 0 = simF P Q c ys rows zs i := by
  rw [List.getD_eq_getElem?_getD, List.getElem?_eq_getElem (by rw [simR_length]; exact h)]
  simp [simR]
theorem map_getD {f : Row → Int} {rows : List Row} {i : Nat} (h : i < rows.length) : (rows.map f).getD i 0 = f (rows.getD i noRow) := by
  rw [List.getD_eq_getElem?_getD, List.getElem?_eq_getElem (by simpa using h), List.getD_eq_getElem?_getD, List.getElem?_eq_getElem h]
  simp
theorem prodF_in {P : Int} (hp : 2 ≤ P) : ∀ (xs es : List Int) (acc : Int), 0 ≤ acc → acc < P → 0 ≤ prodF P acc xs es ∧ prodF P acc xs es < P
  | [], es, acc, h0, h1 => by cases es <;> exact ⟨h0, h1⟩
  | x :: xs, [], acc, h0, h1 => ⟨h0, h1⟩
  | x :: xs, e :: es, acc, h0, h1 => by
    rw [prodF]
    exact prodF_in hp xs es _ (Int.emod_nonneg _ (by omega)) (Int.emod_lt_of_pos _ (by omega))
set_option maxHeartbeats 12800000 in
theorem lsim_ok (P Q G : Int) (Y : Option Addr) (ys : List Int) (yc : Nat) (B : Option Addr) (rows : List Row) (n bc : Nat) (c : Int) (L : Option Addr) (zs : List Int) (ln lc : Nat) (HVL : Hid (validR P Q G ys rows = true)) (hyn : Hid (ys.length = n)) (hbn : Hid (rows.length = n)) (hln : Hid (zs.length = ln)) (hlen : zs.length = rowN rows)
    (Hl : Hid (zs.all (scB Q) = true)) (hc0 : 0 ≤ c) (hc1 : c < Q) (hQ : Q < 9223372036854775808) (w : World) (hY : Hid (Sl w Y ys)) (hB : Hid (Rw w B rows)) (hL : Hid (Sl w L zs)) :
    Calls Tryz.prog 48 #[gv P Q G, relV Y n yc B n bc, .int .i64 c, .slice L ln lc] w (CellsOut (simR P Q c ys rows zs) n w) := by
  obtain ⟨v1, v2, v3, v4, v5, v6, v7, v8⟩ := validR_parts HVL.out
  obtain ⟨hp2, hp, hq3, hqp⟩ := validG_P v1
  rw [← hlen, hln.out] at v8
  have HRB := Lib.hid v8
  have hnp : 0 < n := by rw [← hyn.out]; omega
  have hn8 : n ≤ 8 := by rw [← hyn.out]; omega
  have hln12 : ln ≤ 12 := by rw [← hln.out]; omega
  have HYM := Lib.hid v5
  have hzl : (rows.map fun r => prodF P 1 r.xs zs).length = n := by rw [List.length_map]; exact hbn.out
  clear v1 v2 v3 v4 v5 v6 v7 v8
  obtain ⟨b1, o1, rfl, _⟩ := hY.out 0 (by rw [hyn.out]; exact hnp)
  obtain ⟨w0, hW⟩ : ∃ W, (w.alloc (gObj P Q G)).alloc (relO (some ⟨b1, o1, none⟩) n yc B n bc) = W := ⟨_, rfl⟩
  have HBw : Hid (Below w.heap.size w w0) := Lib.hid (by rw [← hW]; exact below_two (Below.refl _ _))
  have HX0 : Hid (GBox w0 w.heap.size P Q G) := Lib.hid (by rw [← hW]; exact (gbox_alloc w P Q G).below (below_box0 _ _))
  have HR0 : Hid (RBox w0 (w.heap.size + 1) (.slice (some ⟨b1, o1, none⟩) n yc) (.slice B n bc)) := Lib.hid (by rw [← hW]; exact rbox_alloc1 _ _ _ _ _)
  have HY0 := Lib.hid (hY.out.below HBw.out)
  have HA0 := Lib.hid (hB.out.below HBw.out)
  have HL0 := Lib.hid (hL.out.below HBw.out)
  have HW := Lib.hid hW
  clear hW hY hB hL
  obtain ⟨d0, d1⟩ := HR0.out
  obtain ⟨c0, c1, c2⟩ := HX0.out
  go_enter Tryz.func48, Tryz.ntmps48
  go_wp2_with fail
  rw [HW.out]
  refine (lproducts_any P Q G B rows n bc L zs ln lc hbn hln (by omega) (by omega) HRB Hl hp2 hp hQ _ HA0 HL0).mono ?_
  rintro e W ⟨v, rfl, ho, hb0⟩
  obtain ⟨g, cap, rfl, hg, hrf⟩ := ho.rowF (by rw [hzl]; exact hnp)
  rw [hzl] at hrf
  have hvl : (Value.slice (some ⟨g, 0, none⟩) ((rows.map fun r => prodF P 1 r.xs zs).length) cap) = .slice (some ⟨g, 0, none⟩) n cap := by rw [hzl]
  rw [hvl]
  have HXW := Lib.hid (HX0.out.below hb0)
  have HRW := Lib.hid (HR0.out.below hb0)
  have HYW := Lib.hid (HY0.out.below hb0)
  have HBW := Lib.hid (below_ext HBw.out hb0)
  have hgw : w.heap.size + 1 < g := by have h1 : w.heap.size + 1 < w0.heap.size := World.block_lt_of_cell? _ _ HR0.out.1; omega
  have hyg : b1 < g := by
    obtain ⟨bb, oo, e1, e2⟩ := HY0.out 0 (by rw [hyn.out]; exact hnp)
    cases e1
    have h1 : b1 < w0.heap.size := World.block_lt_of_cell? _ _ e2
    omega
  have HRF : Hid (RowF W g n (fun j => if j < 0 then simF P Q c ys rows zs j else prodF P 1 (rows.getD j noRow).xs zs)) := Lib.hid ⟨fun j hj => by
    have h1 := hrf.1 j hj
    dsimp only at h1
    rw [map_getD (by rw [hbn.out]; exact hj)] at h1
    dsimp only
    rw [if_neg (by omega)]
    exact h1, hrf.2⟩
  have HG_ := Lib.hid (Nat.le_trans HBw.out.size hg)
  clear ho hb0 hrf hvl hg c0 c1 c2 d0 d1
  obtain ⟨d0, d1⟩ := HRW.out
  go_wp2
  go_loopw [22] (fun i wr => ∃ k : Nat, k ≤ n ∧ i = .int .i64 k ∧ Hid (RowF wr g n (fun j => if j < k then simF P Q c ys rows zs j else prodF P 1 (rows.getD j noRow).xs zs)) ∧ Hid (Below g W wr)) (fun i _ => n - (intOf i).toNat)
  case atStart => exact ⟨0, by omega, rfl, HRF, Lib.hid (Below.refl _ _)⟩
  case round =>
    obtain ⟨k, hk, rfl, HRr, HBr⟩ := hrel
    by_cases hlt : k < n
    · have hkl : k < ys.length := by rw [hyn.out]; exact hlt
      have hkr : k < rows.length := by rw [hbn.out]; exact hlt
      obtain ⟨bb, oo, e1, hi0⟩ := HYW.out k hkl
      cases e1
      have hi1 := (HBr.out.cell (p := ⟨b1, o1 + k, none⟩) hyg).trans hi0
      have c0 := (HBr.out.cell (p := ⟨w.heap.size, 0, none⟩) (by show w.heap.size < g; omega)).trans HXW.out.1
      have c1 := (HBr.out.cell (p := ⟨w.heap.size, 1, none⟩) (by show w.heap.size < g; omega)).trans HXW.out.2.1
      have hcell : wr.cell? ⟨g, k, none⟩ = some (.int .i64 (prodF P 1 (rows.getD k noRow).xs zs)) := by
        have h3 := HRr.out.1 k hlt
        simp only [Nat.lt_irrefl, if_false] at h3
        exact h3
      have hfz := HRr.out.2 k
      have hmy := all_get HYM.out hkl
      obtain ⟨q0, q1⟩ := prodF_in hp2 (rows.getD k noRow).xs zs 1 (by omega) (by omega)
      have hsf : simF P Q c ys rows zs k = prodF P 1 (rows.getD k noRow).xs zs * pw (ys.getD k 0) ((Q - c) % Q) P % P := rfl
      obtain ⟨a, ha⟩ : ∃ a, prodF P 1 (rows.getD k noRow).xs zs = a := ⟨_, rfl⟩
      obtain ⟨y, hy⟩ : ∃ x, ys.getD k 0 = x := ⟨_, rfl⟩
      rw [ha] at hcell q0 q1 hsf
      rw [hy] at hi1 hmy hsf
      have y0 := memG_lo hmy
      have y1 := memG_hi hmy
      obtain ⟨ex, hex⟩ : ∃ e, (Q - c) % Q = e := ⟨_, rfl⟩
      have ex0 : 0 ≤ ex := by rw [← hex]; exact Int.emod_nonneg _ (by omega)
      have ex1 : ex < Q := by rw [← hex]; exact Int.emod_lt_of_pos _ (by omega)
      rw [hex] at hsf
      obtain ⟨p, hpw⟩ : ∃ p, pw y ex P = p := ⟨_, rfl⟩
      obtain ⟨p0, p1⟩ : 0 ≤ p ∧ p < P := by rw [← hpw]; exact pw_lt _ _ _ (by omega)
      rw [hpw] at hsf
      obtain ⟨t, ht⟩ : ∃ t, a * p % P = t := ⟨_, rfl⟩
      rw [ht] at hsf
      have HN : ∀ q, Hid (RowF ((wr.drewN q).setCell ⟨g, k, none⟩ (.int .i64 t)) g n (fun j => if j < k + 1 then simF P Q c ys rows zs j else prodF P 1 (rows.getD j noRow).xs zs)) := fun q => by
        have h3 := rowF_set (RowF.below HRr.out hnp (below_drawN (Below.refl _ _) q)) hlt t
        have e : (fun j => if j = k then t else if j < k then simF P Q c ys rows zs j else prodF P 1 (rows.getD j noRow).xs zs) = (fun j => if j < k + 1 then simF P Q c ys rows zs j else prodF P 1 (rows.getD j noRow).xs zs) := by
          funext j
          by_cases hj : j = k
          · subst hj; rw [if_pos rfl, if_pos (by omega), hsf]
          · rw [if_neg hj]
            by_cases hj2 : j < k
            · rw [if_pos hj2, if_pos (by omega)]
            · rw [if_neg hj2, if_neg (by omega)]
        rw [e] at h3
        exact Lib.hid h3
      have HNH := Lib.hid HN
      have HB2 := Lib.hid (show ∀ q, Hid (Below g W ((wr.drewN q).setCell ⟨g, k, none⟩ (.int .i64 t))) from fun q => Lib.hid ((below_drawN HBr.out q).setCell (Nat.le_refl _) _))
      have hdf : IntKind.i64.wrap (Q - c) = Q - c := IntWalk.i64_in _ (by omega)
      have htm : (Q - c).tmod Q = ex := by rw [Int.tmod_eq_emod_of_nonneg (by omega), hex]
      have hwx : IntKind.i64.wrap ex = ex := IntWalk.i64_in _ (by omega)
      have hQn : ¬ (Q = 0) := by omega
      have HP1 := Lib.hid hpw
      have HAC := Lib.hid ht
      have HSF := Lib.hid hsf
      clear hkl hkr hi0 hmy hsf ha hy hex hpw ht HN
      go_wp2
      go_quiet ((go_at_call 63; exact Calls.quiet_of (pow_eq y ex P p HP1 (by omega) hp (by omega) y1 ex0 (by omega) _)))
      go_wp2_with fail
      go_region_with ((go_at_call 75; refine (wmul_eq a p P t HAC hp q0 q1 p0 p1 _).mono ?_; rintro e w' ⟨rfl, n3, rfl⟩))
      all_goals
        go_wp2
        go_roundw
        case rel => exact ⟨k + 1, by omega, by go_num, HNH.out _, HB2.out _⟩
        case measure => simp [intOf]; omega
    · obtain rfl : k = n := by omega
      have HF : Hid (Cells wr g (simR P Q c ys rows zs)) := Lib.hid (fun j hj => by
        rw [simR_length, hbn.out] at hj
        rw [simR_get (by rw [hbn.out]; exact hj), HRr.out.1 j hj]
        dsimp only
        rw [if_pos hj])
      have hbF : Below w.heap.size w wr := HBW.out.trans (HBr.out.mono HG_.out)
      clear HRr hlt
      go_wp2
      go_ret
      exact ⟨g, cap, rfl, HF, hbF⟩
end Go.Proofs.YtdlhodbiaoafiaaGreatDoor
namespace Go.Proofs.YtdlhodbiaoafiaaGreatDoor
open Go.RowKit SpM
set_option linter.unusedVariables false
set_option linter.unusedSimpArgs false
set_option maxRecDepth 100000
/-- a proof's value, its block, its box (names apart from layer 16's). -/
abbrev prvL (pa : Option Addr) (na ca : Nat) (C : Int) (pz : Option Addr) (nz cz : Nat) : Value := .agg #[.slice pa na ca, .int .i64 C, .slice pz nz cz]
abbrev prObjL (pa : Option Addr) (na ca : Nat) (C : Int) (pz : Option Addr) (nz cz : Nat) : Obj := .cells #[.slice pa na ca, .int .i64 C, .slice pz nz cz] 28
def PrBox (w : World) (a : Nat) (x y z : Value) : Prop := w.cell? ⟨a, 0, none⟩ = some x ∧ w.cell? ⟨a, 1, none⟩ = some y ∧ w.cell? ⟨a, 2, none⟩ = some z
theorem PrBox.below {w w' : World} {a : Nat} {x y z : Value} (h : PrBox w a x y z) (hb : Below w.heap.size w w') : PrBox w' a x y z :=
  ⟨cell_below h.1 hb, cell_below h.2.1 hb, cell_below h.2.2 hb⟩
theorem prBox_alloc0 (w : World) (T : TypeId) (x y z : Value) : PrBox (w.alloc (.cells #[x, y, z] T)) w.heap.size x y z := ⟨World.cell?_alloc_at _ _ _ _ rfl, World.cell?_alloc_at _ _ _ _ rfl, World.cell?_alloc_at _ _ _ _ rfl⟩
theorem boxes3 (w : World) (o1 o2 : Obj) (T : TypeId) (x y z : Value) : PrBox (((w.alloc o1).alloc o2).alloc (.cells #[x, y, z] T)) (w.heap.size + 2) x y z := by
  have e : ((w.alloc o1).alloc o2).heap.size = w.heap.size + 2 := by simp
  rw [← e]
  exact prBox_alloc0 _ _ _ _ _
theorem boxes3_below {w : World} {o1 o2 o3 : Obj} : Below w.heap.size w (((w.alloc o1).alloc o2).alloc o3) :=
  (((Below.refl _ _).alloc (Nat.le_refl _) _).alloc (by simp) _).alloc (by simp; omega) _
set_option maxHeartbeats 12800000 in
theorem lcheckp_ok (P Q G : Int) (Y : Option Addr) (ys : List Int) (n yc : Nat) (B : Option Addr) (rows : List Row) (bc : Nat) (A : Option Addr) (al : List Int) (ca : Nat) (C : Int) (Z : Option Addr) (zs : List Int) (nz cz : Nat)
    (HVL : Hid (validR P Q G ys rows = true)) (hyn : Hid (ys.length = n)) (hbn : Hid (rows.length = n)) (han : Hid (al.length = n)) (hzn : Hid (zs.length = nz)) (hlen : zs.length = rowN rows) (Hl : Hid (zs.all (scB Q) = true)) (hc0 : 0 ≤ C) (hc1 : C < Q) (r : Bool) (hr : Hid ((simR P Q C ys rows zs == al) = r))
    (hQ : Q < 9223372036854775808) (w : World) (hv : Hid (Vars w)) (hY : Hid (Sl w Y ys)) (hB : Hid (Rw w B rows)) (hA : Hid (Sl w A al)) (hZ : Hid (Sl w Z zs)) :
    Calls Tryz.prog 44 #[gv P Q G, relV Y n yc B n bc, prvL A n ca C Z nz cz] w fun e' w' => e' = .returned (.bool r) ∧ Below w.heap.size w w' := by
  obtain ⟨v1, v2, v3, v4, v5, v6, v7, v8⟩ := validR_parts HVL.out
  have hnp : 0 < n := by rw [← hyn.out]; omega
  have hn8 : n ≤ 8 := by rw [← hyn.out]; omega
  have hz12 : nz ≤ 12 := by rw [← hzn.out]; omega
  have HN : Hid (rowN rows = nz) := Lib.hid (hlen.symm.trans hzn.out)
  have hnn : ((n : Int) != (n : Int)) = false := by simp
  have hzz : ((nz : Int) != (nz : Int)) = false := by simp
  have HSC := Lib.hid (scB_one hc0 hc1)
  have hsl : (simR P Q C ys rows zs).length = n := by rw [simR_length]; exact hbn.out
  clear v1 v2 v3 v4 v5 v6 v7 v8
  obtain ⟨W, hW⟩ : ∃ W, ((w.alloc (gObj P Q G)).alloc (relO Y n yc B n bc)).alloc (prObjL A n ca C Z nz cz) = W := ⟨_, rfl⟩
  have HBw : Hid (Below w.heap.size w W) := Lib.hid (by rw [← hW]; exact boxes3_below)
  have HX0 : Hid (GBox W w.heap.size P Q G) := Lib.hid (by rw [← hW]; exact ((gbox_alloc w P Q G).below (below_box0 _ _)).below (below_box0 _ _))
  have HR0 : Hid (RBox W (w.heap.size + 1) (.slice Y n yc) (.slice B n bc)) := Lib.hid (by rw [← hW]; exact (rbox_alloc1 _ _ _ _ _).below (below_box0 _ _))
  have HP0 : Hid (PrBox W (w.heap.size + 2) (.slice A n ca) (.int .i64 C) (.slice Z nz cz)) := Lib.hid (by rw [← hW]; exact boxes3 w _ _ _ _ _ _)
  have hOV := Lib.hid (show ∀ u1 : World, Hid (Below W.heap.size W u1) → Hid (Vars u1) from fun u1 h1 => Lib.hid (hv.out.below (below_ext HBw.out h1.out)))
  have hOY := Lib.hid (show ∀ u1 : World, Hid (Below W.heap.size W u1) → Hid (Sl u1 Y ys) from fun u1 h1 => Lib.hid (hY.out.below (below_ext HBw.out h1.out)))
  have hOB := Lib.hid (show ∀ u1 : World, Hid (Below W.heap.size W u1) → Hid (Rw u1 B rows) from fun u1 h1 => Lib.hid (hB.out.below (below_ext HBw.out h1.out)))
  have hOA := Lib.hid (show ∀ u1 : World, Hid (Below W.heap.size W u1) → Hid (Sl u1 A al) from fun u1 h1 => Lib.hid (hA.out.below (below_ext HBw.out h1.out)))
  have hOZ := Lib.hid (show ∀ u1 : World, Hid (Below W.heap.size W u1) → Hid (Sl u1 Z zs) from fun u1 h1 => Lib.hid (hZ.out.below (below_ext HBw.out h1.out)))
  have hS := Lib.hid (show ∀ u1 u2 : World, Hid (Below W.heap.size W u1) → Below u1.heap.size u1 u2 → (u2.cell? ⟨w.heap.size, 0, none⟩ = some (.int .i64 P) ∧ u2.cell? ⟨w.heap.size, 1, none⟩ = some (.int .i64 Q) ∧ u2.cell? ⟨w.heap.size, 2, none⟩ = some (.int .i64 G) ∧ u2.cell? ⟨w.heap.size + 1, 0, none⟩ = some (.slice Y n yc) ∧ u2.cell? ⟨w.heap.size + 1, 1, none⟩ = some (.slice B n bc) ∧ u2.cell? ⟨w.heap.size + 2, 0, none⟩ = some (.slice A n ca) ∧ u2.cell? ⟨w.heap.size + 2, 1, none⟩ = some (.int .i64 C) ∧ u2.cell? ⟨w.heap.size + 2, 2, none⟩ = some (.slice Z nz cz) ∧ Hid (Below W.heap.size W u2)) from fun u1 u2 h1 h2 => have h3 := below_ext h1.out h2; ⟨(HX0.out.below h3).1, (HX0.out.below h3).2.1, (HX0.out.below h3).2.2, (HR0.out.below h3).1, (HR0.out.below h3).2, (HP0.out.below h3).1, (HP0.out.below h3).2.1, (HP0.out.below h3).2.2, Lib.hid h3⟩)
  have hR : Hid (Below W.heap.size W W) := Lib.hid (Below.refl _ _)
  have HW := Lib.hid hW
  clear hW hv hY hB hA hZ
  go_enter Tryz.func44, Tryz.ntmps44
  go_wp2_with fail
  rw [HW.out]
  go_region_held3 (fun w' => w'.cell? ⟨w.heap.size, 0, none⟩ = some (.int .i64 P) ∧ w'.cell? ⟨w.heap.size, 1, none⟩ = some (.int .i64 Q) ∧ w'.cell? ⟨w.heap.size, 2, none⟩ = some (.int .i64 G) ∧ w'.cell? ⟨w.heap.size + 1, 0, none⟩ = some (.slice Y n yc) ∧ w'.cell? ⟨w.heap.size + 1, 1, none⟩ = some (.slice B n bc) ∧ w'.cell? ⟨w.heap.size + 2, 0, none⟩ = some (.slice A n ca) ∧ w'.cell? ⟨w.heap.size + 2, 1, none⟩ = some (.int .i64 C) ∧ w'.cell? ⟨w.heap.size + 2, 2, none⟩ = some (.slice Z nz cz) ∧ Hid (Below W.heap.size W w'))
    (first | exact hS.out _ _ hR ((Below.refl W.heap.size W).drew) | (go_split_ands; exact hS.out _ _ (by assumption) hbA) | (go_split_ands; exact hS.out _ _ (by assumption) (below_box0 _ _)) | go_keep)
    ((first
      | (go_at_call 77; (with_reducible refine (lvalid_any P Q G Y ys n yc B rows n bc true HVL hyn hbn hQ _ ?_ ?_ ?_).mono ?_); (go_split_ands; exact hOV.out _ (by assumption)); (go_split_ands; exact hOY.out _ (by assumption)); (go_split_ands; exact hOB.out _ (by assumption)); rintro e wA ⟨rfl, hbA⟩)
      | (go_at_call 58; (with_reducible refine (lunknowns_any Y n yc B rows n bc nz hbn hnp HN _ ?_).mono ?_); (go_split_ands; exact hOB.out _ (by assumption)); rintro e wA ⟨rfl, hbA⟩)
      | (go_at_call 78; (with_reducible refine (scalars_any P Q G Z zs nz cz true Hl hzn (Lib.hid (by omega)) _ ?_).mono ?_); (go_split_ands; exact hOZ.out _ (by assumption)); rintro e wA ⟨rfl, hbA⟩)
      | (go_at_call 78; (with_reducible refine (scalars_any P Q G (some ⟨wA.heap.size, 0, none⟩) [C] 1 1 true HSC (Lib.hid rfl) (Lib.hid (by omega)) _ ?_).mono ?_); exact Lib.hid (sl_of_cells (cells1 wA _ C)); rintro e wA ⟨rfl, hbA⟩)))
  rename_i hHeld
  obtain ⟨x0, x1, x2, x3, x4, x5, x6, x7, HBA⟩ := hHeld
  clear x0 x1 x2 x3 x4 x5 x6 x7
  obtain ⟨W2, hW2⟩ : ∃ x, x = wA := ⟨_, rfl⟩
  go_wp2
  go_region_held3 (fun w' => w'.cell? ⟨w.heap.size, 0, none⟩ = some (.int .i64 P) ∧ w'.cell? ⟨w.heap.size, 1, none⟩ = some (.int .i64 Q) ∧ w'.cell? ⟨w.heap.size, 2, none⟩ = some (.int .i64 G) ∧ w'.cell? ⟨w.heap.size + 1, 0, none⟩ = some (.slice Y n yc) ∧ w'.cell? ⟨w.heap.size + 1, 1, none⟩ = some (.slice B n bc) ∧ w'.cell? ⟨w.heap.size + 2, 0, none⟩ = some (.slice A n ca) ∧ w'.cell? ⟨w.heap.size + 2, 1, none⟩ = some (.int .i64 C) ∧ w'.cell? ⟨w.heap.size + 2, 2, none⟩ = some (.slice Z nz cz) ∧ Hid (Below W.heap.size W w'))
    (first | exact hS.out _ _ HBA ((Below.refl _ _).drew) | (go_split_ands; exact hS.out _ _ (by assumption) hbA) | go_keep)
    ((first
      | (go_at_call 48; (with_reducible refine (lsim_ok P Q G Y ys yc B rows n bc C Z zs nz cz HVL hyn hbn hzn hlen Hl hc0 hc1 hQ _ ?_ ?_ ?_).mono ?_); (go_split_ands; exact hOY.out _ (by assumption)); (go_split_ands; exact hOB.out _ (by assumption)); (go_split_ands; exact hOZ.out _ (by assumption)); rintro e wA ⟨g, cap, rfl, hcA, hbA⟩)
      | (go_at_call 21; (with_reducible refine (eq_any g n cap (simR P Q C ys rows zs) A al n ca hsl han hnp (by omega) (by omega) _ hcA ?_).mono ?_); (go_split_ands; exact hOA.out _ (by assumption)); rintro e wA ⟨rfl, hbA⟩)))
  rename_i hHeld
  obtain ⟨x0, x1, x2, x3, x4, x5, x6, x7, HBF⟩ := hHeld
  have hbF := below_ext HBw.out HBF.out
  clear x0 x1 x2 x3 x4 x5 x6 x7
  go_wp2
  go_ret
  exact ⟨by first | (rw [hr.out]; done) | (rw [hr.out]; rfl) | (rw [hr.out]; simp) | (simp [hr.out]; done), hbF⟩
end Go.Proofs.YtdlhodbiaoafiaaGreatDoor
namespace Go.Proofs.YtdlhodbiaoafiaaGreatDoor
open Go.RowKit SpM
set_option linter.unusedVariables false
set_option linter.unusedSimpArgs false
set_option maxRecDepth 100000
/-- the relation of the example, laid from block s on. -/
def ex17R (s : Nat) : List Row := [⟨some ⟨s + 1 + 1, 0, none⟩, 1, 1, [2]⟩, ⟨some ⟨s + 1 + 1 + 1, 0, none⟩, 1, 1, [4]⟩]
def Ex17 (w : World) (s : Nat) : Prop := GBox w s 23 11 4 ∧ Sl w (some ⟨s + 1, 0, none⟩) [8, 18] ∧ Rw w (some ⟨s + 1 + 1 + 1 + 1, 0, none⟩) (ex17R s) ∧ RBox w (s + 1 + 1 + 1 + 1 + 1) (.slice (some ⟨s + 1, 0, none⟩) 2 2) (.slice (some ⟨s + 1 + 1 + 1 + 1, 0, none⟩) 2 2)
theorem Ex17.below {w w' : World} {s : Nat} (h : Ex17 w s) (hb : Below w.heap.size w w') : Ex17 w' s := ⟨h.1.below hb, h.2.1.below hb, h.2.2.1.below hb, h.2.2.2.below hb⟩
end Go.Proofs.YtdlhodbiaoafiaaGreatDoor
namespace Go.Proofs.YtdlhodbiaoafiaaGreatDoor
open Go.RowKit SpM
set_option linter.unusedVariables false
set_option linter.unusedSimpArgs false
set_option maxRecDepth 100000
theorem Sl.set {w : World} {A : Option Addr} {xs : List Int} {a : Nat} {j : Nat} {v : Value} (h : Sl w A xs) (hne : ∀ b o, A = some ⟨b, o, none⟩ → 0 < xs.length → b ≠ a) : Sl (w.setCell ⟨a, j, none⟩ v) A xs := fun k hk => by
  obtain ⟨b, o, e, hc⟩ := h k hk
  refine ⟨b, o, e, ?_⟩
  have := hne b o e (by omega)
  rw [World.cell?_setCell_far _ _ _ _ (fun e => this e.symm)]
  exact hc
end Go.Proofs.YtdlhodbiaoafiaaGreatDoor
