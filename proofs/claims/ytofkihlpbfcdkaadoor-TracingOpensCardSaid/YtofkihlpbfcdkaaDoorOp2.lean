/- Contracts and lemmas: EncB, EncC, EncD, EncE, EncG, RdgB, RdgC, RdgD, RdgE, TrC, TrF, TrG, DrC, Two, TruD, LcA, LinK, LinO, LinP, LinQ, LinS, EqA, EqE, Base, EscA, TruF, OpT, OpD. -/
import Derived.Deep.AppendLies
import Derived.Laws.AppendOwnNone
import Derived.Deep.MidRow
import Derived.Deep.Heap
import Derived.Test.YtofkihlpbfcdkaaDoorOp1
namespace Go.Proofs.YtofkihlpbfcdkaaDoor
open Go.RowKit SpM
set_option linter.unusedVariables false
set_option linter.unusedSimpArgs false
set_option maxRecDepth 100000
def icObj (c : Ic) : Obj := .cells #[.int .i64 c.kind, .int .i64 c.n, .slice c.B c.nb c.cb, .slice c.L c.nl c.cl] 67
theorem four_alloc (w : World) (c : Ic) : Four (w.alloc (icObj c)) w.heap.size 0 c := by
  have h := heap_alloc_new w (icObj c)
  exact ⟨cell_blk h 0, cell_blk h 1, cell_blk h 2, cell_blk h 3⟩
theorem Four.get {w : World} {b o : Nat} {c : Ic} (h : Four w b o c) : w.cell? ⟨b, o, none⟩ = some (.int .i64 c.kind) ∧ w.cell? ⟨b, o + 1, none⟩ = some (.int .i64 c.n) ∧ w.cell? ⟨b, o + 2, none⟩ = some (.slice c.B c.nb c.cb) ∧ w.cell? ⟨b, o + 3, none⟩ = some (.slice c.L c.nl c.cl) := h
def SaysI (g : FuncId) (caps : Array Value) (l : List It) (f : Nat → Ic) (W : World) : Prop :=
  ∀ k, k < l.length → ∀ (w1 : World), Below W.heap.size W w1 → Calls Tryd.prog g (#[(f k).val] ++ caps) w1 fun e w' => e = .returned (.bool false) ∧ Below w1.heap.size w1 w'
set_option maxHeartbeats 1600000 in
theorem idx_item (c0 : Value) (A : Option Addr) (l : List It) (f : Nat → Ic) (n c : Nat) (hn : Hid (l.length = n)) (hbig : n ≤ 1000) (w : World)
    (hs : Hid (∀ k, k < l.length → ∃ b o, A = some ⟨b, o, none⟩ ∧ Four w b (o + k * 4) (f k))) (hp : Hid (SaysI 87 #[c0] l f w)) :
    Calls Tryd.prog 90 #[.slice A n c, .func (.func 87) #[] #[c0]] w fun e w' => e = .returned (.int .i64 (-1)) ∧ Below w.heap.size w w' := by
  go_enter Tryd.func90, Tryd.ntmps90
  go_wp2
  go_loopw [8] (fun i wr => ∃ k : Nat, k ≤ n ∧ i = .int .i64 k ∧ Hid (Below w.heap.size w wr)) (fun i _ => n - (intOf i).toNat)
  case atStart => exact ⟨0, by omega, rfl, Lib.hid (Below.refl _ _)⟩
  case round =>
    obtain ⟨k, hk, rfl, HBr⟩ := hrel
    by_cases hlt : k < n
    · have hkl : k < l.length := by rw [hn.out]; exact hlt
      obtain ⟨b, o, hA, h4⟩ := hs.out k hkl
      subst hA
      have HC0 := hp.out k hkl wr HBr.out
      obtain ⟨ic, hic⟩ : ∃ x, f k = x := ⟨_, rfl⟩
      rw [hic] at h4 HC0
      obtain ⟨kd, nn, B, nb, cb, L, nl, cl⟩ := ic
      obtain ⟨i0, i1, i2, i3⟩ := (h4.below HBr.out).get
      have HC : Hid (Calls Tryd.prog 87 #[.agg #[.int .i64 kd, .int .i64 nn, .slice B nb cb, .slice L nl cl], c0] wr fun e w' => e = .returned (.bool false) ∧ Below wr.heap.size wr w') := Lib.hid HC0
      clear h4 hkl hic HC0
      go_wp2_with fail
      refine HC.out.mono ?_
      rintro e w2 ⟨rfl, hb0⟩
      have HB2 := Lib.hid (below_ext HBr.out hb0)
      clear i0 i1 i2 i3 hb0 HC
      go_wp2
      go_roundw
      case rel => exact ⟨k + 1, by omega, by go_num, HB2⟩
      case measure => simp [intOf]; omega
    · go_wp2
      go_ret
      exact ⟨rfl, HBr.out⟩
theorem cf_item (c0 : Value) (A : Option Addr) (l : List It) (f : Nat → Ic) (n c : Nat) (hn : Hid (l.length = n)) (hbig : n ≤ 1000) (w : World)
    (hs : Hid (∀ k, k < l.length → ∃ b o, A = some ⟨b, o, none⟩ ∧ Four w b (o + k * 4) (f k))) (hp : Hid (SaysI 87 #[c0] l f w)) :
    Calls Tryd.prog 86 #[.slice A n c, .func (.func 87) #[] #[c0]] w fun e w' => e = .returned (.bool false) ∧ Below w.heap.size w w' := by
  go_enter Tryd.func86, Tryd.ntmps86
  go_wp2_with fail
  refine (idx_item c0 A l f n c hn hbig _ hs hp).mono ?_
  rintro e w' ⟨rfl, hb0⟩
  go_wp2
  go_ret
  exact ⟨rfl, hb0⟩
theorem says_item (d D : Nat) (hD0 : 1 ≤ D) (hD : D ≤ 8) (a : Nat) (l : List It) (f : Nat → Ic) (hl : Hid (∀ x ∈ l, fits d x)) (w : World) (hx : Hid (w.cell? ⟨a, 0, none⟩ = some (.int .i64 (D : Int)))) (hr : Hid (∀ k, k < l.length → ItR w (l.getD k default) (f k)))
    (ih : ∀ (i : It) (c : Ic) (w : World), fits d i → ItR w i c → Calls Tryd.prog 81 #[c.val, .int .i64 ((D - 1 : Nat) : Int)] w fun e w' => e = .returned (.bool true) ∧ Below w.heap.size w w') :
    SaysI 87 #[.pointer (some ⟨a, 0, none⟩)] l f w := fun k hk w1 hb => by
  have h1 := hl.out (l.getD k default) (by rw [List.getD_eq_getElem?_getD, List.getElem?_eq_getElem hk]; exact List.getElem_mem hk)
  have h2 := (hr.out k hk).kept hb
  obtain ⟨ic, hic⟩ : ∃ x, f k = x := ⟨_, rfl⟩
  rw [hic] at h2 ⊢
  obtain ⟨it, hit⟩ : ∃ x, l.getD k default = x := ⟨_, rfl⟩
  rw [hit] at h1 h2
  have hc0 := cell_below hx.out hb
  have HIH := Lib.hid (ih it ic ((w1.alloc (icObj ic))) h1 (h2.kept (below_box0 _ _)))
  obtain ⟨kd, nn, B, nb, cb, L, nl, cl⟩ := ic
  show Calls Tryd.prog 87 #[.agg #[.int .i64 kd, .int .i64 nn, .slice B nb cb, .slice L nl cl], .pointer (some ⟨a, 0, none⟩)] w1 fun e w' => e = .returned (.bool false) ∧ Below w1.heap.size w1 w'
  have hc : (w1.alloc (.cells #[.int .i64 kd, .int .i64 nn, .slice B nb cb, .slice L nl cl] 67)).cell? ⟨a, 0, none⟩ = some (.int .i64 (D : Int)) := cell_below hc0 (below_box0 _ _)
  have e1 : IntKind.i64.wrap ((D : Int) - 1) = (D : Int) - 1 := IntWalk.i64_in _ (by omega)
  have HE : Hid (((D - 1 : Nat) : Int) = (D : Int) - 1) := Lib.hid (by omega)
  clear h1 h2 hic hit hb hc0
  go_enter Tryd.func87, Tryd.ntmps87
  go_wp2_with fail
  rw [← HE.out]
  refine HIH.out.mono ?_
  rintro e w2 ⟨rfl, hb0⟩
  have hb1 := below_ext (below_box0 _ _) hb0
  clear hb0
  go_wp2
  go_ret
  exact ⟨rfl, hb1⟩
theorem within_int (n : Int) (c : Ic) (w : World) (D : Nat) (h1 : c.kind = 1) (h3 : c.nb = 0) (h4 : c.nl = 0) : Calls Tryd.prog 81 #[c.val, .int .i64 (D : Int)] w fun e w' => e = .returned (.bool true) ∧ Below w.heap.size w w' := by
  obtain ⟨kd, nn, B, nb, cb, L, nl, cl⟩ := c
  dsimp only at h1 h3 h4
  subst h1; subst h3; subst h4
  show Calls Tryd.prog 81 #[.agg #[.int .i64 1, .int .i64 nn, .slice B 0 cb, .slice L 0 cl], .int .i64 (D : Int)] w fun e w' => e = .returned (.bool true) ∧ Below w.heap.size w w'
  go_enter Tryd.func81, Tryd.ntmps81
  go_wp2
  go_ret
  exact ⟨rfl, below_two (Below.refl _ _)⟩
theorem within_byt (c : Ic) (w : World) (D : Nat) (h1 : c.kind = 2) (h2 : c.n = 0) (h4 : c.nl = 0) : Calls Tryd.prog 81 #[c.val, .int .i64 (D : Int)] w fun e w' => e = .returned (.bool true) ∧ Below w.heap.size w w' := by
  obtain ⟨kd, nn, B, nb, cb, L, nl, cl⟩ := c
  dsimp only at h1 h2 h4
  subst h1; subst h2; subst h4
  show Calls Tryd.prog 81 #[.agg #[.int .i64 2, .int .i64 0, .slice B nb cb, .slice L 0 cl], .int .i64 (D : Int)] w fun e w' => e = .returned (.bool true) ∧ Below w.heap.size w w'
  go_enter Tryd.func81, Tryd.ntmps81
  go_wp2
  go_ret
  exact ⟨rfl, below_two (Below.refl _ _)⟩
set_option maxHeartbeats 3200000 in
theorem within_any : ∀ (d D : Nat), d ≤ D → D ≤ 8 → ∀ (i : It) (c : Ic) (w : World), fits d i → ItR w i c → Calls Tryd.prog 81 #[c.val, .int .i64 (D : Int)] w fun e w' => e = .returned (.bool true) ∧ Below w.heap.size w w' := by
  intro d
  induction d with
  | zero =>
    intro D hdD hD i c w hf hr
    cases hr with
    | int n c h1 h2 h3 h4 => exact within_int n c w D h1 h3 h4
    | byt b c h1 h2 h3 h4 h5 => exact within_byt c w D h1 h2 h4
    | lst l c h1 h2 h3 h4 f h5 h6 => exact absurd hf (by simp [fits])
  | succ d ih =>
    intro D hdD hD i c w hf hr
    cases hr with
    | int n c h1 h2 h3 h4 => exact within_int n c w D h1 h3 h4
    | byt b c h1 h2 h3 h4 h5 => exact within_byt c w D h1 h2 h4
    | lst l c h1 h2 h3 h4 f h5 h6 =>
      obtain ⟨kd, nn, B, nb, cb, L, nl, cl⟩ := c
      dsimp only at h1 h2 h3 h4 h5
      subst h1; subst h2; subst h3; subst h4
      show Calls Tryd.prog 81 #[.agg #[.int .i64 3, .int .i64 0, .slice B 0 cb, .slice L l.length cl], .int .i64 (D : Int)] w fun e w' => e = .returned (.bool true) ∧ Below w.heap.size w w'
      obtain ⟨W, hW⟩ : ∃ W, (w.alloc (icObj ⟨3, 0, B, 0, cb, L, l.length, cl⟩)).alloc (.cells #[.int .i64 (D : Int)] 3) = W := ⟨_, rfl⟩
      have HBX : Hid (Below w.heap.size w W) := Lib.hid (by rw [← hW]; exact below_two (Below.refl _ _))
      have hF : Four W w.heap.size 0 ⟨3, 0, B, 0, cb, L, l.length, cl⟩ := by rw [← hW]; exact (four_alloc w _).below (below_box0 _ _)
      obtain ⟨i0, i1, i2, i3⟩ := hF.get
      have hd : W.cell? ⟨w.heap.size + 1, 0, none⟩ = some (.int .i64 (D : Int)) := by rw [← hW]; exact cell_blk (heap_alloc2_new _ _ _) 0
      have hll := hf.1
      have HCF := Lib.hid (cf_item (.pointer (some ⟨w.heap.size + 1, 0, none⟩)) L l f l.length cl (Lib.hid rfl) hll W (Lib.hid fun k hk => by obtain ⟨b, o, e, h⟩ := h5 k hk; exact ⟨b, o, e, h.below HBX.out⟩)
        (Lib.hid (says_item d D (by omega) hD (w.heap.size + 1) l f (Lib.hid hf.2) W (Lib.hid hd) (Lib.hid fun k hk => (h6 k hk).kept HBX.out) (ih (D - 1) (by omega) (by omega)))))
      obtain ⟨nl, hnl⟩ : ∃ x, l.length = x := ⟨_, rfl⟩
      rw [hnl] at i3 hll HCF ⊢
      rw [hnl] at hW
      have HW : Hid ((w.alloc (.cells #[.int .i64 3, .int .i64 0, .slice B 0 cb, .slice L nl cl] 67)).alloc (.cells #[.int .i64 (D : Int)] 3) = W) := Lib.hid hW
      have d1 : decide ((nl : Int) ≤ 1000) = true := by simp; omega
      have d2 : decide ((0 : Int) < (D : Int)) = true := by simp; omega
      have d3 : (0 : Int) < (D : Int) := by omega
      clear hW hF hnl h5 h6 hf ih
      go_enter Tryd.func81, Tryd.ntmps81
      go_wp2_with fail
      rw [HW.out]
      refine HCF.out.mono ?_
      rintro e w2 ⟨rfl, hb0⟩
      have hb1 := below_ext HBX.out hb0
      clear hb0
      go_wp2
      go_ret
      exact ⟨by simp, hb1⟩
theorem evalid_any (i : It) (c : Ic) (w : World) (hf : fits 8 i) (hr : ItR w i c) : Calls Tryd.prog 75 #[c.val] w fun e w' => e = .returned (.bool true) ∧ Below w.heap.size w w' := by
  have HIH := Lib.hid (within_any 8 8 (Nat.le_refl _) (Nat.le_refl _) i c (w.alloc (icObj c)) hf (hr.kept (below_box0 _ _)))
  obtain ⟨kd, nn, B, nb, cb, L, nl, cl⟩ := c
  show Calls Tryd.prog 75 #[.agg #[.int .i64 kd, .int .i64 nn, .slice B nb cb, .slice L nl cl]] w fun e w' => e = .returned (.bool true) ∧ Below w.heap.size w w'
  clear hf hr
  go_enter Tryd.func75, Tryd.ntmps75
  go_wp2_with fail
  refine HIH.out.mono ?_
  rintro e w2 ⟨rfl, hb0⟩
  have hb1 := below_ext (below_box0 _ _) hb0
  clear hb0
  go_wp2
  go_ret
  exact ⟨rfl, hb1⟩
set_option maxHeartbeats 3200000 in
theorem write_int (n : Int) (hn1 : -9223372036854775808 ≤ n) (hn2 : n < 9223372036854775808) (B : Option Addr) (cb : Nat) (L : Option Addr) (cl : Nat) (w : World) (base : Nat) (v : Value) (xs : List Int) (ho : Hid (OwnK .u8 5 w base v xs)) (hbase : base ≤ w.heap.size) (hlen : xs.length + 9 ≤ 16384) :
    Calls Tryd.prog 76 #[v, .agg #[.int .i64 1, .int .i64 n, .slice B 0 cb, .slice L 0 cl]] w (AppOut base v xs (enc (.int n)) w) := by
  obtain ⟨i0, hi, hz0, hz1, hz2⟩ := info_parts byteInfo
  obtain ⟨A, cp, rfl, -, -, -⟩ := ho.out.sk
  obtain ⟨N, hN⟩ : ∃ n, xs.length = n := ⟨_, rfl⟩
  rw [hN] at hlen ho ⊢
  have HN := Lib.hid hN
  have hlt : (Value.slice A N cp).ownBlock ≠ some w.heap.size := fun e => by have := (ho.out.lt _ e).2; omega
  obtain ⟨W, hW⟩ : ∃ W, w.alloc (.cells #[.int .i64 1, .int .i64 n, .slice B 0 cb, .slice L 0 cl] 67) = W := ⟨_, rfl⟩
  have hF : Four W w.heap.size 0 ⟨1, n, B, 0, cb, L, 0, cl⟩ := by rw [← hW]; exact four_alloc w ⟨1, n, B, 0, cb, L, 0, cl⟩
  have HA0 : Hid (App base w (.slice A N cp) xs [] W (.slice A N cp)) := Lib.hid (by rw [← hW]; exact App.alloc ho.out _)
  have hbW : base ≤ W.heap.size := by rw [← hW]; simp; omega
  have HSW : Hid (W.heap.size = w.heap.size + 1) := Lib.hid (by rw [← hW]; simp)
  obtain ⟨c0, c1, c2, c3⟩ := hF.get
  have HC := Lib.hid hF
  have hown := HA0.out.1.row (n := N) (by rw [List.append_nil, HN.out])
  rw [List.append_nil] at hown
  have HW := Lib.hid hW
  clear hN hF hW
  go_enter Tryd.func76, Tryd.ntmps76
  go_upto_region 3 with (fail)
  rw [HW.out]
  go_upto_region 4 with (at_builtin; refine wpList_append_lies rfl _ _ 63 rfl base 5 i0 (.int .u8 0) 1 1 Tryd.underlying63 hi hz0 hz1 hz2 rfl (by decide) _ _ _ rfl (hown.alloc _) ⟨W.heap.size, 0, none⟩ 1 1 [.int .u8 1] rfl rfl (cell_one_new _ _ _) (ints_oneCell .u8 [1]) (by decide) (by unfold maxLen; omega) (by omega) (by simp; omega) _ rfl ?_; intro g cap w2 hown2 hgrow2 hat2 hlt2)
  have HA1 := App.of_lies (v := .slice A N cp) (xs := xs) (ys := [1]) HN.out rfl rfl hown2 hgrow2 hat2
  have HA2 : Hid (App base w (.slice A N cp) xs [1] w2 (.slice (some ⟨g, 0, none⟩) (N + 1) cap)) := Lib.hid (HA0.out.pre (((App.alloc (by have h := HA0.out.1; rwa [List.append_nil] at h) _)).pre HA1))
  have hb2 : base ≤ w2.heap.size := Nat.le_trans hbase HA2.out.2.1.size
  have e0 := HA1.cell (cell_below c0 (below_box0 _ _)) hlt
  have e1 := HA1.cell (cell_below c1 (below_box0 _ _)) hlt
  have e2 := HA1.cell (cell_below c2 (below_box0 _ _)) hlt
  have e3 := HA1.cell (cell_below c3 (below_box0 _ _)) hlt
  rw [Nat.zero_add] at e1 e2 e3
  have hne2 : (Value.slice (some ⟨g, 0, none⟩) (N + 1) cap).ownBlock ≠ some w.heap.size := fun e => by
    rcases HA1.2.2 with e5 | e5
    · exact hlt (e5 ▸ e)
    · have h5 := e5 _ e; simp at h5; have := HSW.out; omega
  clear c0 c1 c2 c3 hown hown2 hgrow2 hat2 HA1 HC HW
  go_wp2_with fail
  refine (enumber_any base _ (xs ++ [1]) (N + 1) _ 8 (Or.inr rfl) (Lib.hid (by rw [List.length_append, HN.out]; rfl)) (by omega) _ (Lib.hid HA2.out.1) hb2).mono ?_
  rintro e w3 ⟨v3, rfl, ha3⟩
  have HF : Hid (App base w (.slice A N cp) xs (enc (.int n)) w3 v3) := Lib.hid (HA2.out.trans ha3)
  clear ha3 HA2
  go_wp2
  go_ret
  exact ⟨_, rfl, HF.out⟩
set_option maxHeartbeats 3200000 in
theorem write_byt (l : List Int) (n : Nat) (hn : Hid (l.length = n)) (hn0 : 0 < n) (b o : Nat) (cb : Nat) (L : Option Addr) (cl : Nat) (w0 w : World) (base : Nat) (v : Value) (xs : List Int) (hs : Hid (Sk .u8 w0 (some ⟨b, o, none⟩) l)) (hw0 : Hid (Below w0.heap.size w0 w)) (hw0b : w0.heap.size ≤ base) (ho : Hid (OwnK .u8 5 w base v xs)) (hbase : base ≤ w.heap.size) (hlen : xs.length + (n + 5) ≤ 16384) :
    Calls Tryd.prog 76 #[v, .agg #[.int .i64 2, .int .i64 0, .slice (some ⟨b, o, none⟩) n cb, .slice L 0 cl]] w (AppOut base v xs (enc (.byt l)) w) := by
  obtain ⟨i0, hi, hz0, hz1, hz2⟩ := info_parts byteInfo
  obtain ⟨A, cp, rfl, -, -, -⟩ := ho.out.sk
  obtain ⟨N, hN⟩ : ∃ n, xs.length = n := ⟨_, rfl⟩
  rw [hN] at hlen ho ⊢
  have HN := Lib.hid hN
  have hlt : (Value.slice A N cp).ownBlock ≠ some w.heap.size := fun e => by have := (ho.out.lt _ e).2; omega
  obtain ⟨W, hW⟩ : ∃ W, w.alloc (.cells #[.int .i64 2, .int .i64 0, .slice (some ⟨b, o, none⟩) n cb, .slice L 0 cl] 67) = W := ⟨_, rfl⟩
  have hF : Four W w.heap.size 0 ⟨2, 0, some ⟨b, o, none⟩, n, cb, L, 0, cl⟩ := by rw [← hW]; exact four_alloc w ⟨2, 0, some ⟨b, o, none⟩, n, cb, L, 0, cl⟩
  have HA0 : Hid (App base w (.slice A N cp) xs [] W (.slice A N cp)) := Lib.hid (by rw [← hW]; exact App.alloc ho.out _)
  have hbW : base ≤ W.heap.size := by rw [← hW]; simp; omega
  have HSW : Hid (W.heap.size = w.heap.size + 1) := Lib.hid (by rw [← hW]; simp)
  obtain ⟨c0, c1, c2, c3⟩ := hF.get
  have HC := Lib.hid hF
  have hown := HA0.out.1.row (n := N) (by rw [List.append_nil, HN.out])
  rw [List.append_nil] at hown
  have HW := Lib.hid hW
  clear hN hF hW
  go_enter Tryd.func76, Tryd.ntmps76
  go_upto_region 3 with (fail)
  rw [HW.out]
  go_upto_region 4 with (at_builtin; refine wpList_append_lies rfl _ _ 63 rfl base 5 i0 (.int .u8 0) 1 1 Tryd.underlying63 hi hz0 hz1 hz2 rfl (by decide) _ _ _ rfl (hown.alloc _) ⟨W.heap.size, 0, none⟩ 1 1 [.int .u8 2] rfl rfl (cell_one_new _ _ _) (ints_oneCell .u8 [2]) (by decide) (by unfold maxLen; omega) (by omega) (by simp; omega) _ rfl ?_; intro g cap w2 hown2 hgrow2 hat2 hlt2)
  have HA1 := App.of_lies (v := .slice A N cp) (xs := xs) (ys := [2]) HN.out rfl rfl hown2 hgrow2 hat2
  have HA2 : Hid (App base w (.slice A N cp) xs [2] w2 (.slice (some ⟨g, 0, none⟩) (N + 1) cap)) := Lib.hid (HA0.out.pre (((App.alloc (by have h := HA0.out.1; rwa [List.append_nil] at h) _)).pre HA1))
  have hb2 : base ≤ w2.heap.size := Nat.le_trans hbase HA2.out.2.1.size
  have e0 := HA1.cell (cell_below c0 (below_box0 _ _)) hlt
  have e1 := HA1.cell (cell_below c1 (below_box0 _ _)) hlt
  have e2 := HA1.cell (cell_below c2 (below_box0 _ _)) hlt
  have e3 := HA1.cell (cell_below c3 (below_box0 _ _)) hlt
  rw [Nat.zero_add] at e1 e2 e3
  have hne2 : (Value.slice (some ⟨g, 0, none⟩) (N + 1) cap).ownBlock ≠ some w.heap.size := fun e => by
    rcases HA1.2.2 with e5 | e5
    · exact hlt (e5 ▸ e)
    · have h5 := e5 _ e; simp at h5; have := HSW.out; omega
  clear c0 c1 c2 c3 hown hown2 hgrow2 hat2 HA1 HC HW
  have u1 : IntKind.u64.wrap (n : Int) = (n : Int) := by simp [IntKind.wrap, IntKind.bits, IntKind.signed]; omega
  go_wp2_with fail
  have HE2 := Lib.hid e2
  clear e0 e1 e2 e3
  refine wp_region_T (S := fun w' => w'.cell? ⟨w.heap.size, 2, none⟩ = some (.slice (some ⟨b, o, none⟩) n cb)) (E := [8, 9]) (by kernel_rfl) (cell_below HE2.out (Below.refl _ _).drew) (fun hHeld => ?_)
  refine tkV 0 ?_
  try simp only [qq1, qq2, qq3, Act.put, qq4, qq5, qq6]
  refine tkV 1 ?_
  try simp only [qq1, qq2, qq3, Act.put, qq4, qq5, qq6]
  refine tkV 2 ?_
  try simp only [qq1, qq2, qq3, Act.put, qq4, qq5, qq6]
  refine tkV 3 ?_
  try simp only [qq1, qq2, qq3, Act.put, qq4, qq5, qq6]
  refine tkV 4 ?_
  try simp only [qq1, qq2, qq3, Act.put, qq4, qq5, qq6]
  refine tkV 6 ?_
  try simp only [qq1, qq2, qq3, Act.put, qq4, qq5, qq6]
  refine tkV 7 ?_
  try simp only [qq1, qq2, qq3, Act.put, qq4, qq5, qq6]
  refine wpT_one (i := 5) (by kernel_rfl) rfl (fun K hK => ?_)
  go_simp
  refine (enumber_any base _ (xs ++ [2]) (N + 1) n 4 (Or.inl rfl) (Lib.hid (by rw [List.length_append, HN.out]; rfl)) (by omega) _ (Lib.hid (HA2.out.1.keep (Below.refl _ _).drew)) hb2).mono ?_
  rintro e w3 ⟨v3, rfl, ha3⟩
  have HA3 : Hid (App base w (.slice A N cp) xs (2 :: bes 4 n) w3 v3) := Lib.hid (HA2.out.trans ((App.calm HA2.out.1 (Below.refl _ _).drew).pre ha3))
  have hsb := hs.out.below (HA3.out.below ho.out hw0.out hw0b hw0.out.size)
  have hb3 : base ≤ w3.heap.size := Nat.le_trans hbase HA3.out.2.1.size
  have hl3 : (xs ++ 2 :: bes 4 (n : Int)).length = N + 1 + 4 := by rw [List.length_append, HN.out, List.length_cons, bes_len (Or.inl rfl)]
  have hrow3 := HA3.out.1.row hl3
  refine hK.out _ _ ?_ (fun hHeld => ?_)
  · exact ha3.cell (cell_below HE2.out (Below.refl _ _).drew) hne2
  clear hK K
  try simp only [qq1, qq2, qq3, Act.put, qq4, qq5, qq6]
  refine wpT_pass (i := 8) (by kernel_rfl) (by simp) rfl (fun K hK => ?_)
  refine step_append_lies _ (by rfl) _ _ _ (by rfl) base 5 i0 _ 1 1 Tryd.underlying63 hi hz0 hz1 hz2 rfl (by omega) v3 (N + 1 + 4) ((xs ++ 2 :: bes 4 (n : Int)).map (.int .u8)) (by rfl) hrow3 ⟨b, o, none⟩ n cb (l.map (.int .u8)) (by rfl) (by simp [hn.out]) hsb.news (ints_oneCell .u8 _) hn0 (by unfold maxLen; omega) (by omega) hb3 w3.heap.size rfl ?_
  intro g4 cap4 w4 hown4 hgrow4 hat4 hlt4
  have HA4 := App.of_lies (v := v3) (xs := xs ++ 2 :: bes 4 (n : Int)) (ys := l) hl3 hn.out rfl hown4 hgrow4 hat4
  refine hK.out _ _ ?_
  clear hK K
  try simp only [qq1, qq2, qq3, Act.put, qq4, qq5, qq6]
  refine wpT_pass (i := 9) (by kernel_rfl) (by simp) rfl (fun K hK => ?_)
  go_simp
  refine hK.out _ _ ?_
  clear hK K
  try simp only [qq1, qq2, qq3, Act.put, qq4, qq5, qq6]
  refine wpT_done (by kernel_rfl) ?_ _
  have HF : Hid (App base w (.slice A N cp) xs (enc (.byt l)) w4 (.slice (some ⟨g4, 0, none⟩) (N + 1 + 4 + n) cap4)) := Lib.hid (by
    rw [enc_byt, hn.out]
    exact HA3.out.trans HA4)
  clear HA4 HA3 HA2 HE2
  go_wp2
  go_ret
  exact ⟨_, rfl, HF.out⟩
set_option maxHeartbeats 3200000 in
theorem write_lst (l : List It) (n : Nat) (hn : Hid (l.length = n)) (hn1 : n ≤ 1000) (f : Nat → Ic) (B : Option Addr) (cb : Nat) (L : Option Addr) (cl : Nat) (w0 w : World) (base : Nat) (v : Value) (xs : List Int)
    (h5 : Hid (∀ k, k < l.length → ∃ b o, L = some ⟨b, o, none⟩ ∧ Four w0 b (o + k * 4) (f k))) (h6 : Hid (∀ k, k < l.length → ItR w0 (l.getD k default) (f k))) (hw0 : Hid (Below w0.heap.size w0 w)) (hw0b : w0.heap.size ≤ base) (ho : Hid (OwnK .u8 5 w base v xs)) (hbase : base ≤ w.heap.size)
    (hsm : Hid (xs.length + (enc (.lst l)).length ≤ 16384))
    (ih : ∀ (k : Nat), k < l.length → ∀ (w : World) (v : Value) (ys : List Int), Below w0.heap.size w0 w → OwnK .u8 5 w base v ys → base ≤ w.heap.size → ys.length + (enc (l.getD k default)).length ≤ 16384 → Calls Tryd.prog 76 #[v, (f k).val] w (AppOut base v ys (enc (l.getD k default)) w)) :
    Calls Tryd.prog 76 #[v, .agg #[.int .i64 3, .int .i64 0, .slice B 0 cb, .slice L n cl]] w (AppOut base v xs (enc (.lst l)) w) := by
  have hlen : xs.length + 5 ≤ 16384 := by have h := hsm.out; rw [enc_lst, List.length_cons, List.length_append, be4_len] at h; omega
  have HIH := Lib.hid ih
  clear ih
  obtain ⟨i0, hi, hz0, hz1, hz2⟩ := info_parts byteInfo
  obtain ⟨A, cp, rfl, -, -, -⟩ := ho.out.sk
  obtain ⟨N, hN⟩ : ∃ n, xs.length = n := ⟨_, rfl⟩
  rw [hN] at hlen ho ⊢
  have HN := Lib.hid hN
  have hlt : (Value.slice A N cp).ownBlock ≠ some w.heap.size := fun e => by have := (ho.out.lt _ e).2; omega
  obtain ⟨W, hW⟩ : ∃ W, w.alloc (.cells #[.int .i64 3, .int .i64 0, .slice B 0 cb, .slice L n cl] 67) = W := ⟨_, rfl⟩
  have hF : Four W w.heap.size 0 ⟨3, 0, B, 0, cb, L, n, cl⟩ := by rw [← hW]; exact four_alloc w ⟨3, 0, B, 0, cb, L, n, cl⟩
  have HA0 : Hid (App base w (.slice A N cp) xs [] W (.slice A N cp)) := Lib.hid (by rw [← hW]; exact App.alloc ho.out _)
  have hbW : base ≤ W.heap.size := by rw [← hW]; simp; omega
  have HSW : Hid (W.heap.size = w.heap.size + 1) := Lib.hid (by rw [← hW]; simp)
  obtain ⟨c0, c1, c2, c3⟩ := hF.get
  have HC := Lib.hid hF
  have hown := HA0.out.1.row (n := N) (by rw [List.append_nil, HN.out])
  rw [List.append_nil] at hown
  have HW := Lib.hid hW
  clear hN hF hW
  go_enter Tryd.func76, Tryd.ntmps76
  go_upto_region 3 with (fail)
  rw [HW.out]
  go_upto_region 4 with (at_builtin; refine wpList_append_lies rfl _ _ 63 rfl base 5 i0 (.int .u8 0) 1 1 Tryd.underlying63 hi hz0 hz1 hz2 rfl (by decide) _ _ _ rfl (hown.alloc _) ⟨W.heap.size, 0, none⟩ 1 1 [.int .u8 3] rfl rfl (cell_one_new _ _ _) (ints_oneCell .u8 [3]) (by decide) (by unfold maxLen; omega) (by omega) (by simp; omega) _ rfl ?_; intro g cap w2 hown2 hgrow2 hat2 hlt2)
  have HA1 := App.of_lies (v := .slice A N cp) (xs := xs) (ys := [3]) HN.out rfl rfl hown2 hgrow2 hat2
  have HA2 : Hid (App base w (.slice A N cp) xs [3] w2 (.slice (some ⟨g, 0, none⟩) (N + 1) cap)) := Lib.hid (HA0.out.pre (((App.alloc (by have h := HA0.out.1; rwa [List.append_nil] at h) _)).pre HA1))
  have hb2 : base ≤ w2.heap.size := Nat.le_trans hbase HA2.out.2.1.size
  have e0 := HA1.cell (cell_below c0 (below_box0 _ _)) hlt
  have e1 := HA1.cell (cell_below c1 (below_box0 _ _)) hlt
  have e2 := HA1.cell (cell_below c2 (below_box0 _ _)) hlt
  have e3 := HA1.cell (cell_below c3 (below_box0 _ _)) hlt
  rw [Nat.zero_add] at e1 e2 e3
  have hne2 : (Value.slice (some ⟨g, 0, none⟩) (N + 1) cap).ownBlock ≠ some w.heap.size := fun e => by
    rcases HA1.2.2 with e5 | e5
    · exact hlt (e5 ▸ e)
    · have h5 := e5 _ e; simp at h5; have := HSW.out; omega
  clear c0 c1 c2 c3 hown hown2 hgrow2 hat2 HA1 HC HW
  have u1 : IntKind.u64.wrap (n : Int) = (n : Int) := by simp [IntKind.wrap, IntKind.bits, IntKind.signed]; omega
  go_wp2_with fail
  refine (enumber_any base _ (xs ++ [3]) (N + 1) n 4 (Or.inl rfl) (Lib.hid (by rw [List.length_append, HN.out]; rfl)) (by omega) _ (Lib.hid HA2.out.1) hb2).mono ?_
  rintro e w3 ⟨v3, rfl, ha3⟩
  have f3 := ha3.cell e3 hne2
  have HA3 : Hid (App base w (.slice A N cp) xs (3 :: bes 4 n) w3 v3) := Lib.hid (HA2.out.trans ha3)
  clear ha3 HA2 e0 e1 e2 e3
  have HA4 : Hid (App base w (.slice A N cp) xs ((3 :: bes 4 n) ++ encL (l.take 0)) w3 v3) := Lib.hid (by rw [List.take_zero]; simpa [encL] using HA3.out)
  clear HA3
  go_wp2_with fail
  clear f3
  go_loopw [0, 46] (fun p i u => ∃ k : Nat, k ≤ n ∧ i = .int .i64 k ∧ Hid (App base w (.slice A N cp) xs ((3 :: bes 4 n) ++ encL (l.take k)) u p)) (fun _ i _ => n - (intOf i).toNat)
  case atStart => exact ⟨0, by omega, rfl, HA4⟩
  case round =>
    obtain ⟨k, hk, rfl, HA⟩ := hrel
    by_cases hlk : k < n
    · have hkl : k < l.length := by rw [hn.out]; exact hlk
      obtain ⟨b, o, hL, h4⟩ := h5.out k hkl
      subst hL
      have hbw := HA.out.below ho.out hw0.out hw0b hw0.out.size
      have hle : (xs ++ ((3 :: bes 4 (n : Int)) ++ encL (l.take k))).length + (enc (l.getD k default)).length ≤ 16384 := by
        have h := hsm.out
        have t1 := encL_take hkl
        have t2 := encL_take_le (l := l) (k := k + 1)
        rw [t1, List.length_append] at t2
        rw [enc_lst, List.length_cons, List.length_append, be4_len] at h
        rw [List.length_append, List.length_append, List.length_cons, bes_len (Or.inl rfl)]
        omega
      have hbs : base ≤ wr.heap.size := Nat.le_trans hbase HA.out.2.1.size
      have hstep := encL_take hkl
      obtain ⟨ic, hic⟩ : ∃ x, f k = x := ⟨_, rfl⟩
      obtain ⟨kd, nn, B', nb, cb', L', nl, cl'⟩ := ic
      obtain ⟨WX, hWX⟩ : ∃ u, wr.alloc (.cells #[.int .i64 kd, .int .i64 nn, .slice B' nb cb', .slice L' nl cl'] 67) = u := ⟨_, rfl⟩
      have HAX : Hid (App base w (.slice A N cp) xs ((3 :: bes 4 n) ++ encL (l.take k)) WX u0) := Lib.hid (by
        have h := HA.out.trans (App.alloc HA.out.1 (.cells #[.int .i64 kd, .int .i64 nn, .slice B' nb cb', .slice L' nl cl'] 67))
        rw [List.append_nil] at h
        rwa [← hWX])
      have hbwX : Below w0.heap.size w0 WX := HAX.out.below ho.out hw0.out hw0b hw0.out.size
      have hbsX : base ≤ WX.heap.size := by rw [← hWX]; simp; omega
      have HC0 := HIH.out k hkl WX u0 _ hbwX HAX.out.1 hbsX hle
      rw [hic] at h4 HC0
      have HC : Hid (Calls Tryd.prog 76 #[u0, .agg #[.int .i64 kd, .int .i64 nn, .slice B' nb cb', .slice L' nl cl']] WX (AppOut base u0 (xs ++ ((3 :: bes 4 (n : Int)) ++ encL (l.take k))) (enc (l.getD k default)) WX)) := Lib.hid HC0
      obtain ⟨i0', i1', i2', i3'⟩ := (h4.below hbw).get
      obtain ⟨et, het⟩ : ∃ x, enc (l.getD k default) = x := ⟨_, rfl⟩
      rw [het] at HC hstep
      have HST := Lib.hid hstep
      have HWX := Lib.hid hWX
      clear hkl h4 hbw hle hstep hic hWX hbwX HC0 het HA
      go_wp2_with fail
      rw [HWX.out]
      refine HC.out.mono ?_
      rintro e w5 ⟨v5, rfl, ha5⟩
      have HA6 : Hid (App base w (.slice A N cp) xs ((3 :: bes 4 n) ++ encL (l.take (k + 1))) w5 v5) := Lib.hid (by
        rw [HST.out, ← List.append_assoc]
        exact HAX.out.trans ha5)
      clear ha5 HC HAX i0' i1' i2' i3' HWX
      go_wp2
      go_roundw
      case rel => exact ⟨k + 1, by omega, by go_num, HA6⟩
      case measure => simp [intOf]; omega
    · have HF : Hid (App base w (.slice A N cp) xs (enc (.lst l)) wr u0) := Lib.hid (by
        have h := HA.out
        rw [show k = l.length by rw [hn.out]; omega, List.take_length] at h
        rw [enc_lst, hn.out]
        exact h)
      clear HA
      go_wp2
      go_ret
      exact ⟨_, rfl, HF.out⟩
theorem write_any : ∀ (d : Nat) (i : It) (c : Ic) (w0 w : World) (base : Nat) (v : Value) (xs : List Int), fits d i → ItR w0 i c → Below w0.heap.size w0 w → w0.heap.size ≤ base → OwnK .u8 5 w base v xs → base ≤ w.heap.size → xs.length + (enc i).length ≤ 16384 →
    Calls Tryd.prog 76 #[v, c.val] w (AppOut base v xs (enc i) w) := by
  intro d
  induction d with
  | zero =>
    intro i c w0 w base v xs hf hr hw hwb ho hb hl
    obtain ⟨kd, nn, B, nb, cb, L, nl, cl⟩ := c
    cases hr with
    | int n _ h1 h2 h3 h4 =>
      dsimp only at h1 h2 h3 h4
      subst h1; subst h2; subst h3; subst h4
      exact write_int nn hf.1 hf.2 B cb L cl w base v xs (Lib.hid ho) hb hl
    | byt b _ h1 h2 h3 h4 h5 =>
      dsimp only at h1 h2 h3 h4 h5
      subst h1; subst h2; subst h4; subst h3
      obtain ⟨b', o', rfl, _⟩ := h5.at0 hf.1.1
      rw [enc_byt, List.length_cons, List.length_append, be4_len] at hl
      exact write_byt b b.length (Lib.hid rfl) hf.1.1 b' o' cb L cl w0 w base v xs (Lib.hid h5) (Lib.hid hw) hwb (Lib.hid ho) hb (by omega)
    | lst l _ h1 h2 h3 h4 f h5 h6 => exact absurd hf (by simp [fits])
  | succ d ih =>
    intro i c w0 w base v xs hf hr hw hwb ho hb hl
    obtain ⟨kd, nn, B, nb, cb, L, nl, cl⟩ := c
    cases hr with
    | int n _ h1 h2 h3 h4 =>
      dsimp only at h1 h2 h3 h4
      subst h1; subst h2; subst h3; subst h4
      exact write_int nn hf.1 hf.2 B cb L cl w base v xs (Lib.hid ho) hb hl
    | byt b _ h1 h2 h3 h4 h5 =>
      dsimp only at h1 h2 h3 h4 h5
      subst h1; subst h2; subst h4; subst h3
      obtain ⟨b', o', rfl, _⟩ := h5.at0 hf.1.1
      rw [enc_byt, List.length_cons, List.length_append, be4_len] at hl
      exact write_byt b b.length (Lib.hid rfl) hf.1.1 b' o' cb L cl w0 w base v xs (Lib.hid h5) (Lib.hid hw) hwb (Lib.hid ho) hb (by omega)
    | lst l _ h1 h2 h3 h4 f h5 h6 =>
      dsimp only at h1 h2 h3 h4 h5
      subst h1; subst h2; subst h3; subst h4
      refine write_lst l l.length (Lib.hid rfl) hf.1 f B cb L cl w0 w base v xs (Lib.hid h5) (Lib.hid h6) (Lib.hid hw) hwb (Lib.hid ho) hb (Lib.hid hl) ?_
      intro k hk w' v' ys hw' ho' hb' hl'
      exact ih _ (f k) w0 w' base v' ys (hf.2 _ (by rw [List.getD_eq_getElem?_getD, List.getElem?_eq_getElem hk]; exact List.getElem_mem hk)) (h6 k hk) hw' hwb ho' hb' hl'
def EncOk (ys : List Int) (w : World) (e : Ending) (w' : World) : Prop := ∃ v, e = .returned (.tuple #[v, .int .i64 0]) ∧ OwnK .u8 5 w' w.heap.size v ys ∧ Below w.heap.size w w'
set_option maxHeartbeats 1600000 in
theorem encode_any (i : It) (c : Ic) (w : World) (hf : fits 8 i) (hr : ItR w i c) (hl : (enc i).length ≤ 16384) :
    Calls Tryd.prog 65 #[c.val] w (EncOk (enc i) w) := by
  have HV := Lib.hid (evalid_any i c (w.alloc (icObj c)) hf (hr.kept (below_box0 _ _)))
  have hF := four_alloc w c
  have HE : Hid (∀ u, Below (w.alloc (icObj c)).heap.size (w.alloc (icObj c)) u → Calls Tryd.prog 76 #[.slice none 0 0, c.val] u (AppOut u.heap.size (.slice none 0 0) [] (enc i) u)) := Lib.hid (fun u hu =>
    write_any 8 i c w u u.heap.size (.slice none 0 0) [] hf hr (below_ext (below_box0 _ _) hu) (by have := hu.size; simp at this; omega) (ownK_nil _ _) (Nat.le_refl _) (by simpa using hl))
  obtain ⟨ys, hys⟩ : ∃ ys, enc i = ys := ⟨_, rfl⟩
  rw [hys] at HE hl ⊢
  obtain ⟨kd, nn, B, nb, cb, L, nl, cl⟩ := c
  obtain ⟨W, hW⟩ : ∃ W, w.alloc (icObj ⟨kd, nn, B, nb, cb, L, nl, cl⟩) = W := ⟨_, rfl⟩
  rw [hW] at HV HE hF
  have HBX : Hid (Below w.heap.size w W) := Lib.hid (by rw [← hW]; exact below_box0 _ _)
  have HF := Lib.hid hF
  have HW : Hid (w.alloc (.cells #[.int .i64 kd, .int .i64 nn, .slice B nb cb, .slice L nl cl] 67) = W) := Lib.hid hW
  show Calls Tryd.prog 65 #[.agg #[.int .i64 kd, .int .i64 nn, .slice B nb cb, .slice L nl cl]] w (EncOk ys w)
  obtain ⟨c0, c1, c2, c3⟩ := hF.get
  clear hf hr hys hW hF
  go_enter Tryd.func65, Tryd.ntmps65
  go_wp2_with fail
  rw [HW.out]
  refine HV.out.mono ?_
  rintro e w2 ⟨rfl, hb0⟩
  obtain ⟨d0, d1, d2, d3⟩ := (HF.out.below hb0).get
  have HE2 := Lib.hid (HE.out w2 hb0)
  have HB2 := Lib.hid (below_ext HBX.out hb0)
  clear c0 c1 c2 c3 hb0 HE HV HW
  go_wp2_with fail
  refine HE2.out.mono ?_
  rintro e w3 ⟨v3, rfl, ha3⟩
  have HO3 : Hid (OwnK .u8 5 w3 w2.heap.size v3 ys) := Lib.hid (by have h := ha3.1; rwa [List.nil_append] at h)
  have HB3 : Hid (Below w.heap.size w w3) := Lib.hid (ha3.below (B := w.heap.size) (ownK_nil _ _) HB2.out HB2.out.size HB2.out.size)
  have hz : w.heap.size ≤ w2.heap.size := HB2.out.size
  clear ha3 HE2 d0 d1 d2 d3
  obtain ⟨A, cp, rfl, -, -, -⟩ := HO3.out.sk
  obtain ⟨N, hN⟩ : ∃ n, ys.length = n := ⟨_, rfl⟩
  rw [hN] at hl HO3 ⊢
  clear hN
  have t1 : ¬ 16384 < N := by omega
  go_wp2
  go_ret2
  exact ⟨_, rfl, HO3.out.mono hz, HB3.out⟩
def itemCells (c : Ic) : List Value := [.int .i64 c.kind, .int .i64 c.n, .slice c.B c.nb c.cb, .slice c.L c.nl c.cl]
theorem itemInfo : (Tryd.prog.info? 67).map (fun i => (i.zero, i.size, i.bytes)) = some (some (.agg #[.int .i64 0, .int .i64 0, .slice none 0 0, .slice none 0 0]), 4, 64) := by kernel_rfl
theorem grown_set2 (w : World) (a j : Nat) (v : Value) : w.grownBy (w.setCell ⟨a, j, none⟩ v) (some a) :=
  ⟨rfl, rfl, rfl, by simp [World.setCell], fun k hk hne => by
    have : a ≠ k := fun e => hne (by rw [e])
    simp [World.setCell, Array.getElem?_modify, this]⟩
theorem own_grown2 {w w1 : World} {row : Option Nat} {p : Addr} {v : Value} (h : Own w p v) (hg : w.grownBy w1 row) (hne : row ≠ some p.block) : Own w1 p v := by
  have hlt := World.block_lt_of_cell? _ _ h.1
  exact ⟨by rw [hg.cell_far _ hlt (Ne.symm hne)]; exact h.1, by rw [hg.frozen_far _ hlt (Ne.symm hne)]; exact h.2⟩
theorem own_set_ne2 {w : World} {p q : Addr} {v u : Value} (h : Own w p v) (hne : q ≠ p) : Own (w.setCell q u) p v :=
  ⟨by rw [World.cell?_setCell_other _ _ _ _ hne]; exact h.1, by rw [World.frozen?_setCell]; exact h.2⟩
theorem own_set_eq2 {w : World} {p : Addr} {v u : Value} (h : Own w p v) : Own (w.setCell p u) p u :=
  ⟨World.cell?_setCell_same _ _ _ h.1, by rw [World.frozen?_setCell]; exact h.2⟩
theorem results_cell1 {P : Program} {fn : Func} {p : Tmp} {ty : TypeId} (h : fn.results = #[.cell p ty]) (tmps : Array Value) (w : World) (a : Addr) (v : Value)
    (hp : tmps.getD p undef = .pointer (some a)) (hl : (loadVar ty a).run P w = .ok v w) : (results fn tmps).run P w = .ok v w := by
  have hp' : tmps[p]?.getD undef = .pointer (some a) := by simpa using hp
  simp [results, h, hp', asAddr, hl]
def OwnI (w : World) (base : Nat) (v : Value) (cs : List Ic) : Prop := w.ownsRow base 67 4 v cs.length (cs.flatMap itemCells)
instance icInh : Inhabited Ic := ⟨⟨0, 0, none, 0, 0, none, 0, 0⟩⟩
theorem cells_at (cs : List Ic) (k r : Nat) (hr : r < 4) (hk : k < cs.length) : (cs.flatMap itemCells)[k * 4 + r]? = (itemCells (cs.getD k default))[r]? := by
  induction cs generalizing k with
  | nil => simp at hk
  | cons c cs ih =>
    cases k with
    | zero =>
      rw [List.flatMap_cons, Nat.zero_mul, Nat.zero_add, List.getElem?_append_left (by simpa [itemCells] using hr)]
      rfl
    | succ k =>
      rw [List.flatMap_cons, List.getElem?_append_right (by simp [itemCells]; omega)]
      rw [show (k + 1) * 4 + r - (itemCells c).length = k * 4 + r by simp [itemCells]; omega]
      rw [ih k (by simpa using hk)]
      rfl
theorem OwnI.four {w : World} {base : Nat} {v : Value} {cs : List Ic} (h : OwnI w base v cs) (h0 : 0 < cs.length) : ∃ g cap, v = .slice (some ⟨g, 0, none⟩) cs.length cap ∧ base ≤ g ∧ cs.length ≤ cap ∧ ∀ k, k < cs.length → Four w g (0 + k * 4) (cs.getD k default) := by
  obtain ⟨h1, h2⟩ := h
  rcases h2 with ⟨_, h3⟩ | ⟨g, cap, cur, rfl, hg, hh, hn, hc, hs, ht⟩
  · omega
  · refine ⟨g, cap, rfl, hg, hn, fun k hk => ?_⟩
    have key : ∀ r, r < 4 → w.cell? ⟨g, k * 4 + r, none⟩ = (itemCells (cs.getD k default))[r]? := fun r hr => by
      rw [cell_blk hh, ← Array.getElem?_toList, ← cells_at cs k r hr hk, ← ht, List.getElem?_take_of_lt (by omega)]
    rw [Nat.zero_add]
    exact ⟨key 0 (by omega), key 1 (by omega), key 2 (by omega), key 3 (by omega)⟩
theorem ownI_nil (w : World) (base : Nat) : OwnI w base (.slice none 0 0) [] := World.ownsRow_nil _ _ _ _
theorem OwnI.len {w : World} {base : Nat} {v : Value} {cs : List Ic} (h : OwnI w base v cs) : ∃ A cap, v = .slice A cs.length cap := by
  by_cases h0 : 0 < cs.length
  · obtain ⟨g, cap, e, _⟩ := h.four h0
    exact ⟨_, cap, e⟩
  · obtain ⟨_, h2⟩ := h
    rcases h2 with ⟨hv, _⟩ | ⟨g, cap, cur, hv, _⟩
    · exact ⟨none, 0, by rw [hv]; congr 1; omega⟩
    · exact ⟨_, cap, hv⟩
theorem OwnI.keep {w w' : World} {B : Nat} {v : Value} {xs : List Ic} (h : OwnI w B v xs) (hb : Below w.heap.size w w') : OwnI w' B v xs := by
  obtain ⟨h1, h2⟩ := h
  refine ⟨h1, h2.imp id ?_⟩
  rintro ⟨g, cap, cur, rfl, hg, hh, rest⟩
  exact ⟨g, cap, cur, rfl, hg, (hb.block g (Array.getElem?_eq_some_iff.1 hh).1).trans hh, rest⟩
theorem OwnI.app {w1 : World} {base k : Nat} {v' : Value} {xs : List Ic} {c : Ic} (hk : k = xs.length)
    (h : w1.ownsRow base 67 4 v' (k + 1) (xs.flatMap itemCells ++ itemCells c)) : OwnI w1 base v' (xs ++ [c]) := by
  unfold OwnI
  rw [List.length_append, List.flatMap_append, List.length_singleton, ← hk]
  simpa using h
theorem OwnI.no {w : World} {base a : Nat} {v : Value} {cs : List Ic} (h : OwnI w base v cs) (ha : a < base) : v.ownBlock ≠ some a := fun e => by
  have := (World.ownsRow.lt h _ e).1
  omega
theorem OwnI.set {w : World} {base a j : Nat} {v u : Value} {cs : List Ic} (h : OwnI w base v cs) (ha : a < base) : OwnI (w.setCell ⟨a, j, none⟩ u) base v cs :=
  World.ownsRow.kept h (grown_set2 w a j u) (Or.inr (h.no ha))
def icInt (n : Int) : Ic := ⟨1, n, none, 0, 0, none, 0, 0⟩
theorem icInt_take {l : List Int} {k : Nat} (hk : k < l.length) : (l.take (k + 1)).map icInt = (l.take k).map icInt ++ [icInt (l.getD k 0)] := by
  rw [take_one hk, List.map_append]; rfl
def ItOut (i : It) (w : World) (e : Ending) (w' : World) : Prop := ∃ c : Ic, e = .returned c.val ∧ ItR w' i c ∧ Below w.heap.size w w'
theorem itr_ints {w : World} {base : Nat} {v : Value} {l : List Int} (h : OwnI w base v (l.map icInt)) : ∃ L cl, v = .slice L l.length cl ∧ ItR w (.lst (l.map .int)) ⟨3, 0, none, 0, 0, L, l.length, cl⟩ := by
  by_cases h0 : 0 < l.length
  · obtain ⟨g, cap, e, _, _, hf⟩ := h.four (by rw [List.length_map]; exact h0)
    rw [List.length_map] at e hf
    refine ⟨_, cap, e, .lst _ _ rfl rfl rfl (by rw [List.length_map]) (fun k => icInt (l.getD k 0)) (fun k hk => ⟨g, 0, rfl, ?_⟩) (fun k hk => ?_)⟩
    · rw [List.length_map] at hk
      have := hf k hk
      have e2 : (l.map icInt).getD k default = icInt (l.getD k 0) := by
        simp [List.getD_eq_getElem?_getD, List.getElem?_eq_getElem hk]
      rwa [e2] at this
    · rw [List.length_map] at hk
      have e2 : (l.map It.int).getD k default = It.int (l.getD k 0) := by
        simp [List.getD_eq_getElem?_getD, List.getElem?_eq_getElem hk]
      rw [e2]
      exact .int _ _ rfl rfl rfl rfl
  · have e : l = [] := List.eq_nil_of_length_eq_zero (by omega)
    subst e
    obtain ⟨L, cl, hv⟩ := h.len
    exact ⟨L, cl, hv, .lst [] _ rfl rfl rfl rfl (fun _ => default) (fun k hk => absurd hk (by simp)) (fun k hk => absurd hk (by simp))⟩
theorem zd_step {l : List Int} {k : Nat} (h : k < l.length) : (zer (k + 1) ++ l.drop (k + 1)).set k (l.getD k 0) = zer k ++ l.drop k := by
  rw [List.drop_eq_getElem_cons h, zer, List.replicate_succ', List.append_assoc, List.set_append_right _ _ (by rw [List.length_replicate]; exact Nat.le_refl _), List.length_replicate, Nat.sub_self]
  rw [List.getD_eq_getElem?_getD, List.getElem?_eq_getElem h]
  rfl
def NumOut (s : Nat) (n : Int) (w : World) (e : Ending) (w' : World) : Prop := ∃ g cap, e = .returned (.slice (some ⟨g, 0, none⟩) s cap) ∧ Sk .u8 w' (some ⟨g, 0, none⟩) (bes s n) ∧ Below w.heap.size w w'
set_option maxHeartbeats 1600000 in
theorem rnum4_any (n : Int) (h0 : 0 ≤ n) (h1 : n < 18446744073709551616) (w : World) : Calls Tryd.prog 62 #[.int .u64 n, .int .i64 4] w (NumOut 4 n w) := by
  obtain ⟨W, hW⟩ : ∃ W, w.alloc (.cells #[.int .u8 0, .int .u8 0, .int .u8 0, .int .u8 0] 5) = W := ⟨_, rfl⟩
  have HBX : Hid (Below w.heap.size w W) := Lib.hid (by rw [← hW]; exact below_box0 _ _)
  have HB0 : Hid (Blk .u8 5 W w.heap.size (zer 4 ++ (bes 4 n).drop 4)) := Lib.hid (by
    rw [← hW]
    exact Blk.new w (zer 4))
  have hmk : ∀ w, (Instr.makeSlice 63 (.int .i64 4) (.int .i64 4)).run Tryd.prog w = .ok (.slice (some ⟨w.heap.size, 0, none⟩) 4 4) (w.alloc (.cells #[.int .u8 0, .int .u8 0, .int .u8 0, .int .u8 0] 5)) := fun _ => by kernel_rfl
  have HW := Lib.hid hW
  clear hW
  go_enter Tryd.func62, Tryd.ntmps62
  go_wp2
  rw [HW.out]
  clear HW hmk
  go_loopw [0, 6] (fun p i u => ∃ (j : Nat) (x : Int), j ≤ 4 ∧ i = .int .i64 (3 - (j : Int)) ∧ p = .int .u64 x ∧ 0 ≤ x ∧ x ≤ n ∧ Hid (n / 2 ^ (8 * j) = x) ∧ Hid (Blk .u8 5 u w.heap.size (zer (4 - j) ++ (bes 4 n).drop (4 - j))) ∧ Hid (Below w.heap.size w u)) (fun _ i _ => (intOf i + 1).toNat)
  case atStart => exact ⟨0, n, by omega, rfl, rfl, h0, Int.le_refl _, Lib.hid (by simp), HB0, HBX⟩
  case round =>
    obtain ⟨j, x, hj, rfl, rfl, x0, x1, HX, HB, HBr⟩ := hrel
    by_cases hlt : j < 4
    · obtain ⟨k, hk⟩ : ∃ k, 3 - j = k := ⟨_, rfl⟩
      have hkk : 4 - j = k + 1 := by omega
      have hkl : k < (bes 4 n).length := by rw [bes_len (by omega)]; omega
      rw [hkk] at HB
      have hc := HB.out.cell (j := k) (by rw [List.length_append, zer, List.length_replicate]; omega)
      have hf := HB.out.free k
      have hst := zd_step hkl
      rw [bes_get (by omega) n k (by omega), show 8 * (4 - 1 - k) = 8 * j by omega, HX.out] at hst
      have HX2 : Hid (n / 2 ^ (8 * (j + 1)) = x / 256) := Lib.hid (by
        rw [← HX.out, show 8 * (j + 1) = 8 * j + 8 by omega, Int.pow_add, ← Int.ediv_ediv_of_nonneg (Int.le_of_lt (Int.pow_pos (by decide)))]
        rfl)
      have d1 : (0 : Int) ≤ 3 - (j : Int) := by omega
      have d2 : (3 - (j : Int)).toNat = k := by omega
      have d3 : 3 - (j : Int) < 4 := by omega
      have y0 : 0 ≤ x / 256 := Int.ediv_nonneg x0 (by decide)
      have y1 : x / 256 ≤ n := by omega
      obtain ⟨WV, hWV⟩ : ∃ u, wr.setCell ⟨w.heap.size, k, none⟩ (.int .u8 (x % 256)) = u := ⟨_, rfl⟩
      have HB2 : Hid (Blk .u8 5 WV w.heap.size (zer (4 - (j + 1)) ++ (bes 4 n).drop (4 - (j + 1)))) := Lib.hid (by
        rw [← hWV, show 4 - (j + 1) = k by omega, ← hst]
        exact HB.out.set)
      have HBr2 : Hid (Below w.heap.size w WV) := Lib.hid (by rw [← hWV]; exact HBr.out.setCell (Nat.le_refl _) _)
      have HWV := Lib.hid hWV
      clear hst HB HBr hWV hkl hk
      go_wp2
      try go_region
      try rw [HWV.out]
      clear hc hf
      go_wp2
      go_roundw
      case rel => exact ⟨j + 1, _, by omega, by go_num, rfl, y0, y1, HX2, HB2, HBr2⟩
      case measure => simp [intOf]; omega
    · have HBf : Hid (Blk .u8 5 wr w.heap.size (bes 4 n)) := Lib.hid (by
        have h := HB.out
        rwa [show 4 - j = 0 by omega] at h)
      have d1 : 3 - (j : Int) < 0 := by omega
      clear HB
      go_wp2
      go_ret
      exact ⟨_, _, rfl, HBf.out.sk, HBr.out⟩
set_option maxHeartbeats 1600000 in
theorem rnum8_any (n : Int) (h0 : 0 ≤ n) (h1 : n < 18446744073709551616) (w : World) : Calls Tryd.prog 62 #[.int .u64 n, .int .i64 8] w (NumOut 8 n w) := by
  obtain ⟨W, hW⟩ : ∃ W, w.alloc (.cells #[.int .u8 0, .int .u8 0, .int .u8 0, .int .u8 0, .int .u8 0, .int .u8 0, .int .u8 0, .int .u8 0] 5) = W := ⟨_, rfl⟩
  have HBX : Hid (Below w.heap.size w W) := Lib.hid (by rw [← hW]; exact below_box0 _ _)
  have HB0 : Hid (Blk .u8 5 W w.heap.size (zer 8 ++ (bes 8 n).drop 8)) := Lib.hid (by
    rw [← hW]
    exact Blk.new w (zer 8))
  have hmk : ∀ w, (Instr.makeSlice 63 (.int .i64 8) (.int .i64 8)).run Tryd.prog w = .ok (.slice (some ⟨w.heap.size, 0, none⟩) 8 8) (w.alloc (.cells #[.int .u8 0, .int .u8 0, .int .u8 0, .int .u8 0, .int .u8 0, .int .u8 0, .int .u8 0, .int .u8 0] 5)) := fun _ => by kernel_rfl
  have HW := Lib.hid hW
  clear hW
  go_enter Tryd.func62, Tryd.ntmps62
  go_wp2
  rw [HW.out]
  clear HW hmk
  go_loopw [0, 6] (fun p i u => ∃ (j : Nat) (x : Int), j ≤ 8 ∧ i = .int .i64 (7 - (j : Int)) ∧ p = .int .u64 x ∧ 0 ≤ x ∧ x ≤ n ∧ Hid (n / 2 ^ (8 * j) = x) ∧ Hid (Blk .u8 5 u w.heap.size (zer (8 - j) ++ (bes 8 n).drop (8 - j))) ∧ Hid (Below w.heap.size w u)) (fun _ i _ => (intOf i + 1).toNat)
  case atStart => exact ⟨0, n, by omega, rfl, rfl, h0, Int.le_refl _, Lib.hid (by simp), HB0, HBX⟩
  case round =>
    obtain ⟨j, x, hj, rfl, rfl, x0, x1, HX, HB, HBr⟩ := hrel
    by_cases hlt : j < 8
    · obtain ⟨k, hk⟩ : ∃ k, 7 - j = k := ⟨_, rfl⟩
      have hkk : 8 - j = k + 1 := by omega
      have hkl : k < (bes 8 n).length := by rw [bes_len (by omega)]; omega
      rw [hkk] at HB
      have hc := HB.out.cell (j := k) (by rw [List.length_append, zer, List.length_replicate]; omega)
      have hf := HB.out.free k
      have hst := zd_step hkl
      rw [bes_get (by omega) n k (by omega), show 8 * (8 - 1 - k) = 8 * j by omega, HX.out] at hst
      have HX2 : Hid (n / 2 ^ (8 * (j + 1)) = x / 256) := Lib.hid (by
        rw [← HX.out, show 8 * (j + 1) = 8 * j + 8 by omega, Int.pow_add, ← Int.ediv_ediv_of_nonneg (Int.le_of_lt (Int.pow_pos (by decide)))]
        rfl)
      have d1 : (0 : Int) ≤ 7 - (j : Int) := by omega
      have d2 : (7 - (j : Int)).toNat = k := by omega
      have d3 : 7 - (j : Int) < 8 := by omega
      have y0 : 0 ≤ x / 256 := Int.ediv_nonneg x0 (by decide)
      have y1 : x / 256 ≤ n := by omega
      obtain ⟨WV, hWV⟩ : ∃ u, wr.setCell ⟨w.heap.size, k, none⟩ (.int .u8 (x % 256)) = u := ⟨_, rfl⟩
      have HB2 : Hid (Blk .u8 5 WV w.heap.size (zer (8 - (j + 1)) ++ (bes 8 n).drop (8 - (j + 1)))) := Lib.hid (by
        rw [← hWV, show 8 - (j + 1) = k by omega, ← hst]
        exact HB.out.set)
      have HBr2 : Hid (Below w.heap.size w WV) := Lib.hid (by rw [← hWV]; exact HBr.out.setCell (Nat.le_refl _) _)
      have HWV := Lib.hid hWV
      clear hst HB HBr hWV hkl hk
      go_wp2
      try go_region
      try rw [HWV.out]
      clear hc hf
      go_wp2
      go_roundw
      case rel => exact ⟨j + 1, _, by omega, by go_num, rfl, y0, y1, HX2, HB2, HBr2⟩
      case measure => simp [intOf]; omega
    · have HBf : Hid (Blk .u8 5 wr w.heap.size (bes 8 n)) := Lib.hid (by
        have h := HB.out
        rwa [show 8 - j = 0 by omega] at h)
      have d1 : 7 - (j : Int) < 0 := by omega
      clear HB
      go_wp2
      go_ret
      exact ⟨_, _, rfl, HBf.out.sk, HBr.out⟩
theorem ownK_one (w : World) (x : Int) : OwnK .u8 5 (w.alloc (.cells #[.int .u8 x] 5)) w.heap.size (.slice (some ⟨w.heap.size, 0, none⟩) 1 1) [x] :=
  ⟨rfl, Or.inr ⟨w.heap.size, 1, #[.int .u8 x], rfl, Nat.le_refl _, heap_alloc_new _ _, Nat.le_refl _, by decide, rfl, rfl⟩⟩
set_option maxHeartbeats 3200000 in
theorem renc_int (n : Int) (hn1 : -9223372036854775808 ≤ n) (hn2 : n < 9223372036854775808) (B : Option Addr) (cb : Nat) (L : Option Addr) (cl : Nat) (w : World) :
    Calls Tryd.prog 37 #[.agg #[.int .i64 1, .int .i64 n, .slice B 0 cb, .slice L 0 cl]] w (KOut .u8 5 (enc (.int n)) w) := by
  obtain ⟨i0, hi, hz0, hz1, hz2⟩ := info_parts byteInfo
  obtain ⟨W, hW⟩ : ∃ W, w.alloc (.cells #[.int .i64 1, .int .i64 n, .slice B 0 cb, .slice L 0 cl] 67) = W := ⟨_, rfl⟩
  have HBX : Hid (Below w.heap.size w W) := Lib.hid (by rw [← hW]; exact below_box0 _ _)
  have hF : Four W w.heap.size 0 ⟨1, n, B, 0, cb, L, 0, cl⟩ := by rw [← hW]; exact four_alloc w ⟨1, n, B, 0, cb, L, 0, cl⟩
  obtain ⟨c0, c1, c2, c3⟩ := hF.get
  have c1b : (W.alloc (.cells #[.int .u8 1] 5)).cell? ⟨w.heap.size, 0 + 1, none⟩ = some (.int .i64 n) := cell_below c1 (below_box0 _ _)
  rw [Nat.zero_add] at c1b
  have HO : Hid (OwnK .u8 5 (W.alloc (.cells #[.int .u8 1] 5)) W.heap.size (.slice (some ⟨W.heap.size, 0, none⟩) 1 1) [1]) := Lib.hid (ownK_one W 1)
  have HBO := Lib.hid (below_box0 W (.cells #[.int .u8 1] 5))
  have HW := Lib.hid hW
  have y0 : 0 ≤ n % 18446744073709551616 := Int.emod_nonneg _ (by decide)
  have y1 : n % 18446744073709551616 < 18446744073709551616 := Int.emod_lt_of_pos _ (by decide)
  clear hW hF
  go_enter Tryd.func37, Tryd.ntmps37
  go_upto_region 1 with (fail)
  rw [HW.out]
  go_wp2_with fail
  refine (rnum8_any (n % 18446744073709551616) y0 y1 _).mono ?_
  rintro e w3 ⟨g3, cap3, rfl, hs3, hb3⟩
  have HO3 := Lib.hid (HO.out.keep hb3)
  have HB3 := Lib.hid (below_ext HBO.out hb3)
  have HS3 := Lib.hid hs3
  have hz3 := HB3.out.size
  have hrow := HO3.out.row (n := 1) rfl
  clear hb3 hs3 c0 c1 c1b c2 c3
  go_wp2_with (at_builtin; refine wpList_append_own _ rfl _ _ 63 rfl (W.heap.size) 5 i0 (.int .u8 0) 1 1 Tryd.underlying63 hi hz0 hz1 hz2 rfl (by decide) (.slice (some ⟨W.heap.size, 0, none⟩) 1 1) (1) ([.int .u8 1]) rfl (hrow) ⟨g3, 0, none⟩ 8 cap3 ((bes 8 (n % 18446744073709551616)).map (.int .u8)) rfl (by simp [bes_len, be4_len, be8_len]) (HS3.out.news) (ints_oneCell .u8 _) (by unfold maxLen; omega) (by omega) (by omega) ?_; intro v4 w4 hown4 hgrow4 _)
  have HO4 : Hid (OwnK .u8 5 w4 W.heap.size v4 (enc (.int n))) := Lib.hid (by rw [enc_int]; exact OwnK.app (xs := [1]) (ys := be8 (n % 18446744073709551616)) (m := 8) rfl rfl hown4)
  have HB4 : Hid (Below w.heap.size w w4) := Lib.hid (below_ext HBX.out (HO3.out.below0 HB3.out hz3 hgrow4))
  have hle := HBX.out.size
  clear hown4 hgrow4 hrow
  go_wp2
  go_ret
  exact ⟨_, rfl, HO4.out.mono hle, HB4.out⟩
set_option maxHeartbeats 3200000 in
theorem renc_byt (l : List Int) (n : Nat) (hn : Hid (l.length = n)) (hn0 : 0 < n) (hn1 : n < 1000000) (b o : Nat) (cb : Nat) (L : Option Addr) (cl : Nat) (w : World) (hs : Hid (Sk .u8 w (some ⟨b, o, none⟩) l)) :
    Calls Tryd.prog 37 #[.agg #[.int .i64 2, .int .i64 0, .slice (some ⟨b, o, none⟩) n cb, .slice L 0 cl]] w (KOut .u8 5 (enc (.byt l)) w) := by
  obtain ⟨i0, hi, hz0, hz1, hz2⟩ := info_parts byteInfo
  obtain ⟨W, hW⟩ : ∃ W, w.alloc (.cells #[.int .i64 2, .int .i64 0, .slice (some ⟨b, o, none⟩) n cb, .slice L 0 cl] 67) = W := ⟨_, rfl⟩
  have HBX : Hid (Below w.heap.size w W) := Lib.hid (by rw [← hW]; exact below_box0 _ _)
  have HF : Hid (Four W w.heap.size 0 ⟨2, 0, some ⟨b, o, none⟩, n, cb, L, 0, cl⟩) := Lib.hid (by rw [← hW]; exact four_alloc w ⟨2, 0, some ⟨b, o, none⟩, n, cb, L, 0, cl⟩)
  obtain ⟨c0, c1, c2, c3⟩ := HF.out.get
  rw [Nat.zero_add] at c1 c2 c3
  have HS := Lib.hid (hs.out.below HBX.out)
  have HC2 := Lib.hid c2
  have HW := Lib.hid hW
  have u1 : IntKind.u64.wrap (n : Int) = (n : Int) := by simp [IntKind.wrap, IntKind.bits, IntKind.signed]; omega
  clear hW
  go_enter Tryd.func37, Tryd.ntmps37
  go_upto_region 1 with (fail)
  rw [HW.out]
  go_wp2_with fail
  clear c0 c1 c2 c3
  refine wp_region_T (S := fun w' => w'.cell? ⟨w.heap.size, 2, none⟩ = some (.slice (some ⟨b, o, none⟩) n cb)) (E := []) (by kernel_rfl) (cell_below HC2.out (Below.refl _ _).drew) (fun hHeld => ?_)
  refine tkV 1 ?_
  try simp only [qq1, qq2, qq3, Act.put, qq4, qq5, qq6]
  refine tkV 2 ?_
  try simp only [qq1, qq2, qq3, Act.put, qq4, qq5, qq6]
  refine tkV 3 ?_
  try simp only [qq1, qq2, qq3, Act.put, qq4, qq5, qq6]
  refine tkV 4 ?_
  try simp only [qq1, qq2, qq3, Act.put, qq4, qq5, qq6]
  refine tkV 7 ?_
  try simp only [qq1, qq2, qq3, Act.put, qq4, qq5, qq6]
  refine tkV 8 ?_
  try simp only [qq1, qq2, qq3, Act.put, qq4, qq5, qq6]
  refine wpT_two (i1 := 0) (i2 := 5) (by kernel_rfl) rfl rfl (fun K hK => ?_) (fun K hK => ?_)
  · skip
    go_simp
    refine hK.out _ _ ?_ (fun hHeld => ?_)
    · exact cell_below HC2.out (below_box0 _ _).drew
    clear hK K
    try simp only [qq1, qq2, qq3, Act.put, qq4, qq5, qq6]
    refine wpT_one (i := 5) (by kernel_rfl) rfl (fun K hK => ?_)
    go_simp
    try rw [show (W.drew.alloc (.cells #[.int .u8 2] 5)) = (W.alloc (.cells #[.int .u8 2] 5)).drew from rfl]
    refine (rnum4_any n (by omega) (by omega) _).mono ?_
    rintro e w3 ⟨gN, capN, rfl, hsN, hb3⟩
    refine hK.out _ _ ?_ (fun hHeld => ?_)
    · exact cell_below HC2.out (below_ext (below_box0 _ _).drew hb3)
    clear hK K
    try simp only [qq1, qq2, qq3, Act.put, qq4, qq5, qq6]
    refine wpT_one (i := 6) (by kernel_rfl) rfl (fun K hK => ?_)
    obtain ⟨gA, hgA⟩ : ∃ g, W.heap.size = g := ⟨_, rfl⟩
    have HO6 : Hid (OwnK .u8 5 w3 W.heap.size (.slice (some ⟨gA, 0, none⟩) 1 1) [2]) := Lib.hid (by rw [← hgA]; exact (ownK_one W 2).keep (below_ext (Below.refl _ _).drew hb3))
    have HB6 : Hid (Below W.heap.size W w3) := Lib.hid (below_ext (below_box0 _ _).drew hb3)
    have HN6 := Lib.hid hsN
    obtain ⟨W6, hW6⟩ : ∃ u, w3 = u := ⟨_, rfl⟩
    rw [hW6] at HO6 HB6 HN6 ⊢
    rw [hgA]
    have hrow6 := HO6.out.row (n := 1) rfl
    have hz6 := HB6.out.size
    refine step_append_lies _ (by rfl) _ _ _ (by rfl) (W.heap.size) 5 i0 _ 1 1 Tryd.underlying63 hi hz0 hz1 hz2 rfl (by omega) (.slice (some ⟨gA, 0, none⟩) 1 1) (1) ([.int .u8 2]) (by rfl) (hrow6) ⟨gN, 0, none⟩ 4 capN ((bes 4 (n : Int)).map (.int .u8)) (by rfl) (by simp [bes_len, be4_len, hn.out]) (HN6.out.news) (ints_oneCell .u8 _) (by decide) (by unfold maxLen; omega) (by omega) (by omega) (W6.heap.size) rfl ?_
    intro g7 cap7 w7 hown7 hgrow7 hat7 hlt7
    have HB7 := Lib.hid (HO6.out.below0 HB6.out hz6 hgrow7)
    have HO7 : Hid (OwnK .u8 5 w7 W.heap.size (.slice (some ⟨g7, 0, none⟩) (1 + 4) cap7) (2 :: be4 (n : Int))) := Lib.hid (OwnK.app (xs := [2]) (ys := be4 (n : Int)) (m := 4) rfl rfl hown7)
    have hrow7 := HO7.out.row (n := 5) rfl
    have hz7 := HB7.out.size
    have HS7 := Lib.hid (HS.out.below HB7.out)
    refine hK.out _ _ ?_ (fun hHeld => ?_)
    · exact cell_below HC2.out HB7.out
    clear hK K
    try simp only [qq1, qq2, qq3, Act.put, qq4, qq5, qq6]
    refine wpT_one (i := 9) (by kernel_rfl) rfl (fun K hK => ?_)
    refine step_append_lies _ (by rfl) _ _ _ (by rfl) (W.heap.size) 5 i0 _ 1 1 Tryd.underlying63 hi hz0 hz1 hz2 rfl (by omega) (.slice (some ⟨g7, 0, none⟩) (1 + 4) cap7) (5) ((2 :: be4 (n : Int)).map (.int .u8)) (by rfl) (hrow7) ⟨b, o, none⟩ n cb (l.map (.int .u8)) (by rfl) (by simp [bes_len, be4_len, hn.out]) (HS7.out.news) (ints_oneCell .u8 _) (hn0) (by unfold maxLen; omega) (by omega) (by omega) (w7.heap.size) rfl ?_
    intro g8 cap8 w8 hown8 hgrow8 hat8 hlt8
    have HB8 := Lib.hid (HO7.out.below0 HB7.out hz7 hgrow8)
    have HO8 : Hid (OwnK .u8 5 w8 W.heap.size (.slice (some ⟨g8, 0, none⟩) (5 + n) cap8) (enc (.byt l))) := Lib.hid (by rw [enc_byt, hn.out]; exact OwnK.app (xs := 2 :: be4 (n : Int)) (ys := l) (m := n) rfl hn.out.symm hown8)
    refine hK.out _ _ ?_ (fun hHeld => ?_)
    · exact cell_below HC2.out HB8.out
    clear hK K
    try simp only [qq1, qq2, qq3, Act.put, qq4, qq5, qq6]
    refine tkV 10 ?_
    try simp only [qq1, qq2, qq3, Act.put, qq4, qq5, qq6]
    refine wpT_done (by kernel_rfl) ?_ _
    have HF := Lib.hid (HO8.out.mono HBX.out.size)
    have hbf := below_ext HBX.out HB8.out
    go_wp2
    go_ret
    exact ⟨_, rfl, HF.out, hbf⟩
  · skip
    go_simp
    refine (rnum4_any n (by omega) (by omega) _).mono ?_
    rintro e w3 ⟨gN, capN, rfl, hsN, hb3⟩
    have HBN := Lib.hid (below_ext (Below.refl W.heap.size W).drew hb3)
    have hzN := HBN.out.size
    refine hK.out _ _ ?_ (fun hHeld => ?_)
    · exact cell_below HC2.out (below_ext (Below.refl W.heap.size W).drew hb3)
    clear hK K
    try simp only [qq1, qq2, qq3, Act.put, qq4, qq5, qq6]
    refine wpT_one (i := 0) (by kernel_rfl) rfl (fun K hK => ?_)
    go_simp
    refine hK.out _ _ ?_ (fun hHeld => ?_)
    · skip
      exact cell_below HC2.out (below_ext (below_ext (Below.refl W.heap.size W).drew hb3) (below_box0 _ _))
    clear hK K
    try simp only [qq1, qq2, qq3, Act.put, qq4, qq5, qq6]
    refine wpT_one (i := 6) (by kernel_rfl) rfl (fun K hK => ?_)
    obtain ⟨gA, hgA⟩ : ∃ g, w3.heap.size = g := ⟨_, rfl⟩
    have HO6 : Hid (OwnK .u8 5 (w3.alloc (.cells #[.int .u8 2] 5)) W.heap.size (.slice (some ⟨gA, 0, none⟩) 1 1) [2]) := Lib.hid (by rw [← hgA]; exact (ownK_one w3 2).mono hzN)
    have HB6 : Hid (Below W.heap.size W (w3.alloc (.cells #[.int .u8 2] 5))) := Lib.hid (below_ext HBN.out (below_box0 _ _))
    have HN6 := Lib.hid (hsN.below (below_box0 w3 (.cells #[.int .u8 2] 5)))
    obtain ⟨W6, hW6⟩ : ∃ u, w3.alloc (.cells #[.int .u8 2] 5) = u := ⟨_, rfl⟩
    rw [hW6] at HO6 HB6 HN6 ⊢
    rw [hgA]
    have hrow6 := HO6.out.row (n := 1) rfl
    have hz6 := HB6.out.size
    refine step_append_lies _ (by rfl) _ _ _ (by rfl) (W.heap.size) 5 i0 _ 1 1 Tryd.underlying63 hi hz0 hz1 hz2 rfl (by omega) (.slice (some ⟨gA, 0, none⟩) 1 1) (1) ([.int .u8 2]) (by rfl) (hrow6) ⟨gN, 0, none⟩ 4 capN ((bes 4 (n : Int)).map (.int .u8)) (by rfl) (by simp [bes_len, be4_len, hn.out]) (HN6.out.news) (ints_oneCell .u8 _) (by decide) (by unfold maxLen; omega) (by omega) (by omega) (W6.heap.size) rfl ?_
    intro g7 cap7 w7 hown7 hgrow7 hat7 hlt7
    have HB7 := Lib.hid (HO6.out.below0 HB6.out hz6 hgrow7)
    have HO7 : Hid (OwnK .u8 5 w7 W.heap.size (.slice (some ⟨g7, 0, none⟩) (1 + 4) cap7) (2 :: be4 (n : Int))) := Lib.hid (OwnK.app (xs := [2]) (ys := be4 (n : Int)) (m := 4) rfl rfl hown7)
    have hrow7 := HO7.out.row (n := 5) rfl
    have hz7 := HB7.out.size
    have HS7 := Lib.hid (HS.out.below HB7.out)
    refine hK.out _ _ ?_ (fun hHeld => ?_)
    · exact cell_below HC2.out HB7.out
    clear hK K
    try simp only [qq1, qq2, qq3, Act.put, qq4, qq5, qq6]
    refine wpT_one (i := 9) (by kernel_rfl) rfl (fun K hK => ?_)
    refine step_append_lies _ (by rfl) _ _ _ (by rfl) (W.heap.size) 5 i0 _ 1 1 Tryd.underlying63 hi hz0 hz1 hz2 rfl (by omega) (.slice (some ⟨g7, 0, none⟩) (1 + 4) cap7) (5) ((2 :: be4 (n : Int)).map (.int .u8)) (by rfl) (hrow7) ⟨b, o, none⟩ n cb (l.map (.int .u8)) (by rfl) (by simp [bes_len, be4_len, hn.out]) (HS7.out.news) (ints_oneCell .u8 _) (hn0) (by unfold maxLen; omega) (by omega) (by omega) (w7.heap.size) rfl ?_
    intro g8 cap8 w8 hown8 hgrow8 hat8 hlt8
    have HB8 := Lib.hid (HO7.out.below0 HB7.out hz7 hgrow8)
    have HO8 : Hid (OwnK .u8 5 w8 W.heap.size (.slice (some ⟨g8, 0, none⟩) (5 + n) cap8) (enc (.byt l))) := Lib.hid (by rw [enc_byt, hn.out]; exact OwnK.app (xs := 2 :: be4 (n : Int)) (ys := l) (m := n) rfl hn.out.symm hown8)
    refine hK.out _ _ ?_ (fun hHeld => ?_)
    · exact cell_below HC2.out HB8.out
    clear hK K
    try simp only [qq1, qq2, qq3, Act.put, qq4, qq5, qq6]
    refine tkV 10 ?_
    try simp only [qq1, qq2, qq3, Act.put, qq4, qq5, qq6]
    refine wpT_done (by kernel_rfl) ?_ _
    have HF := Lib.hid (HO8.out.mono HBX.out.size)
    have hbf := below_ext HBX.out HB8.out
    go_wp2
    go_ret
    exact ⟨_, rfl, HF.out, hbf⟩
set_option maxHeartbeats 3200000 in
theorem renc_lst (l : List It) (n : Nat) (hn : Hid (l.length = n)) (hn1 : n ≤ 1000) (f : Nat → Ic) (B : Option Addr) (cb : Nat) (L : Option Addr) (cl : Nat) (w : World)
    (h5 : Hid (∀ k, k < l.length → ∃ b o, L = some ⟨b, o, none⟩ ∧ Four w b (o + k * 4) (f k))) (hsm : Hid ((enc (.lst l)).length ≤ 16384))
    (ih : ∀ k, k < l.length → ∀ u, Below w.heap.size w u → Calls Tryd.prog 37 #[(f k).val] u (KOut .u8 5 (enc (l.getD k default)) u)) :
    Calls Tryd.prog 37 #[.agg #[.int .i64 3, .int .i64 0, .slice B 0 cb, .slice L n cl]] w (KOut .u8 5 (enc (.lst l)) w) := by
  have HIH := Lib.hid ih
  clear ih
  obtain ⟨i0, hi, hz0, hz1, hz2⟩ := info_parts byteInfo
  obtain ⟨W, hW⟩ : ∃ W, w.alloc (.cells #[.int .i64 3, .int .i64 0, .slice B 0 cb, .slice L n cl] 67) = W := ⟨_, rfl⟩
  have HBX : Hid (Below w.heap.size w W) := Lib.hid (by rw [← hW]; exact below_box0 _ _)
  have HF : Hid (Four W w.heap.size 0 ⟨3, 0, B, 0, cb, L, n, cl⟩) := Lib.hid (by rw [← hW]; exact four_alloc w ⟨3, 0, B, 0, cb, L, n, cl⟩)
  obtain ⟨c0, c1, c2, c3⟩ := HF.out.get
  have c3b : (W.alloc (.cells #[.int .u8 3] 5)).cell? ⟨w.heap.size, 0 + 3, none⟩ = some (.slice L n cl) := cell_below c3 (below_box0 _ _)
  rw [Nat.zero_add] at c3b
  have HO : Hid (OwnK .u8 5 (W.alloc (.cells #[.int .u8 3] 5)) W.heap.size (.slice (some ⟨W.heap.size, 0, none⟩) 1 1) [3]) := Lib.hid (ownK_one W 3)
  have HBO := Lib.hid (below_box0 W (.cells #[.int .u8 3] 5))
  have HW := Lib.hid hW
  have u1 : IntKind.u64.wrap (n : Int) = (n : Int) := by simp [IntKind.wrap, IntKind.bits, IntKind.signed]; omega
  clear hW
  go_enter Tryd.func37, Tryd.ntmps37
  go_upto_region 1 with (fail)
  rw [HW.out]
  go_wp2_with fail
  refine (rnum4_any n (by omega) (by omega) _).mono ?_
  rintro e w3 ⟨g3, cap3, rfl, hs3, hb3⟩
  have HO3 := Lib.hid (HO.out.keep hb3)
  have HB3 := Lib.hid (below_ext HBO.out hb3)
  have HS3 := Lib.hid hs3
  have hz3 := HB3.out.size
  have hrow := HO3.out.row (n := 1) rfl
  clear hb3 hs3 c0 c1 c3b c2 c3
  go_wp2_with (at_builtin; refine wpList_append_own _ rfl _ _ 63 rfl (W.heap.size) 5 i0 (.int .u8 0) 1 1 Tryd.underlying63 hi hz0 hz1 hz2 rfl (by decide) (.slice (some ⟨W.heap.size, 0, none⟩) 1 1) (1) ([.int .u8 3]) rfl (hrow) ⟨g3, 0, none⟩ 4 cap3 ((bes 4 (n : Int)).map (.int .u8)) rfl (by simp [bes_len, be4_len, be8_len]) (HS3.out.news) (ints_oneCell .u8 _) (by unfold maxLen; omega) (by omega) (by omega) ?_; intro v4 w4 hown4 hgrow4 _)
  have HO4 : Hid (OwnK .u8 5 w4 W.heap.size v4 (3 :: be4 (n : Int) ++ encL (l.take 0))) := Lib.hid (by rw [List.take_zero]; simpa [encL] using OwnK.app (xs := [3]) (ys := be4 (n : Int)) (m := 4) rfl rfl hown4)
  have HB4 : Hid (Below W.heap.size W w4) := Lib.hid (HO3.out.below0 HB3.out hz3 hgrow4)
  have hle := HBX.out.size
  clear hown4 hgrow4 hrow HO3 HB3 HS3 HO HBO
  go_loopw [3, 4] (fun p i u => ∃ k : Nat, k ≤ n ∧ i = .int .i64 k ∧ Hid (OwnK .u8 5 u W.heap.size p (3 :: be4 (n : Int) ++ encL (l.take k))) ∧ Hid (Below W.heap.size W u)) (fun _ i _ => n - (intOf i).toNat)
  case atStart => exact ⟨0, by omega, rfl, HO4, HB4⟩
  case round =>
    obtain ⟨k, hk, rfl, HOk, HBr⟩ := hrel
    obtain ⟨c0, c1, c2, c3⟩ := (HF.out.below HBr.out).get
    by_cases hlk : k < n
    · have hkl : k < l.length := by rw [hn.out]; exact hlk
      obtain ⟨b, o, hL, h4⟩ := h5.out k hkl
      subst hL
      have hbw := below_ext HBX.out HBr.out
      have hle2 : (3 :: be4 (n : Int) ++ encL (l.take k)).length + (enc (l.getD k default)).length ≤ 16384 := by
        have h := hsm.out
        have t1 := encL_take hkl
        have t2 := encL_take_le (l := l) (k := k + 1)
        rw [t1, List.length_append] at t2
        rw [enc_lst, List.length_cons, List.length_append, be4_len] at h
        rw [List.length_append, List.length_cons, be4_len]
        omega
      have hstep := encL_take hkl
      have hpos := enc_pos (l.getD k default)
      obtain ⟨ic, hic⟩ : ∃ x, f k = x := ⟨_, rfl⟩
      obtain ⟨kd, nn, B', nb, cb', L', nl, cl'⟩ := ic
      have HC0 := HIH.out k hkl wr hbw
      rw [hic] at h4 HC0
      obtain ⟨et, het⟩ : ∃ x, enc (l.getD k default) = x := ⟨_, rfl⟩
      rw [het] at HC0 hle2 hstep hpos
      have HC : Hid (Calls Tryd.prog 37 #[.agg #[.int .i64 kd, .int .i64 nn, .slice B' nb cb', .slice L' nl cl']] wr (KOut .u8 5 et wr)) := Lib.hid HC0
      obtain ⟨i0', i1', i2', i3'⟩ := (h4.below hbw).get
      have HST := Lib.hid hstep
      obtain ⟨m, hm⟩ : ∃ m, et.length = m := ⟨_, rfl⟩
      obtain ⟨N, hN⟩ : ∃ N, (3 :: be4 (n : Int) ++ encL (l.take k)).length = N := ⟨_, rfl⟩
      rw [hm] at hle2 hpos
      rw [hN] at hle2
      have HM := Lib.hid hm
      have HNN := Lib.hid hN
      clear hkl h4 hbw hic HC0 het hstep hm hN
      go_wp2_with fail
      refine HC.out.mono ?_
      rintro e w5 ⟨v5, rfl, ho5, hb5⟩
      obtain ⟨g5, cap5, e5, hg5, -, -, hsk5⟩ := ho5.cells (by rw [HM.out]; exact hpos)
      rw [HM.out] at e5
      subst e5
      have HO5 := Lib.hid (HOk.out.keep hb5)
      have HB5 := Lib.hid (below_ext HBr.out hb5)
      have HS5 := Lib.hid hsk5
      have hrow := HO5.out.row HNN.out
      have hz5 := HB5.out.size
      clear hsk5 ho5 hb5 HC i0' i1' i2' i3' c0 c1 c2 c3 HOk
      go_wp2_with (at_builtin; refine wpList_append_own _ rfl _ _ 63 rfl (W.heap.size) 5 i0 (.int .u8 0) 1 1 Tryd.underlying63 hi hz0 hz1 hz2 rfl (by decide) (u3) (N) ((3 :: be4 (n : Int) ++ encL (l.take k)).map (.int .u8)) rfl (hrow) ⟨g5, 0, none⟩ m cap5 (et.map (.int .u8)) rfl (by simp [HM.out]) (HS5.out.news) (ints_oneCell .u8 _) (by unfold maxLen; omega) (by omega) (by omega) ?_; intro v6 w6 hown6 hgrow6 _)
      have HO6 : Hid (OwnK .u8 5 w6 W.heap.size v6 (3 :: be4 (n : Int) ++ encL (l.take (k + 1)))) := Lib.hid (by
        rw [HST.out, ← List.append_assoc]
        exact OwnK.app HNN.out.symm HM.out.symm hown6)
      have HB6 : Hid (Below W.heap.size W w6) := Lib.hid (HO5.out.below0 HB5.out hz5 hgrow6)
      clear hown6 hgrow6 hrow HO5 HB5 HS5
      go_roundw
      case rel => exact ⟨k + 1, by omega, by go_num, HO6, HB6⟩
      case measure => simp [intOf]; omega
    · have HF2 : Hid (OwnK .u8 5 wr W.heap.size u3 (enc (.lst l))) := Lib.hid (by
        have h := HOk.out
        rw [show k = l.length by rw [hn.out]; omega, List.take_length] at h
        rw [enc_lst, hn.out]
        exact h)
      have hbf := below_ext HBX.out HBr.out
      clear HOk
      go_wp2
      go_ret
      exact ⟨_, rfl, HF2.out.mono hle, hbf⟩
theorem renc_any : ∀ (d : Nat) (i : It) (c : Ic) (w : World), fits d i → ItR w i c → (enc i).length ≤ 16384 → Calls Tryd.prog 37 #[c.val] w (KOut .u8 5 (enc i) w) := by
  intro d
  induction d with
  | zero =>
    intro i c w hf hr hl
    obtain ⟨kd, nn, B, nb, cb, L, nl, cl⟩ := c
    cases hr with
    | int n _ h1 h2 h3 h4 =>
      dsimp only at h1 h2 h3 h4
      subst h1; subst h2; subst h3; subst h4
      exact renc_int nn hf.1 hf.2 B cb L cl w
    | byt b _ h1 h2 h3 h4 h5 =>
      dsimp only at h1 h2 h3 h4 h5
      subst h1; subst h2; subst h4; subst h3
      obtain ⟨b', o', rfl, _⟩ := h5.at0 hf.1.1
      exact renc_byt b b.length (Lib.hid rfl) hf.1.1 hf.1.2 b' o' cb L cl w (Lib.hid h5)
    | lst l _ h1 h2 h3 h4 f h5 h6 => exact absurd hf (by simp [fits])
  | succ d ih =>
    intro i c w hf hr hl
    obtain ⟨kd, nn, B, nb, cb, L, nl, cl⟩ := c
    cases hr with
    | int n _ h1 h2 h3 h4 =>
      dsimp only at h1 h2 h3 h4
      subst h1; subst h2; subst h3; subst h4
      exact renc_int nn hf.1 hf.2 B cb L cl w
    | byt b _ h1 h2 h3 h4 h5 =>
      dsimp only at h1 h2 h3 h4 h5
      subst h1; subst h2; subst h4; subst h3
      obtain ⟨b', o', rfl, _⟩ := h5.at0 hf.1.1
      exact renc_byt b b.length (Lib.hid rfl) hf.1.1 hf.1.2 b' o' cb L cl w (Lib.hid h5)
    | lst l _ h1 h2 h3 h4 f h5 h6 =>
      dsimp only at h1 h2 h3 h4 h5
      subst h1; subst h2; subst h3; subst h4
      refine renc_lst l l.length (Lib.hid rfl) hf.1 f B cb L cl w (Lib.hid h5) (Lib.hid hl) ?_
      intro k hk u hu
      refine ih _ (f k) u (hf.2 _ (by rw [List.getD_eq_getElem?_getD, List.getElem?_eq_getElem hk]; exact List.getElem_mem hk)) ((h6 k hk).kept hu) ?_
      have t1 := encL_take hk
      have t2 := encL_take_le (l := l) (k := k + 1)
      rw [t1, List.length_append] at t2
      rw [enc_lst, List.length_cons, List.length_append, be4_len] at hl
      omega
theorem u32Info : (Tryd.prog.info? 104).map (fun i => (i.zero, i.size, i.bytes)) = some (some (.int .u32 0), 1, 4) := by kernel_rfl
set_option maxHeartbeats 3200000 in
theorem rwords_any (b o cap : Nat) (blk : List Int) (hlen : Hid (blk.length = 64)) (hby : Hid (bytesB blk = true)) (w : World) (hs : Hid (Sk .u8 w (some ⟨b, o, none⟩) blk)) (hcap : 64 ≤ cap) :
    Calls Tryd.prog 73 #[.slice (some ⟨b, o, none⟩) 64 cap] w (KOut .u32 104 (schedL blk) w) := by
  obtain ⟨i0, hi, hz0, hz1, hz2⟩ := info_parts u32Info
  go_enter Tryd.func73, Tryd.ntmps73
  go_wp2
  go_loopw [3, 4] (fun v i u => ∃ k : Nat, k ≤ 16 ∧ i = .int .i64 k ∧ Hid (OwnK .u32 104 u w.heap.size v (wfirst blk k)) ∧ Hid (Below w.heap.size w u)) (fun _ i _ => 16 - (intOf i).toNat)
  case atStart => exact ⟨0, by omega, rfl, Lib.hid (ownK_nil _ _), Lib.hid (Below.refl _ _)⟩
  case round =>
    obtain ⟨k, hk, rfl, HO, HBr⟩ := hrel
    by_cases hlt : k < 16
    · go_wp2
      go_loopw [5, 6] (fun p j u => ∃ (m : Nat) (x : Int), m ≤ 4 ∧ j = .int .i64 m ∧ p = .int .u32 x ∧ Hid (part blk k m = x) ∧ 0 ≤ x ∧ Hid (OwnK .u32 104 u w.heap.size u3 (wfirst blk k)) ∧ Hid (Below w.heap.size w u)) (fun _ j _ => 4 - (intOf j).toNat)
      case atStart => exact ⟨0, 0, by omega, rfl, rfl, Lib.hid rfl, by omega, HO, HBr⟩
      case round =>
        obtain ⟨m, x, hm, rfl, rfl, HX, x0, HOm, HBu⟩ := hrel
        by_cases hlm : m < 4
        · have hc1 := (hs.out.below HBu.out).cell (j := 4 * k + m) (by have := hlen.out; omega)
          obtain ⟨c0, c1⟩ := bytesB_get hby.out (4 * k + m)
          have hpn : part blk k (m + 1) = part blk k m * 256 + blk.getD (4 * k + m) 0 := rfl
          have x1 := part_hi hby.out k m (by omega)
          rw [HX.out] at hpn x1
          obtain ⟨c, hcc⟩ : ∃ c, blk.getD (4 * k + m) 0 = c := ⟨_, rfl⟩
          rw [hcc] at hc1 c0 c1 hpn
          have HX2 := Lib.hid hpn
          have j2 : (4 * (k : Int) + m).toNat = 4 * k + m := by omega
          clear hcc hpn
          go_wp2
          go_roundw
          case rel => exact ⟨m + 1, _, by omega, by go_num, rfl, HX2, by omega, HOm, HBu⟩
          case measure => simp [intOf]; omega
        · have HW1 : Hid (wfirst blk (k + 1) = wfirst blk k ++ [x]) := Lib.hid (by rw [wfirst_succ, ← part4, ← HX.out, show m = 4 by omega])
          have HLN : Hid ((wfirst blk k).length = k) := Lib.hid (wfirst_len _ _)
          have hown := HOm.out.row HLN.out
          have hbs := HBu.out.size
          clear HX
          go_wp2_with (at_builtin; refine wpList_append_own _ rfl _ _ 105 rfl w.heap.size 104 i0 (.int .u32 0) 1 4 Tryd.underlying105 hi hz0 hz1 hz2 rfl (by decide) _ _ _ rfl (hown.alloc _) ⟨wr.heap.size, 0, none⟩ 1 1 [.int .u32 x] rfl rfl (cell_one_new _ _ _) (ints_oneCell .u32 [x]) (by unfold maxLen; omega) (by omega) (by simp; omega) ?_; intro v2 w2 hown2 hgrow2 _)
          have HO3 : Hid (OwnK .u32 104 w2 w.heap.size v2 (wfirst blk (k + 1))) := Lib.hid (by
            rw [HW1.out]
            exact OwnK.app HLN.out.symm rfl hown2)
          have HBx3 : Hid (Below w.heap.size w w2) := Lib.hid (HOm.out.below HBu.out hbs hgrow2)
          clear hown hown2 hgrow2 HOm
          go_roundw
          case rel => exact ⟨k + 1, by omega, by go_num, HO3, HBx3⟩
          case measure => simp [intOf]; omega
    · obtain rfl : k = 16 := by omega
      obtain ⟨g1, cap1, e1, hg1, _, _, _⟩ := HO.out.cells (by rw [wfirst_len]; decide)
      rw [wfirst_len] at e1
      subst e1
      have HO16 : Hid (OwnK .u32 104 wr w.heap.size (.slice (some ⟨g1, 0, none⟩) 16 cap1) (wext (16 - 16) (wfirst blk 16))) := Lib.hid (by rw [show 16 - 16 = 0 from rfl, wext]; exact HO.out)
      clear HO hlt
      go_wp2
      rw [show (((16 : Nat) : Int)) = 16 from rfl]
      go_loopw [3, 7] (fun v i u => ∃ (t g cp : Nat), 16 ≤ t ∧ t ≤ 64 ∧ i = .int .i64 t ∧ v = .slice (some ⟨g, 0, none⟩) t cp ∧ Hid (OwnK .u32 104 u w.heap.size v (wext (t - 16) (wfirst blk 16))) ∧ Hid (Below w.heap.size w u)) (fun _ i _ => 64 - (intOf i).toNat)
      case atStart => exact ⟨16, g1, cap1, by omega, by omega, rfl, rfl, HO16, HBr⟩
      case round =>
        obtain ⟨t, g, cp, ht0, ht, rfl, rfl, HO, HBu⟩ := hrel
        by_cases hlt : t < 64
        · obtain ⟨L, hL⟩ : ∃ L, wext (t - 16) (wfirst blk 16) = L := ⟨_, rfl⟩
          have hLn : L.length = t := by rw [← hL, wext_len, wfirst_len]; omega
          rw [hL] at HO
          have hsk := HO.out.skAt (by omega)
          have h15 := hsk.cell (j := t - 15) (by omega)
          have h2 := hsk.cell (j := t - 2) (by omega)
          have h16 := hsk.cell (j := t - 16) (by omega)
          have h7 := hsk.cell (j := t - 7) (by omega)
          have hglt := hsk.lt (by omega)
          rw [Nat.zero_add] at h15 h2 h16 h7
          have hnx : wext (t + 1 - 16) (wfirst blk 16) = L ++ [add32 (add32 (add32 (L.getD (t - 16) 0) (sgA (L.getD (t - 15) 0))) (L.getD (t - 7) 0)) (sgB (L.getD (t - 2) 0))] := by
            rw [show t + 1 - 16 = (t - 16) + 1 by omega, wext, hL, wnext, hLn]
          obtain ⟨x15, e15⟩ : ∃ x, L.getD (t - 15) 0 = x := ⟨_, rfl⟩
          obtain ⟨x2, e2⟩ : ∃ x, L.getD (t - 2) 0 = x := ⟨_, rfl⟩
          obtain ⟨x16, e16⟩ : ∃ x, L.getD (t - 16) 0 = x := ⟨_, rfl⟩
          obtain ⟨x7, e7⟩ : ∃ x, L.getD (t - 7) 0 = x := ⟨_, rfl⟩
          rw [e15] at h15 hnx
          rw [e2] at h2 hnx
          rw [e16] at h16 hnx
          rw [e7] at h7 hnx
          have HNX := Lib.hid hnx
          have HLN := Lib.hid hLn
          have H16 := Lib.hid h16
          have H7 := Lib.hid h7
          have i15 : ((t : Int) - 15).toNat = t - 15 := by omega
          have i2 : ((t : Int) - 2).toNat = t - 2 := by omega
          have i16 : ((t : Int) - 16).toNat = t - 16 := by omega
          have i7 : ((t : Int) - 7).toNat = t - 7 := by omega
          have j15 : (0 : Int) ≤ (t : Int) - 15 := by omega
          have j2 : (0 : Int) ≤ (t : Int) - 2 := by omega
          have j16 : (0 : Int) ≤ (t : Int) - 16 := by omega
          have j7 : (0 : Int) ≤ (t : Int) - 7 := by omega
          clear hnx e15 e2 e16 e7 hL hLn hsk h16 h7
          go_wp2
          go_quiet (fail)
          have HBd := Lib.hid (below_drawN (Below.refl wr.heap.size wr) nq)
          obtain ⟨w2, hw2⟩ : ∃ u, wr.drewN nq = u := ⟨_, rfl⟩
          rw [hw2] at HBd ⊢
          clear hw2 h15 h2
          go_wp2_with fail
          refine (rright_of x15 7 7 rfl (by decide) (by decide) _).mono ?_
          rintro e w3 ⟨rfl, nk, rfl⟩
          have HBd2 := Lib.hid (below_drawN HBd.out nk)
          obtain ⟨w3, hw3⟩ : ∃ u, w2.drewN nk = u := ⟨_, rfl⟩
          rw [hw3] at HBd2 ⊢
          clear hw3 HBd
          have HBd := HBd2
          clear HBd2
          obtain ⟨w2, hw2⟩ : ∃ u, w3 = u := ⟨_, rfl⟩
          rw [hw2] at HBd ⊢
          clear hw2
          go_wp2_with fail
          refine (rright_of x15 18 18 rfl (by decide) (by decide) _).mono ?_
          rintro e w3 ⟨rfl, nk, rfl⟩
          have HBd2 := Lib.hid (below_drawN HBd.out nk)
          obtain ⟨w3, hw3⟩ : ∃ u, w2.drewN nk = u := ⟨_, rfl⟩
          rw [hw3] at HBd2 ⊢
          clear hw3 HBd
          have HBd := HBd2
          clear HBd2
          obtain ⟨w2, hw2⟩ : ∃ u, w3 = u := ⟨_, rfl⟩
          rw [hw2] at HBd ⊢
          clear hw2
          go_wp2_with fail
          refine (rright_of x2 17 17 rfl (by decide) (by decide) _).mono ?_
          rintro e w3 ⟨rfl, nk, rfl⟩
          have HBd2 := Lib.hid (below_drawN HBd.out nk)
          obtain ⟨w3, hw3⟩ : ∃ u, w2.drewN nk = u := ⟨_, rfl⟩
          rw [hw3] at HBd2 ⊢
          clear hw3 HBd
          have HBd := HBd2
          clear HBd2
          obtain ⟨w2, hw2⟩ : ∃ u, w3 = u := ⟨_, rfl⟩
          rw [hw2] at HBd ⊢
          clear hw2
          go_wp2_with fail
          refine (rright_of x2 19 19 rfl (by decide) (by decide) _).mono ?_
          rintro e w3 ⟨rfl, nk, rfl⟩
          have HBd2 := Lib.hid (below_drawN HBd.out nk)
          obtain ⟨w3, hw3⟩ : ∃ u, w2.drewN nk = u := ⟨_, rfl⟩
          rw [hw3] at HBd2 ⊢
          clear hw3 HBd
          have HBd := HBd2
          clear HBd2
          obtain ⟨w2, hw2⟩ : ∃ u, w3 = u := ⟨_, rfl⟩
          rw [hw2] at HBd ⊢
          clear hw2
          obtain ⟨r7, hr7⟩ : ∃ r, rotr x15 7 = r := ⟨_, rfl⟩
          obtain ⟨r18, hr18⟩ : ∃ r, rotr x15 18 = r := ⟨_, rfl⟩
          obtain ⟨r17, hr17⟩ : ∃ r, rotr x2 17 = r := ⟨_, rfl⟩
          obtain ⟨r19, hr19⟩ : ∃ r, rotr x2 19 = r := ⟨_, rfl⟩
          rw [hr7, hr18, hr17, hr19]
          obtain ⟨s0, hs0⟩ : ∃ r, bits .xor .u32 (bits .xor .u32 r7 r18) (x15 / 8) = r := ⟨_, rfl⟩
          obtain ⟨s1, hs1⟩ : ∃ r, bits .xor .u32 (bits .xor .u32 r17 r19) (x2 / 1024) = r := ⟨_, rfl⟩
          have ES0 : Hid (sgA x15 = s0) := Lib.hid (by rw [sgA, hr7, hr18, hs0])
          have ES1 : Hid (sgB x2 = s1) := Lib.hid (by rw [sgB, hr17, hr19, hs1])
          clear hr7 hr18 hr17 hr19
          go_wp2
          clear hs0 hs1
          obtain ⟨V, hV⟩ : ∃ V, IntKind.u32.wrap (IntKind.u32.wrap (IntKind.u32.wrap (x16 + s0) + x7) + s1) = V := ⟨_, rfl⟩
          have HV := Lib.hid hV
          have HN : Hid (wext (t + 1 - 16) (wfirst blk 16) = L ++ [V]) := Lib.hid (by
            rw [HNX.out, ES0.out, ES1.out, ← hV]
            rfl)
          have HO4 := Lib.hid ((HO.out.keep HBd.out))
          have HB4 := Lib.hid (below_ext HBu.out HBd.out)
          have HS4 : Hid (w2.cell? ⟨g, t - 16, none⟩ = some (.int .u32 x16) ∧ w2.cell? ⟨g, t - 7, none⟩ = some (.int .u32 x7)) := Lib.hid ⟨cell_below H16.out HBd.out, cell_below H7.out HBd.out⟩
          have q16 : IntKind.i64.wrap ((t : Int) - 16) = (t : Int) - 16 := IntWalk.i64_in _ (by omega)
          have q7 : IntKind.i64.wrap ((t : Int) - 7) = (t : Int) - 7 := IntWalk.i64_in _ (by omega)
          have k16 : (16 : Int) ≤ (t : Int) := by omega
          have k7 : (7 : Int) ≤ (t : Int) := by omega
          have l16 : (t : Int) - 16 < (t : Int) := by omega
          have l7 : (t : Int) - 7 < (t : Int) := by omega
          clear hV HO HBu H16 H7 HNX ES0 ES1
          refine wp_region_T (S := fun w' => w'.cell? ⟨g, t - 16, none⟩ = some (.int .u32 x16) ∧ w'.cell? ⟨g, t - 7, none⟩ = some (.int .u32 x7)) (E := [17, 18]) (by kernel_rfl) (⟨cell_below HS4.out.1 (Below.refl _ _).drew, cell_below HS4.out.2 (Below.refl _ _).drew⟩) (fun hHeld => ?_)
          refine tkV 0 ?_
          try simp only [qq1, qq2, qq3, Act.put, qq4, qq5, qq6]
          refine tkV 1 ?_
          try simp only [qq1, qq2, qq3, Act.put, qq4, qq5, qq6]
          refine tkV 2 ?_
          try simp only [qq1, qq2, qq3, Act.put, qq4, qq5, qq6]
          refine tkV 3 ?_
          try simp only [qq1, qq2, qq3, Act.put, qq4, qq5, qq6]
          refine tkV 4 ?_
          try simp only [qq1, qq2, qq3, Act.put, qq4, qq5, qq6]
          refine tkV 5 ?_
          try simp only [qq1, qq2, qq3, Act.put, qq4, qq5, qq6]
          refine tkV 6 ?_
          try simp only [qq1, qq2, qq3, Act.put, qq4, qq5, qq6]
          refine tkV 7 ?_
          try simp only [qq1, qq2, qq3, Act.put, qq4, qq5, qq6]
          refine tkV 8 ?_
          try simp only [qq1, qq2, qq3, Act.put, qq4, qq5, qq6]
          refine tkV 9 ?_
          try simp only [qq1, qq2, qq3, Act.put, qq4, qq5, qq6]
          refine tkV 10 ?_
          try simp only [qq1, qq2, qq3, Act.put, qq4, qq5, qq6]
          refine tkV 11 ?_
          try simp only [qq1, qq2, qq3, Act.put, qq4, qq5, qq6]
          refine tkV 12 ?_
          try simp only [qq1, qq2, qq3, Act.put, qq4, qq5, qq6]
          refine tkV 13 ?_
          try simp only [qq1, qq2, qq3, Act.put, qq4, qq5, qq6]
          refine tkV 14 ?_
          try simp only [qq1, qq2, qq3, Act.put, qq4, qq5, qq6]
          refine tkV 15 ?_
          try simp only [qq1, qq2, qq3, Act.put, qq4, qq5, qq6]
          refine wpT_one (i := 16) (by kernel_rfl) rfl (fun K hK => ?_)
          go_simp
          refine hK.out _ _ ?_ (fun hHeld => ?_)
          · skip
            rw [HV.out]
            exact ⟨cell_below HS4.out.1 (below_box0 _ _).drew, cell_below HS4.out.2 (below_box0 _ _).drew⟩
          clear hK K
          try simp only [qq1, qq2, qq3, Act.put, qq4, qq5, qq6]
          refine wpT_pass (i := 17) (by kernel_rfl) (by simp) rfl (fun K hK => ?_)
          try rw [HV.out]
          have hownW := (HO4.out.keep ((below_box0 w2 (.cells #[.int .u32 V] 104)).drew)).row HLN.out
          have hbs := HB4.out.size
          refine step_append_lies _ (by rfl) _ _ _ (by rfl) (w.heap.size) 104 i0 _ 1 4 Tryd.underlying105 hi hz0 hz1 hz2 rfl (by omega) (.slice (some ⟨g, 0, none⟩) t cp) t (L.map (.int .u32)) (by rfl) hownW ⟨w2.heap.size, 0, none⟩ 1 1 [.int .u32 V] (by rfl) (by rfl) (World.news_of_block (cs := #[.int .u32 V]) (t := 104) (fr := (0, 0)) (heap_alloc_new w2 _)) (by simp [Value.oneCell']) (by omega) (by unfold maxLen; omega) (by omega) (by simp; omega) (w2.heap.size + 1) (by simp) ?_
          intro g5 cap5 w5 hown5 hgrow5 hat5 hlt5
          refine hK.out _ _ ?_
          clear hK K
          try simp only [qq1, qq2, qq3, Act.put, qq4, qq5, qq6]
          refine wpT_pass (i := 18) (by kernel_rfl) (by simp) rfl (fun K hK => ?_)
          go_simp
          refine hK.out _ _ ?_
          clear hK K
          try simp only [qq1, qq2, qq3, Act.put, qq4, qq5, qq6]
          refine wpT_done (by kernel_rfl) ?_ _
          have HO5 : Hid (OwnK .u32 104 w5 w.heap.size (.slice (some ⟨g5, 0, none⟩) (t + 1) cap5) (wext (t + 1 - 16) (wfirst blk 16))) := Lib.hid (by
            rw [HN.out]
            exact OwnK.app HLN.out.symm rfl hown5)
          have HB5 : Hid (Below w.heap.size w w5) := Lib.hid (Below.grown (below_ext HB4.out (below_box0 _ _).drew) hgrow5 (by have := HB4.out.size; simp; omega) (fun j hj => (World.ownsRow.lt hownW j hj).1))
          clear hown5 hgrow5 hownW HO4 HN hat5 hlt5 HS4
          go_wp2
          go_roundw
          case rel => exact ⟨t + 1, g5, cap5, by omega, by omega, by go_num, rfl, HO5, HB5⟩
          case measure => simp [intOf]; omega
        · have HOf : Hid (OwnK .u32 104 wr w.heap.size (.slice (some ⟨g, 0, none⟩) t cp) (schedL blk)) := Lib.hid (by
            have h := HO.out
            rwa [show t - 16 = 48 by omega, show wext 48 (wfirst blk 16) = schedL blk from rfl] at h)
          clear HO
          go_wp2
          go_ret
          exact ⟨_, rfl, HOf.out, HBu.out⟩
theorem Sk.set_ne {K : IntKind} {w : World} {a j : Nat} {A : Option Addr} {l : List Int} {v : Value} (h : Sk K w A l) (hne : ∀ b o, A = some ⟨b, o, none⟩ → b ≠ a) : Sk K (w.setCell ⟨a, j, none⟩ v) A l := fun i hi => by
  obtain ⟨b, o, e, hc⟩ := h i hi
  refine ⟨b, o, e, ?_⟩
  rw [World.cell?_setCell_other _ _ _ _ (fun e2 => hne b o e (by cases e2; rfl))]
  exact hc
theorem out_get2 (s : St) (i : Nat) (hi : i < 32) : (outL s).getD i 0 = s.list.getD (i / 4) 0 / 2 ^ (24 - 8 * (i % 4)) % 256 := by
  have h := out_get s (i / 4) (by omega) (i % 4) (by omega)
  rwa [show 4 * (i / 4) + i % 4 = i by omega] at h
theorem sbA_eq (e : Int) : bits .xor .u32 (bits .xor .u32 (rotr e 2) (rotr e 13)) (rotr e 22) = sbA e := rfl
theorem maA_eq (a b c : Int) : bits .xor .u32 (bits .xor .u32 (bits .and .u32 a b) (bits .and .u32 a c)) (bits .and .u32 b c) = maA a b c := rfl
theorem ry_eq (a b c : Int) : (sbA a + maA a b c) % 4294967296 = ryy a b c := rfl
set_option maxHeartbeats 6400000 in
theorem rsum_any (b o c : Nat) (l : List Int) (n : Nat) (hn : Hid (l.length = n)) (hn0 : 0 < n) (hbig : n ≤ 1000000) (hby : Hid (bytesB l = true)) (w : World) (hs : Hid (Sk .u8 w (some ⟨b, o, none⟩) l)) :
    Calls Tryd.prog 60 #[.slice (some ⟨b, o, none⟩) n c] w fun e w' => e = .returned (.agg (arr .u8 (sha l))) ∧ Below w.heap.size w w' := by
  obtain ⟨i0, hi, hz0, hz1, hz2⟩ := info_parts u32Info
  obtain ⟨W, hW⟩ : ∃ W, w.alloc (.cells #[.int .u8 0, .int .u8 0, .int .u8 0, .int .u8 0, .int .u8 0, .int .u8 0, .int .u8 0, .int .u8 0, .int .u8 0, .int .u8 0, .int .u8 0, .int .u8 0, .int .u8 0, .int .u8 0, .int .u8 0, .int .u8 0, .int .u8 0, .int .u8 0, .int .u8 0, .int .u8 0, .int .u8 0, .int .u8 0, .int .u8 0, .int .u8 0, .int .u8 0, .int .u8 0, .int .u8 0, .int .u8 0, .int .u8 0, .int .u8 0, .int .u8 0, .int .u8 0] 42) = W := ⟨_, rfl⟩
  have HBX : Hid (Below w.heap.size w W) := Lib.hid (by rw [← hW]; exact below_box0 _ _)
  have HR0 : Hid (Blk .u8 42 W w.heap.size (zer 32)) := Lib.hid (by
    rw [← hW, zarrh]
    exact Blk.new _ _)
  have HSZ : Hid (W.heap.size = w.heap.size + 1) := Lib.hid (by rw [← hW]; simp)
  obtain ⟨W1, hW1⟩ : ∃ u, W.alloc (.cells #[.int .u32 1779033703, .int .u32 3144134277, .int .u32 1013904242, .int .u32 2773480762, .int .u32 1359893119, .int .u32 2600822924, .int .u32 528734635, .int .u32 1541459225] 104) = u := ⟨_, rfl⟩
  have HB1 : Hid (Below W.heap.size W W1) := Lib.hid (by rw [← hW1]; exact below_box0 _ _)
  have HH1 : Hid (Blk .u32 104 W1 W.heap.size st0.list) := Lib.hid (by
    rw [← hW1]
    exact Blk.new W st0.list)
  have HSZ1 : Hid (W1.heap.size = W.heap.size + 1) := Lib.hid (by rw [← hW1]; simp)
  have HS := Lib.hid ((hs.out.below HBX.out).below HB1.out)
  have HW := Lib.hid hW
  have HW1 := Lib.hid hW1
  clear hW hW1 hs
  go_enter Tryd.func60, Tryd.ntmps60
  go_wp2_with fail
  rw [HW.out, HW1.out]
  refine (rconst_any _).mono ?_
  rintro e w2 ⟨rfl, hw2⟩
  have HB2 : Hid (Below W1.heap.size W1 w2) := Lib.hid (by rw [← hw2]; exact below_box0 _ _)
  have HK2 : Hid (Blk .u32 104 w2 W1.heap.size KL) := Lib.hid (by rw [← hw2]; exact Blk.new _ _)
  have HSZ2 : Hid (w2.heap.size = W1.heap.size + 1) := Lib.hid (by rw [← hw2]; simp)
  clear hw2 HW HW1
  go_wp2_with fail
  refine (rpadded_any b o c l n hn hn0 hbig _ (Lib.hid (HS.out.below HB2.out))).mono ?_
  rintro e w3 ⟨vp, rfl, hop, hb3⟩
  obtain ⟨M, hM⟩ : ∃ M, (padL l).length = 64 * M := ⟨(padL l).length / 64, by have := padL_mod l; omega⟩
  have hM2 : 64 * M ≤ n + 200 := by rw [padL_len, hn.out, padZ] at hM; omega
  obtain ⟨gp, capp, e4, hgp, hcap, hcapm, hskp⟩ := hop.cells (by rw [padL_len]; omega)
  rw [hM] at e4 hcap
  subst e4
  obtain ⟨P, hP⟩ : ∃ P, padL l = P := ⟨_, rfl⟩
  have hPb : bytesB P = true := by rw [← hP]; exact padL_bytes hby.out
  rw [hP] at hskp hM
  have HP : Kp (padL l = P) := ⟨hP⟩
  have HM := Lib.hid hM
  have HPB := Lib.hid hPb
  have HSP := Lib.hid hskp
  have HB3 := Lib.hid hb3
  have hcm : capp ≤ 9223372036854775807 := by simpa [maxLen] using hcapm
  have HH3 := Lib.hid ((HH1.out.below HB2.out).below HB3.out)
  have HK3 := Lib.hid (HK2.out.below HB3.out)
  have HBW := Lib.hid (below_ext (below_ext HB1.out HB2.out) HB3.out)
  obtain ⟨bk, hbk⟩ : ∃ g, W1.heap.size = g := ⟨_, rfl⟩
  have hbkh : W.heap.size < bk := by have := HSZ1.out; omega
  have hgpk : bk < gp := by have := HSZ2.out; omega
  rw [hbk] at HK3 ⊢
  obtain ⟨bh, hbh⟩ : ∃ g, w.heap.size + 1 = g := ⟨_, rfl⟩
  rw [HSZ.out, hbh] at HH3 hbkh
  rw [hbh]
  have HBH : Hid (W.heap.size = bh) := Lib.hid (HSZ.out.trans hbh)
  clear hP hM hPb hskp hb3 hop hcapm hbk hbh HB1 HH1 HB2 HK2 HB3 HS
  go_wp2
  go_loopw [6] (fun i u => ∃ (k : Nat), k ≤ M ∧ i = .int .i64 (64 * (k : Int)) ∧ Hid (Blk .u32 104 u bh (shaSt P k).list) ∧ Hid (Blk .u32 104 u bk KL) ∧ Hid (Sk .u8 u (some ⟨gp, 0, none⟩) P) ∧ Hid (Below W.heap.size W u)) (fun i _ => 64 * M - (intOf i).toNat)
  case atStart => exact ⟨0, by omega, by simp, HH3, HK3, HSP, HBW⟩
  case round =>
    obtain ⟨k, hk, rfl, HH, HK, HSp, HBr⟩ := hrel
    by_cases hkM : k < M
    · obtain ⟨⟨xa, xb, xc, xd, xe, xf, xg, xh⟩, hS⟩ : ∃ T, shaSt P k = T := ⟨_, rfl⟩
      rw [hS] at HH
      have HSS : Kp (shaSt P k = ⟨xa, xb, xc, xd, xe, xf, xg, xh⟩) := ⟨hS⟩
      have HBLK : Hid ((blockOf P k).length = 64) := Lib.hid (blockOf_len (by have := HM.out; omega))
      have HBB : Hid (bytesB (blockOf P k) = true) := Lib.hid (blockOf_bytes HPB.out k)
      have HSb : Hid (Sk .u8 wr (some ⟨gp, 64 * k, none⟩) (blockOf P k)) := Lib.hid (by
        have h := (HSp.out.drop (n := 64 * k)).take (n := 64)
        rwa [Nat.zero_add] at h)
      have c1 : (64 * (k : Int)).toNat = 64 * k := by omega
      have c2 : (64 * (k : Int) + 64).toNat = 64 * k + 64 := by omega
      clear hS
      go_wp2_with fail
      refine (rwords_any gp (64 * k) (capp - 64 * k) (blockOf P k) HBLK HBB _ HSb (by omega)).mono ?_
      rintro e w4 ⟨vw, rfl, how, hb4⟩
      obtain ⟨gw, capw, rfl, hgw, -, -, hskw⟩ := how.cells (by rw [schedL_len]; decide)
      rw [schedL_len]
      obtain ⟨ws, hws⟩ : ∃ l, schedL (blockOf P k) = l := ⟨_, rfl⟩
      have HWL : Hid (ws.length = 64) := Lib.hid (by rw [← hws, schedL_len])
      have HWS : Kp (schedL (blockOf P k) = ws) := ⟨hws⟩
      rw [hws] at hskw
      have HSW := Lib.hid hskw
      have HH4 := Lib.hid (HH.out.below hb4)
      have HK4 := Lib.hid (HK.out.below hb4)
      have HSp4 := Lib.hid (HSp.out.below hb4)
      have HB4 := Lib.hid (below_ext HBr.out hb4)
      have hbz : bh < w4.heap.size := HH4.out.lt
      clear hws hskw how hb4 HH HK HSp HBr HSb HBLK HBB
      have hown : (w4.alloc (.cells #[] 104)).ownsRow w4.heap.size 104 1 (.slice (some ⟨w4.heap.size, 0, none⟩) 0 0) 0 [] := ownK_empty (K := .u32) w4
      go_wp2_with (at_builtin; refine wpList_append_own _ rfl _ _ 105 rfl w4.heap.size 104 i0 (.int .u32 0) 1 4 Tryd.underlying105 hi hz0 hz1 hz2 rfl (by decide) _ _ _ rfl hown ⟨bh, 0, none⟩ 8 8 ((St.mk xa xb xc xd xe xf xg xh).list.map (.int .u32)) rfl rfl ((HH4.out.old (.cells #[] 104)).sk.news) (ints_oneCell .u32 _) (by decide) (by decide) (by simp) ?_; intro v5 w5 hown5 hgrow5 _)
      have HO5 : Hid (OwnK .u32 104 w5 w4.heap.size v5 (St.mk xa xb xc xd xe xf xg xh).list) := Lib.hid (OwnK.app (xs := []) (ys := (St.mk xa xb xc xd xe xf xg xh).list) (m := 8) rfl rfl hown5)
      have HB45 : Hid (Below w4.heap.size w4 w5) := Lib.hid ((below_box0 w4 (.cells #[] 104)).grown hgrow5 (by simp) (fun j hj => by cases hj; exact Nat.le_refl _))
      have HH5 := Lib.hid (HH4.out.keepB hbz HB45.out)
      have HK5 := Lib.hid (HK4.out.below HB45.out)
      have HSp5 := Lib.hid (HSp4.out.below HB45.out)
      have HSW5 := Lib.hid (HSW.out.below HB45.out)
      have HB5 := Lib.hid (below_ext HB4.out HB45.out)
      obtain ⟨g5, cap5, e5, hg5, -, -, hsk5⟩ := HO5.out.cells (show 0 < 8 by decide)
      have e6 : v5 = .slice (some ⟨g5, 0, none⟩) 8 cap5 := e5
      have HSV5 := Lib.hid hsk5
      have hg5h : bh < g5 := by omega
      clear hown hown5 hgrow5 HO5 HH4 HK4 HSp4 HB4 HB45 HSW e5 hsk5
      subst e6
      go_loopw [8, 9] (fun v i u => ∃ (t g cp : Nat) (ya yb yc yd ye yf yg yh : Int), t ≤ 64 ∧ bh < g ∧ i = .int .i64 t ∧ v = .slice (some ⟨g, 0, none⟩) 8 cp ∧ Hid (rnds ws ⟨xa, xb, xc, xd, xe, xf, xg, xh⟩ t = ⟨ya, yb, yc, yd, ye, yf, yg, yh⟩) ∧ Hid (Sk .u32 u (some ⟨g, 0, none⟩) (St.mk ya yb yc yd ye yf yg yh).list) ∧ Hid (Below w5.heap.size w5 u)) (fun _ i _ => 64 - (intOf i).toNat)
      case atStart => exact ⟨0, g5, cap5, xa, xb, xc, xd, xe, xf, xg, xh, by omega, hg5h, rfl, rfl, Lib.hid rfl, HSV5, Lib.hid (Below.refl _ _)⟩
      case round =>
        obtain ⟨t, g, cp, ya, yb, yc, yd, ye, yf, yg, yh, ht, hgh, rfl, rfl, HR, HSV, HBu⟩ := hrel
        by_cases hlt : t < 64
        · have hk0 := (HK5.out.below HBu.out).cell (j := t) (show t < 64 by omega)
          have hk1 := (HSW5.out.below HBu.out).cell (j := t) (by have := HWL.out; omega)
          rw [Nat.zero_add] at hk1
          have hnx : rnds ws ⟨xa, xb, xc, xd, xe, xf, xg, xh⟩ (t + 1) = rnd ⟨ya, yb, yc, yd, ye, yf, yg, yh⟩ (KL.getD t 0) (ws.getD t 0) := by rw [rnds, HR.out]
          obtain ⟨kc, ekc⟩ : ∃ x, KL.getD t 0 = x := ⟨_, rfl⟩
          obtain ⟨wc, ewc⟩ : ∃ x, ws.getD t 0 = x := ⟨_, rfl⟩
          rw [ekc] at hk0 hnx
          rw [ewc] at hk1 hnx
          have HNX := Lib.hid hnx
          have HCV : Hid (wr.cell? ⟨g, 0 + 0, none⟩ = some (.int .u32 ya) ∧ wr.cell? ⟨g, 0 + 1, none⟩ = some (.int .u32 yb) ∧ wr.cell? ⟨g, 0 + 2, none⟩ = some (.int .u32 yc) ∧ wr.cell? ⟨g, 0 + 3, none⟩ = some (.int .u32 yd) ∧ wr.cell? ⟨g, 0 + 4, none⟩ = some (.int .u32 ye) ∧ wr.cell? ⟨g, 0 + 5, none⟩ = some (.int .u32 yf) ∧ wr.cell? ⟨g, 0 + 6, none⟩ = some (.int .u32 yg) ∧ wr.cell? ⟨g, 0 + 7, none⟩ = some (.int .u32 yh)) := Lib.hid ⟨HSV.out.cell (j := 0) (show 0 < 8 by decide), HSV.out.cell (j := 1) (show 1 < 8 by decide), HSV.out.cell (j := 2) (show 2 < 8 by decide), HSV.out.cell (j := 3) (show 3 < 8 by decide), HSV.out.cell (j := 4) (show 4 < 8 by decide), HSV.out.cell (j := 5) (show 5 < 8 by decide), HSV.out.cell (j := 6) (show 6 < 8 by decide), HSV.out.cell (j := 7) (show 7 < 8 by decide)⟩
          obtain ⟨va, vb, vc, vd, ve, vf, vg, vh⟩ := HCV.out
          have q0 : IntKind.i64.wrap (t : Int) = (t : Int) := IntWalk.i64_in _ (by omega)
          have p64 : (t : Int) < 64 := by omega
          clear hnx ekc ewc HSV HCV
          go_wp2_with fail
          go_quiet ((go_at_call 74; exact quiet_d (rright_int _ _ (by decide) (by decide) _)))
          rw [ch_eq, sbE_eq, rx_eq]
          obtain ⟨X, hX⟩ : ∃ X, rxx ye yf yg yh kc wc = X := ⟨_, rfl⟩
          rw [hX]
          have HX := Lib.hid hX
          have HBu2 := Lib.hid (below_drawN HBu.out nq)
          obtain ⟨HV2⟩ : Kp ((wr.drewN nq).cell? ⟨g, 0 + 0, none⟩ = some (.int .u32 ya) ∧ (wr.drewN nq).cell? ⟨g, 0 + 1, none⟩ = some (.int .u32 yb) ∧ (wr.drewN nq).cell? ⟨g, 0 + 2, none⟩ = some (.int .u32 yc) ∧ (wr.drewN nq).cell? ⟨g, 0 + 3, none⟩ = some (.int .u32 yd) ∧ (wr.drewN nq).cell? ⟨g, 0 + 4, none⟩ = some (.int .u32 ye) ∧ (wr.drewN nq).cell? ⟨g, 0 + 5, none⟩ = some (.int .u32 yf) ∧ (wr.drewN nq).cell? ⟨g, 0 + 6, none⟩ = some (.int .u32 yg) ∧ (wr.drewN nq).cell? ⟨g, 0 + 7, none⟩ = some (.int .u32 yh)) := ⟨⟨by simpa using va, by simpa using vb, by simpa using vc, by simpa using vd, by simpa using ve, by simpa using vf, by simpa using vg, by simpa using vh⟩⟩
          obtain ⟨w6, hw6⟩ : ∃ u, wr.drewN nq = u := ⟨_, rfl⟩
          rw [hw6] at HBu2 HV2 ⊢
          clear hX hw6 hk0 hk1 HBu va vb vc vd ve vf vg vh
          obtain ⟨va, vb, vc, vd, ve, vf, vg, vh⟩ := HV2
          go_wp2_with fail
          go_quiet ((go_at_call 74; exact quiet_d (rright_int _ _ (by decide) (by decide) _)))
          rw [sbA_eq, maA_eq, ry_eq]
          obtain ⟨Y, hY⟩ : ∃ Y, ryy ya yb yc = Y := ⟨_, rfl⟩
          rw [hY]
          have HR2 : Hid (rnds ws ⟨xa, xb, xc, xd, xe, xf, xg, xh⟩ (t + 1) = ⟨IntKind.u32.wrap (X + Y), ya, yb, yc, IntKind.u32.wrap (yd + X), ye, yf, yg⟩) := Lib.hid (by
            rw [HNX.out, rnd_eq, HX.out, hY, wrap_u32e, wrap_u32e])
          have HBu3 := Lib.hid (below_drawN HBu2.out nq)
          have HV3 : Kp ((w6.drewN nq).cell? ⟨g, 0 + 0, none⟩ = some (.int .u32 ya) ∧ (w6.drewN nq).cell? ⟨g, 0 + 1, none⟩ = some (.int .u32 yb) ∧ (w6.drewN nq).cell? ⟨g, 0 + 2, none⟩ = some (.int .u32 yc) ∧ (w6.drewN nq).cell? ⟨g, 0 + 3, none⟩ = some (.int .u32 yd) ∧ (w6.drewN nq).cell? ⟨g, 0 + 4, none⟩ = some (.int .u32 ye) ∧ (w6.drewN nq).cell? ⟨g, 0 + 5, none⟩ = some (.int .u32 yf) ∧ (w6.drewN nq).cell? ⟨g, 0 + 6, none⟩ = some (.int .u32 yg)) := ⟨⟨by simpa using va, by simpa using vb, by simpa using vc, by simpa using vd, by simpa using ve, by simpa using vf, by simpa using vg⟩⟩
          obtain ⟨w7, hw7⟩ : ∃ u, w6.drewN nq = u := ⟨_, rfl⟩
          rw [hw7] at HBu3 HV3 ⊢
          clear hY hw7 HBu2 va vb vc vd ve vf vg vh HNX HX
          obtain ⟨X2, hX2⟩ : ∃ z, IntKind.u32.wrap (X + Y) = z := ⟨_, rfl⟩
          obtain ⟨Y2, hY2⟩ : ∃ z, IntKind.u32.wrap (yd + X) = z := ⟨_, rfl⟩
          rw [hX2, hY2] at HR2
          have HX2 := Lib.hid hX2
          have HY2 := Lib.hid hY2
          clear hX2 hY2
          go_wp2_with fail
          refine wp_region_T (S := fun w' => w'.cell? ⟨g, 0 + 0, none⟩ = some (.int .u32 ya) ∧ w'.cell? ⟨g, 0 + 1, none⟩ = some (.int .u32 yb) ∧ w'.cell? ⟨g, 0 + 2, none⟩ = some (.int .u32 yc) ∧ w'.cell? ⟨g, 0 + 3, none⟩ = some (.int .u32 yd) ∧ w'.cell? ⟨g, 0 + 4, none⟩ = some (.int .u32 ye) ∧ w'.cell? ⟨g, 0 + 5, none⟩ = some (.int .u32 yf) ∧ w'.cell? ⟨g, 0 + 6, none⟩ = some (.int .u32 yg)) (E := []) (by kernel_rfl) (⟨cell_below (HV3.out.1) (Below.refl _ _).drew, cell_below (HV3.out.2.1) (Below.refl _ _).drew, cell_below (HV3.out.2.2.1) (Below.refl _ _).drew, cell_below (HV3.out.2.2.2.1) (Below.refl _ _).drew, cell_below (HV3.out.2.2.2.2.1) (Below.refl _ _).drew, cell_below (HV3.out.2.2.2.2.2.1) (Below.refl _ _).drew, cell_below (HV3.out.2.2.2.2.2.2) (Below.refl _ _).drew⟩) (fun hHeld => ?_)
          refine tkV 0 ?_
          try simp only [qq1, qq2, qq3, Act.put, qq4, qq5, qq6]
          refine tkV 1 ?_
          try simp only [qq1, qq2, qq3, Act.put, qq4, qq5, qq6]
          refine tkV 2 ?_
          try simp only [qq1, qq2, qq3, Act.put, qq4, qq5, qq6]
          refine tkV 3 ?_
          try simp only [qq1, qq2, qq3, Act.put, qq4, qq5, qq6]
          refine tkV 4 ?_
          try simp only [qq1, qq2, qq3, Act.put, qq4, qq5, qq6]
          refine tkV 5 ?_
          try simp only [qq1, qq2, qq3, Act.put, qq4, qq5, qq6]
          refine tkV 6 ?_
          try simp only [qq1, qq2, qq3, Act.put, qq4, qq5, qq6]
          refine tkV 7 ?_
          try simp only [qq1, qq2, qq3, Act.put, qq4, qq5, qq6]
          refine tkV 8 ?_
          try simp only [qq1, qq2, qq3, Act.put, qq4, qq5, qq6]
          refine tkV 9 ?_
          try simp only [qq1, qq2, qq3, Act.put, qq4, qq5, qq6]
          refine tkV 10 ?_
          try simp only [qq1, qq2, qq3, Act.put, qq4, qq5, qq6]
          refine tkV 11 ?_
          try simp only [qq1, qq2, qq3, Act.put, qq4, qq5, qq6]
          refine tkV 12 ?_
          try simp only [qq1, qq2, qq3, Act.put, qq4, qq5, qq6]
          refine tkV 13 ?_
          try simp only [qq1, qq2, qq3, Act.put, qq4, qq5, qq6]
          refine tkV 14 ?_
          try simp only [qq1, qq2, qq3, Act.put, qq4, qq5, qq6]
          refine tkV 15 ?_
          try simp only [qq1, qq2, qq3, Act.put, qq4, qq5, qq6]
          refine tkV 16 ?_
          try simp only [qq1, qq2, qq3, Act.put, qq4, qq5, qq6]
          refine tkV 17 ?_
          try simp only [qq1, qq2, qq3, Act.put, qq4, qq5, qq6]
          refine tkV 18 ?_
          try simp only [qq1, qq2, qq3, Act.put, qq4, qq5, qq6]
          refine tkV 19 ?_
          try simp only [qq1, qq2, qq3, Act.put, qq4, qq5, qq6]
          refine tkV 20 ?_
          try simp only [qq1, qq2, qq3, Act.put, qq4, qq5, qq6]
          refine tkV 21 ?_
          try simp only [qq1, qq2, qq3, Act.put, qq4, qq5, qq6]
          refine tkV 22 ?_
          try simp only [qq1, qq2, qq3, Act.put, qq4, qq5, qq6]
          refine tkV 23 ?_
          try simp only [qq1, qq2, qq3, Act.put, qq4, qq5, qq6]
          refine tkV 24 ?_
          try simp only [qq1, qq2, qq3, Act.put, qq4, qq5, qq6]
          refine tkV 25 ?_
          try simp only [qq1, qq2, qq3, Act.put, qq4, qq5, qq6]
          refine wpT_one (i := 26) (by kernel_rfl) rfl (fun K hK => ?_)
          go_simp
          refine hK.out _ _ ?_ (fun hHeld => ?_)
          · skip
            rw [HX2.out, HY2.out]
            exact ⟨cell_below (HV3.out.1) (below_box0 _ _).drew, cell_below (HV3.out.2.1) (below_box0 _ _).drew, cell_below (HV3.out.2.2.1) (below_box0 _ _).drew, cell_below (HV3.out.2.2.2.1) (below_box0 _ _).drew, cell_below (HV3.out.2.2.2.2.1) (below_box0 _ _).drew, cell_below (HV3.out.2.2.2.2.2.1) (below_box0 _ _).drew, cell_below (HV3.out.2.2.2.2.2.2) (below_box0 _ _).drew⟩
          clear hK K
          try simp only [qq1, qq2, qq3, Act.put, qq4, qq5, qq6]
          refine tkV 27 ?_
          try simp only [qq1, qq2, qq3, Act.put, qq4, qq5, qq6]
          refine wpT_done (by kernel_rfl) ?_ _
          rw [HX2.out, HY2.out]
          have HSV4 : Hid (Sk .u32 (w7.alloc (.cells #[.int .u32 X2, .int .u32 ya, .int .u32 yb, .int .u32 yc, .int .u32 Y2, .int .u32 ye, .int .u32 yf, .int .u32 yg] 104)).drew (some ⟨w7.heap.size, 0, none⟩) (St.mk X2 ya yb yc Y2 ye yf yg).list) := Lib.hid ((Blk.new w7 (St.mk X2 ya yb yc Y2 ye yf yg).list).sk.below (Below.refl _ _).drew)
          have HBu4 : Hid (Below w5.heap.size w5 (w7.alloc (.cells #[.int .u32 X2, .int .u32 ya, .int .u32 yb, .int .u32 yc, .int .u32 Y2, .int .u32 ye, .int .u32 yf, .int .u32 yg] 104)).drew) := Lib.hid (below_ext HBu3.out (below_box0 _ _).drew)
          have hg7 : bh < w7.heap.size := by have := HBu3.out.size; have := HH5.out.lt; omega
          clear HV3 HX2 HY2 HBu3 hHeld
          go_wp2_with fail
          go_roundw
          case rel => exact ⟨t + 1, w7.heap.size, 8, X2, ya, yb, yc, Y2, ye, yf, yg, by omega, hg7, by go_num, rfl, HR2, HSV4, HBu4⟩
          case measure => simp [intOf]; omega
        · have HRF : Kp (rnds (schedL (blockOf P k)) ⟨xa, xb, xc, xd, xe, xf, xg, xh⟩ 64 = ⟨ya, yb, yc, yd, ye, yf, yg, yh⟩) := ⟨by
            have h := HR.out
            rwa [show t = 64 by omega, ← HWS.out] at h⟩
          have HT : Kp (shaSt P (k + 1) = addS ⟨xa, xb, xc, xd, xe, xf, xg, xh⟩ ⟨ya, yb, yc, yd, ye, yf, yg, yh⟩) := ⟨by rw [shaSt, HSS.out, mixS, HRF.out]⟩
          have HH6 : Hid (Blk .u32 104 wr bh (addL (St.mk xa xb xc xd xe xf xg xh).list (St.mk ya yb yc yd ye yf yg yh).list 0)) := Lib.hid (by
            rw [addL_zero rfl]
            exact HH5.out.below HBu.out)
          have HK6 := Lib.hid (HK5.out.below HBu.out)
          have HSp6 := Lib.hid (HSp5.out.below HBu.out)
          have HB6 := Lib.hid (below_ext HB5.out HBu.out)
          clear HR HBu HH5 HK5 HSp5 HB5 HSW5 HWS HWL HRF HSS
          go_wp2_with fail
          go_loopw [12] (fun i u => ∃ m : Nat, m ≤ 8 ∧ i = .int .i64 m ∧ Hid (Blk .u32 104 u bh (addL (St.mk xa xb xc xd xe xf xg xh).list (St.mk ya yb yc yd ye yf yg yh).list m)) ∧ Hid (Blk .u32 104 u bk KL) ∧ Hid (Sk .u8 u (some ⟨gp, 0, none⟩) P) ∧ Hid (Sk .u32 u (some ⟨g, 0, none⟩) (St.mk ya yb yc yd ye yf yg yh).list) ∧ Hid (Below W.heap.size W u)) (fun i _ => 8 - (intOf i).toNat)
          case atStart => exact ⟨0, by omega, rfl, HH6, HK6, HSp6, HSV, HB6⟩
          case round =>
            obtain ⟨m, hm, rfl, HHm, HKm, HSpm, HSVm, HBm⟩ := hrel
            by_cases hlm : m < 8
            · have hc := HHm.out.cell (j := m) (by rw [addL_len]; exact hlm)
              have hf := HHm.out.free m
              rw [addL_get hlm] at hc
              have hv := HSVm.out.cell (j := m) (show m < 8 from hlm)
              rw [Nat.zero_add] at hv
              obtain ⟨s0, e0⟩ : ∃ x, (St.mk xa xb xc xd xe xf xg xh).list.getD m 0 = x := ⟨_, rfl⟩
              obtain ⟨v0, e1⟩ : ∃ x, (St.mk ya yb yc yd ye yf yg yh).list.getD m 0 = x := ⟨_, rfl⟩
              have hst := addL_set (s := (St.mk xa xb xc xd xe xf xg xh).list) (v := (St.mk ya yb yc yd ye yf yg yh).list) hlm
              rw [e0, e1, add32, wrap_u32e] at hst
              rw [e0] at hc
              rw [e1] at hv
              obtain ⟨V, hV⟩ : ∃ V, (s0 + v0) % 4294967296 = V := ⟨_, rfl⟩
              have HV := Lib.hid hV
              rw [hV] at hst
              have HH7 : Hid (Blk .u32 104 (wr.setCell ⟨bh, m, none⟩ (.int .u32 V)).drew bh (addL (St.mk xa xb xc xd xe xf xg xh).list (St.mk ya yb yc yd ye yf yg yh).list (m + 1))) := Lib.hid (by
                rw [← hst]
                exact (HHm.out.set).below (Below.refl _ _).drew)
              have HK7 : Hid (Blk .u32 104 (wr.setCell ⟨bh, m, none⟩ (.int .u32 V)).drew bk KL) := Lib.hid ((HKm.out.set_ne (by omega)).below (Below.refl _ _).drew)
              have HSp7 : Hid (Sk .u8 (wr.setCell ⟨bh, m, none⟩ (.int .u32 V)).drew (some ⟨gp, 0, none⟩) P) := Lib.hid ((HSpm.out.set_ne (fun b o e => by cases e; omega)).below (Below.refl _ _).drew)
              have HSV7 : Hid (Sk .u32 (wr.setCell ⟨bh, m, none⟩ (.int .u32 V)).drew (some ⟨g, 0, none⟩) (St.mk ya yb yc yd ye yf yg yh).list) := Lib.hid ((HSVm.out.set_ne (fun b o e => by cases e; omega)).below (Below.refl _ _).drew)
              have HB7 : Hid (Below W.heap.size W (wr.setCell ⟨bh, m, none⟩ (.int .u32 V)).drew) := Lib.hid (HBm.out.setCell (by have := HBH.out; simp; omega) _).drew
              clear hst e0 e1 HHm HKm HSpm HSVm HBm hV
              go_wp2
              go_region
              rw [HV.out]
              clear hc hf hv
              go_wp2
              go_roundw
              case rel => exact ⟨m + 1, by omega, by go_num, HH7, HK7, HSp7, HSV7, HB7⟩
              case measure => simp [intOf]; omega
            · have HH8 : Hid (Blk .u32 104 wr bh (shaSt P (k + 1)).list) := Lib.hid (by
                have h := HHm.out
                rwa [show m = 8 by omega, addL_all, ← HT.out] at h)
              clear HHm HSVm HT
              go_wp2_with fail
              go_roundw
              case rel => exact ⟨k + 1, by omega, by first | rfl | (congr 1; omega), HH8, HKm, HSpm, HBm⟩
              case measure => simp [intOf]; omega
    · obtain ⟨T, hT⟩ : ∃ T, shaSt P k = T := ⟨_, rfl⟩
      have HSHA : Kp (sha l = outL T) := ⟨by
        rw [sha, HP.out, HM.out, show 64 * M / 64 = k by omega, hT]⟩
      rw [hT] at HH
      have hout := outL_len T
      have hbr := HBr.out.size
      have HHl : bh < wr.heap.size := HH.out.lt
      have HW8 : Hid (Blk .u8 42 (wr.alloc (.cells #[.int .u8 0, .int .u8 0, .int .u8 0, .int .u8 0, .int .u8 0, .int .u8 0, .int .u8 0, .int .u8 0, .int .u8 0, .int .u8 0, .int .u8 0, .int .u8 0, .int .u8 0, .int .u8 0, .int .u8 0, .int .u8 0, .int .u8 0, .int .u8 0, .int .u8 0, .int .u8 0, .int .u8 0, .int .u8 0, .int .u8 0, .int .u8 0, .int .u8 0, .int .u8 0, .int .u8 0, .int .u8 0, .int .u8 0, .int .u8 0, .int .u8 0, .int .u8 0] 42)) wr.heap.size (pz 32 ((outL T).take 0))) := Lib.hid (by
        rw [zarrh]
        exact Blk.new _ _)
      have HB8 : Hid (Below W.heap.size W (wr.alloc (.cells #[.int .u8 0, .int .u8 0, .int .u8 0, .int .u8 0, .int .u8 0, .int .u8 0, .int .u8 0, .int .u8 0, .int .u8 0, .int .u8 0, .int .u8 0, .int .u8 0, .int .u8 0, .int .u8 0, .int .u8 0, .int .u8 0, .int .u8 0, .int .u8 0, .int .u8 0, .int .u8 0, .int .u8 0, .int .u8 0, .int .u8 0, .int .u8 0, .int .u8 0, .int .u8 0, .int .u8 0, .int .u8 0, .int .u8 0, .int .u8 0, .int .u8 0, .int .u8 0] 42))) := Lib.hid (HBr.out.alloc HBr.out.size _)
      have HH8 := Lib.hid (HH.out.old (.cells #[.int .u8 0, .int .u8 0, .int .u8 0, .int .u8 0, .int .u8 0, .int .u8 0, .int .u8 0, .int .u8 0, .int .u8 0, .int .u8 0, .int .u8 0, .int .u8 0, .int .u8 0, .int .u8 0, .int .u8 0, .int .u8 0, .int .u8 0, .int .u8 0, .int .u8 0, .int .u8 0, .int .u8 0, .int .u8 0, .int .u8 0, .int .u8 0, .int .u8 0, .int .u8 0, .int .u8 0, .int .u8 0, .int .u8 0, .int .u8 0, .int .u8 0, .int .u8 0] 42))
      obtain ⟨WN, hWN⟩ : ∃ u, wr.alloc (.cells #[.int .u8 0, .int .u8 0, .int .u8 0, .int .u8 0, .int .u8 0, .int .u8 0, .int .u8 0, .int .u8 0, .int .u8 0, .int .u8 0, .int .u8 0, .int .u8 0, .int .u8 0, .int .u8 0, .int .u8 0, .int .u8 0, .int .u8 0, .int .u8 0, .int .u8 0, .int .u8 0, .int .u8 0, .int .u8 0, .int .u8 0, .int .u8 0, .int .u8 0, .int .u8 0, .int .u8 0, .int .u8 0, .int .u8 0, .int .u8 0, .int .u8 0, .int .u8 0] 42) = u := ⟨_, rfl⟩
      obtain ⟨B5, hB5⟩ : ∃ x, wr.heap.size = x := ⟨_, rfl⟩
      have HBN : Hid (B5 < WN.heap.size) := Lib.hid (by rw [← hWN, ← hB5]; simp)
      rw [hWN] at HW8 HB8 HH8
      rw [hB5] at HW8 hbr HHl
      have HWN := Lib.hid hWN
      have HB5 := Lib.hid hB5
      have hgrd : ¬ (64 * (k : Int) < 64 * (M : Int)) := by omega
      clear hT HH HSp HK HBr hWN hB5 hout
      go_wp2_with fail
      rw [HWN.out, HB5.out]
      go_loopw [14] (fun i u => ∃ m : Nat, m ≤ 32 ∧ i = .int .i64 m ∧ Hid (Blk .u8 42 u B5 (pz 32 ((outL T).take m))) ∧ Hid (Below B5 WN u)) (fun i _ => 32 - (intOf i).toNat)
      case atStart => exact ⟨0, by omega, rfl, HW8, Lib.hid (Below.refl _ _)⟩
      case round =>
        obtain ⟨m, hm, rfl, HBm, HBv⟩ := hrel
        by_cases hlm : m < 32
        · have hol : (outL T).length = 32 := outL_len _
          have hc := HBm.out.cell (j := m) (by rw [pz_len (by rw [List.length_take, hol]; omega)]; omega)
          have hf := HBm.out.free m
          have hst := pz_step (N := 32) (k := m) (l := outL T) (by rw [hol]; omega) (by omega)
          have hh := (HH8.out.keepB HHl HBv.out).cell (j := m / 4) (show m / 4 < 8 by omega)
          rw [out_get2 _ m hlm] at hst
          obtain ⟨v0, e1⟩ : ∃ x, T.list.getD (m / 4) 0 = x := ⟨_, rfl⟩
          rw [e1] at hst hh
          obtain ⟨q, hq⟩ : ∃ q, v0 / 2 ^ (24 - 8 * (m % 4)) = q := ⟨_, rfl⟩
          rw [hq] at hst
          have j0 : (0 : Int) ≤ 24 - 8 * ((m : Int) % 4) := by omega
          have j1 : (24 - 8 * ((m : Int) % 4)).toNat = 24 - 8 * (m % 4) := by omega
          have j2 : ((m : Int) / 4).toNat = m / 4 := by omega
          have j3 : (0 : Int) ≤ (m : Int) / 4 := by omega
          have j4 : (m : Int) / 4 < 8 := by omega
          have HQ := Lib.hid hq
          obtain ⟨WV, hWV⟩ : ∃ u, wr.setCell ⟨B5, m, none⟩ (.int .u8 (q % 256)) = u := ⟨_, rfl⟩
          have HB2 : Hid (Blk .u8 42 WV B5 (pz 32 ((outL T).take (m + 1)))) := Lib.hid (by
            rw [← hWV, ← hst]
            exact HBm.out.set)
          have HBv2 : Hid (Below B5 WN WV) := Lib.hid (by rw [← hWV]; exact HBv.out.setCell (Nat.le_refl _) _)
          have HWV := Lib.hid hWV
          clear hst HBm HBv hol e1 hWV
          go_wp2
          try go_region
          try (rw [HWV.out])
          clear hc hf hh
          go_wp2
          go_roundw
          case rel => exact ⟨m + 1, by omega, by go_num, HB2, HBv2⟩
          case measure => simp [intOf]; omega
        · have HBf : Hid (Blk .u8 42 wr B5 (sha l)) := Lib.hid (by
            have h := HBm.out
            rwa [show m = (outL T).length by rw [outL_len]; omega, List.take_length, pz_full (outL_len _), ← HSHA.out] at h)
          have HBW := Lib.hid (HB8.out.trans (HBv.out.mono hbr))
          have HRf : Hid (Blk .u8 42 wr w.heap.size (zer 32)) := Lib.hid (HR0.out.keepB (by have := HSZ.out; omega) HBW.out)
          have HBF : Hid (Below w.heap.size w (wr.setRow w.heap.size (arr .u8 (sha l)))) := Lib.hid (below_setRow' (below_ext HBX.out HBW.out) (Nat.le_refl _))
          have HRR : Hid (Blk .u8 42 (wr.setRow w.heap.size (arr .u8 (sha l))) w.heap.size (sha l)) := Lib.hid HRf.out.setRow
          clear HBm HBv
          go_wp2_with (first
            | ((with_reducible show wpList _ _ _ (⟨some 181, _, _, _, _, _⟩ :: _) _ _); refine wpList_load_row rfl 42 _ rfl B5 rfl _ _ _ _ HBf.out Tryd.underlying42 rfl (hash_info (sha_len l)) ?_)
            | ((with_reducible show wpList _ _ _ (⟨none, _, _, _, _, _⟩ :: _) _ _); refine wpList_store_row rfl 42 _ _ rfl w.heap.size (arr .u8 (sha l)) rfl rfl _ _ HRf.out (hash_info (sha_len l)) (arrs_sz (l := zer 32) rfl (sha_len l)) (arr_one _) ?_))
          exact bodyPost_ret (v := .agg (arr .u8 (sha l))) (results_cell_row (p := 2) (ty := 42) rfl _ _ w.heap.size _ _ _ _ rfl HRR.out Tryd.underlying42 rfl (hash_info (sha_len l))) rfl ⟨rfl, HBF.out⟩
set_option maxHeartbeats 3200000 in
theorem rjoin_nil (h : List Int) (hh : Hid (h.length = 32)) (w : World) :
    Calls Tryd.prog 61 #[.slice none 0 0, .agg (arr .u8 h)] w (KOut .u8 5 h w) := by
  obtain ⟨i0, hi, hz0, hz1, hz2⟩ := info_parts byteInfo
  obtain ⟨W, hW⟩ : ∃ W, w.alloc (.cells (arr .u8 h) 42) = W := ⟨_, rfl⟩
  have HBX : Hid (Below w.heap.size w W) := Lib.hid (by rw [← hW]; exact below_box0 _ _)
  have HR0 : Hid (Blk .u8 42 W w.heap.size h) := Lib.hid (by rw [← hW]; exact Blk.new _ _)
  have HSZ : Hid (W.heap.size = w.heap.size + 1) := Lib.hid (by rw [← hW]; simp)
  have HW := Lib.hid hW
  clear hW
  go_enter Tryd.func61, Tryd.ntmps61
  have hown : (W.alloc (.cells #[] 5)).ownsRow W.heap.size 5 1 (.slice (some ⟨W.heap.size, 0, none⟩) 0 0) 0 [] := ownK_empty (K := .u8) W
  go_upto_region 1 with (fail)
  rw [HW.out]
  go_wp2_with (at_builtin; refine wpList_append_own_none rfl _ _ 63 rfl W.heap.size 5 i0 1 Tryd.underlying63 hi _ _ _ rfl hown rfl ?_)
  have HO1 : Hid (OwnK .u8 5 (W.alloc (.cells #[] 5)) W.heap.size (.slice (some ⟨W.heap.size, 0, none⟩) 0 0) []) := Lib.hid (ownK_empty (K := .u8) W)
  have HB1 : Hid (Below W.heap.size W (W.alloc (.cells #[] 5))) := Lib.hid (below_box0 _ _)
  clear hown
  go_loopw [5, 6] (fun v i u => ∃ k : Nat, k ≤ 32 ∧ i = .int .i64 k ∧ Hid (OwnK .u8 5 u W.heap.size v (h.take k)) ∧ Hid (Below W.heap.size W u)) (fun _ i _ => 32 - (intOf i).toNat)
  case atStart => exact ⟨0, by omega, rfl, Lib.hid (by rw [List.take_zero]; exact HO1.out), HB1⟩
  case round =>
    obtain ⟨k, hk, rfl, HO, HBr⟩ := hrel
    by_cases hlt : k < 32
    · have hc := (HR0.out.keepB (by have := HSZ.out; omega) HBr.out).cell (j := k) (by have := hh.out; omega)
      have HTK : Hid (h.take (k + 1) = h.take k ++ [h.getD k 0]) := Lib.hid (take_one (by have := hh.out; omega))
      obtain ⟨x, hx⟩ : ∃ x, h.getD k 0 = x := ⟨_, rfl⟩
      rw [hx] at hc HTK
      have HLN : Hid ((h.take k).length = k) := Lib.hid (by rw [List.length_take, hh.out]; omega)
      have hown := HO.out.row HLN.out
      have hbs := HBr.out.size
      clear hx
      go_wp2_with (at_builtin; refine wpList_append_own _ rfl _ _ 63 rfl W.heap.size 5 i0 (.int .u8 0) 1 1 Tryd.underlying63 hi hz0 hz1 hz2 rfl (by decide) _ _ _ rfl (hown.alloc _) ⟨wr.heap.size, 0, none⟩ 1 1 [.int .u8 x] rfl rfl (cell_one_new _ _ _) (ints_oneCell .u8 [x]) (by unfold maxLen; omega) (by omega) (by simp; omega) ?_; intro v2 w2 hown2 hgrow2 _)
      have HO3 : Hid (OwnK .u8 5 w2 W.heap.size v2 (h.take (k + 1))) := Lib.hid (by
        rw [HTK.out]
        exact OwnK.app HLN.out.symm rfl hown2)
      have HBx3 : Hid (Below W.heap.size W w2) := Lib.hid (HO.out.below HBr.out hbs hgrow2)
      clear hown hown2 hgrow2 HO hc
      go_roundw
      case rel => exact ⟨k + 1, by omega, by go_num, HO3, HBx3⟩
      case measure => simp [intOf]; omega
    · have HO3 : Hid (OwnK .u8 5 wr W.heap.size u5 (h)) := Lib.hid (by
        have e := HO.out
        rwa [List.take_of_length_le (by have := hh.out; omega)] at e)
      have hbf := below_ext HBX.out HBr.out
      have hle := HBX.out.size
      clear HO
      go_wp2
      go_ret
      exact ⟨_, rfl, HO3.out.mono hle, hbf⟩
set_option maxHeartbeats 3200000 in
theorem rjoin_any (b o c : Nat) (l : List Int) (n : Nat) (hn : Hid (l.length = n)) (hn0 : 0 < n) (hbig : n ≤ 1000000) (h : List Int) (hh : Hid (h.length = 32)) (w : World) (hs : Hid (Sk .u8 w (some ⟨b, o, none⟩) l)) :
    Calls Tryd.prog 61 #[.slice (some ⟨b, o, none⟩) n c, .agg (arr .u8 h)] w (KOut .u8 5 (l ++ h) w) := by
  obtain ⟨i0, hi, hz0, hz1, hz2⟩ := info_parts byteInfo
  obtain ⟨W, hW⟩ : ∃ W, w.alloc (.cells (arr .u8 h) 42) = W := ⟨_, rfl⟩
  have HBX : Hid (Below w.heap.size w W) := Lib.hid (by rw [← hW]; exact below_box0 _ _)
  have HR0 : Hid (Blk .u8 42 W w.heap.size h) := Lib.hid (by rw [← hW]; exact Blk.new _ _)
  have HSZ : Hid (W.heap.size = w.heap.size + 1) := Lib.hid (by rw [← hW]; simp)
  have HW := Lib.hid hW
  clear hW
  have HS := Lib.hid ((hs.out.below HBX.out).below (below_box0 W (.cells #[] 5)))
  clear hs
  go_enter Tryd.func61, Tryd.ntmps61
  have hown : (W.alloc (.cells #[] 5)).ownsRow W.heap.size 5 1 (.slice (some ⟨W.heap.size, 0, none⟩) 0 0) 0 [] := ownK_empty (K := .u8) W
  go_upto_region 1 with (fail)
  rw [HW.out]
  go_wp2_with (at_builtin; refine wpList_append_own _ rfl _ _ 63 rfl W.heap.size 5 i0 (.int .u8 0) 1 1 Tryd.underlying63 hi hz0 hz1 hz2 rfl (by decide) _ _ _ rfl hown ⟨b, o, none⟩ n c (l.map (.int .u8)) rfl (by simp [hn.out]) (HS.out.news) (ints_oneCell .u8 _) (by unfold maxLen; omega) (by omega) (by simp) ?_; intro v1 w1 hown1 hgrow1 _)
  have HO1 : Hid (OwnK .u8 5 w1 W.heap.size v1 l) := Lib.hid (OwnK.app (xs := []) (ys := l) (m := n) rfl hn.out.symm hown1)
  have HB1 : Hid (Below W.heap.size W w1) := Lib.hid ((below_box0 W (.cells #[] 5)).grown hgrow1 (by simp) (fun j hj => by cases hj; exact Nat.le_refl _))
  clear hown1 hgrow1
  clear hown
  go_loopw [5, 6] (fun v i u => ∃ k : Nat, k ≤ 32 ∧ i = .int .i64 k ∧ Hid (OwnK .u8 5 u W.heap.size v (l ++ h.take k)) ∧ Hid (Below W.heap.size W u)) (fun _ i _ => 32 - (intOf i).toNat)
  case atStart => exact ⟨0, by omega, rfl, Lib.hid (by rw [List.take_zero, List.append_nil]; exact HO1.out), HB1⟩
  case round =>
    obtain ⟨k, hk, rfl, HO, HBr⟩ := hrel
    by_cases hlt : k < 32
    · have hc := (HR0.out.keepB (by have := HSZ.out; omega) HBr.out).cell (j := k) (by have := hh.out; omega)
      have HTK : Hid (h.take (k + 1) = h.take k ++ [h.getD k 0]) := Lib.hid (take_one (by have := hh.out; omega))
      obtain ⟨x, hx⟩ : ∃ x, h.getD k 0 = x := ⟨_, rfl⟩
      rw [hx] at hc HTK
      have HLN : Hid ((l ++ h.take k).length = n + k) := Lib.hid (by rw [List.length_append, List.length_take, hh.out, hn.out]; omega)
      have hown := HO.out.row HLN.out
      have hbs := HBr.out.size
      clear hx
      go_wp2_with (at_builtin; refine wpList_append_own _ rfl _ _ 63 rfl W.heap.size 5 i0 (.int .u8 0) 1 1 Tryd.underlying63 hi hz0 hz1 hz2 rfl (by decide) _ _ _ rfl (hown.alloc _) ⟨wr.heap.size, 0, none⟩ 1 1 [.int .u8 x] rfl rfl (cell_one_new _ _ _) (ints_oneCell .u8 [x]) (by unfold maxLen; omega) (by omega) (by simp; omega) ?_; intro v2 w2 hown2 hgrow2 _)
      have HO3 : Hid (OwnK .u8 5 w2 W.heap.size v2 (l ++ h.take (k + 1))) := Lib.hid (by
        rw [HTK.out, ← List.append_assoc]
        exact OwnK.app HLN.out.symm rfl hown2)
      have HBx3 : Hid (Below W.heap.size W w2) := Lib.hid (HO.out.below HBr.out hbs hgrow2)
      clear hown hown2 hgrow2 HO hc
      go_roundw
      case rel => exact ⟨k + 1, by omega, by go_num, HO3, HBx3⟩
      case measure => simp [intOf]; omega
    · have HO3 : Hid (OwnK .u8 5 wr W.heap.size u5 (l ++ h)) := Lib.hid (by
        have e := HO.out
        rwa [List.take_of_length_le (by have := hh.out; omega)] at e)
      have hbf := below_ext HBX.out HBr.out
      have hle := HBX.out.size
      clear HO
      go_wp2
      go_ret
      exact ⟨_, rfl, HO3.out.mono hle, hbf⟩
theorem yields_row {P : Program} {S : World → Prop} {o : Oper} {a : Act} (ty : TypeId) (x : Operand) (ho : o.op = .load ty x)
    (g : Nat) (hx : a.eval x = .pointer (some ⟨g, 0, none⟩)) (t : TypeId) (cs : Array Value) (fr : Nat × Nat) (d : TypeDesc) (hg : ∀ w, S w → w.heap[g]? = some (.cells cs t fr))
    (hu : P.underlying ty = some d) (hd : (match d with | .struct _ | .array _ _ => true | _ => false) = true) (hi : (P.info? ty).map (·.size) = some cs.size) :
    ∀ w, S w → (execOp a.eval o).run P w = .ok (.value (.agg cs)) w := fun w hw => by
  unfold execOp
  simp only [ho, hx, Instr.loadAt, Instr.sureAddr, Sem.run_bind, Sem.run_pure, Result.andThen_ok, run_loadVar_row w g t ty cs fr d (hg w hw) hu hd hi]
set_option maxHeartbeats 3200000 in
theorem rtagged_any (s : ByteArray) (hs1 : 1 ≤ s.size) (hs2 : s.size ≤ 100) (b o c : Nat) (l : List Int) (n : Nat) (hn : Hid (l.length = n)) (hn0 : 0 < n) (hbig : n ≤ 900000) (hby : Hid (bytesB l = true)) (w : World) (hs : Hid (Sk .u8 w (some ⟨b, o, none⟩) l)) :
    Calls Tryd.prog 36 #[.string s, .slice (some ⟨b, o, none⟩) n c] w fun e w' => e = .returned (.agg (arr .u8 (tagged (bys s) l))) ∧ Below w.heap.size w w' := by
  obtain ⟨i0, hi, hz0, hz1, hz2⟩ := info_parts byteInfo
  obtain ⟨W, hW⟩ : ∃ W, w.alloc (.cells #[.int .u8 0, .int .u8 0, .int .u8 0, .int .u8 0, .int .u8 0, .int .u8 0, .int .u8 0, .int .u8 0, .int .u8 0, .int .u8 0, .int .u8 0, .int .u8 0, .int .u8 0, .int .u8 0, .int .u8 0, .int .u8 0, .int .u8 0, .int .u8 0, .int .u8 0, .int .u8 0, .int .u8 0, .int .u8 0, .int .u8 0, .int .u8 0, .int .u8 0, .int .u8 0, .int .u8 0, .int .u8 0, .int .u8 0, .int .u8 0, .int .u8 0, .int .u8 0] 42) = W := ⟨_, rfl⟩
  have HBX : Hid (Below w.heap.size w W) := Lib.hid (by rw [← hW]; exact below_box0 _ _)
  have HR0 : Hid (Blk .u8 42 W w.heap.size (zer 32)) := Lib.hid (by
    rw [← hW, zarrh]
    exact Blk.new _ _)
  have HSZ : Hid (W.heap.size = w.heap.size + 1) := Lib.hid (by rw [← hW]; simp)
  have HS := Lib.hid (hs.out.below HBX.out)
  have HW := Lib.hid hW
  have hcv := fun w => run_bytes_of_string (P := Tryd.prog) w 9 63 5 s Tryd.underlying9 Tryd.underlying63 Tryd.underlying5
  clear hW hs
  go_enter Tryd.func36, Tryd.ntmps36
  go_wp2_with fail
  rw [HW.out]
  clear hcv HW
  obtain ⟨Wc, hWc⟩ : ∃ u, (W.alloc (.cells (bytesRow s (grownCap W s.size 0 5)) 5 ((bytesRow s (grownCap W s.size 0 5)).size, (bytesRow s (grownCap W s.size 0 5)).size + 1))).drew = u := ⟨_, rfl⟩
  have HBc : Hid (Below W.heap.size W Wc) := Lib.hid (by rw [← hWc]; exact (below_box0 _ _).drew)
  have HSc : Hid (Sk .u8 Wc (some ⟨w.heap.size + 1, 0, none⟩) (bys s)) := Lib.hid (by
    rw [← hWc, ← HSZ.out]
    exact bys_sk (heap_alloc_new W _))
  obtain ⟨gc, hgc⟩ : ∃ g, grownCap W s.size 0 5 = g := ⟨_, rfl⟩
  rw [hWc, hgc]
  clear hWc hgc
  refine (rsum_any (w.heap.size + 1) 0 gc (bys s) s.size (Lib.hid (bys_len s)) (by omega) (by omega) (Lib.hid (bys_bytes s)) _ HSc).mono ?_
  rintro e w1 ⟨rfl, hb1⟩
  have HB1 := Lib.hid (below_ext HBc.out hb1)
  clear hb1 HSc HBc
  obtain ⟨t, ht⟩ : ∃ t, sha (bys s) = t := ⟨_, rfl⟩
  have htl : t.length = 32 := by rw [← ht]; exact sha_len _
  have htb : bytesB t = true := by rw [← ht]; exact sha_bytes _
  have HT : Kp (sha (bys s) = t) := ⟨ht⟩
  have HTL := Lib.hid htl
  have HTB := Lib.hid htb
  rw [ht]
  clear ht htl htb
  go_upto_region 2 with ((with_reducible show wpList _ _ _ (⟨none, _, _, _, _, _⟩ :: _) _ _); refine wpList_store_row rfl 42 _ _ rfl w1.heap.size (arr .u8 t) rfl rfl _ _ (heap_alloc_new _ _) (hash_info HTL.out) (arrs_sz (l := zer 32) rfl HTL.out) (arr_one _) ?_)
  rw [World.setRow_alloc_new]
  simp only [Act.put]
  have HB2 := Lib.hid (below_ext HB1.out (below_box0 w1 (.cells (arr .u8 t) 42)))
  have HT2 : Hid (Blk .u8 42 (w1.alloc (.cells (arr .u8 t) 42)) w1.heap.size t) := Lib.hid (Blk.new _ _)
  obtain ⟨W2, hW2⟩ : ∃ u, w1.alloc (.cells (arr .u8 t) 42) = u := ⟨_, rfl⟩
  have HSN : Hid (w1.heap.size < W2.heap.size) := Lib.hid (by rw [← hW2]; simp)
  rw [hW2] at HB2 HT2 ⊢
  clear hW2 HB1
  obtain ⟨gt, hgt⟩ : ∃ g, w1.heap.size = g := ⟨_, rfl⟩
  rw [hgt] at HT2 HSN ⊢
  clear hgt
  have HBd := Lib.hid ((Below.refl W2.heap.size W2).drew)
  have HTd := Lib.hid (HT2.out.below HBd.out)
  have HB3 := Lib.hid (below_ext HB2.out HBd.out)
  obtain ⟨Wd, hWd⟩ : ∃ u, W2.drew = u := ⟨_, rfl⟩
  refine wp_region_T (S := fun w' => w'.heap[gt]? = some (.cells (arr .u8 t) 42 (0, 0))) (E := [5, 6, 7]) (by kernel_rfl) (HTd.out) (fun hHeld => ?_)
  refine wpT_take (i := 0) (oi := _) (v := (.agg (arr .u8 t))) rfl (by kernel_rfl) (by kernel_rfl) (by kernel_rfl) (by kernel_rfl) (fun _ _ _ h => h) (Or.inl ⟨by rfl, yields_row 42 _ rfl gt rfl _ _ _ _ (fun _ h => h) Tryd.underlying42 rfl (hash_info HTL.out)⟩) (by assumption) ?_
  try simp only [qq1, qq2, qq3, Act.put, qq4, qq5, qq6]
  refine wpT_take (i := 2) (oi := _) (v := (.agg (arr .u8 t))) rfl (by kernel_rfl) (by kernel_rfl) (by kernel_rfl) (by kernel_rfl) (fun _ _ _ h => h) (Or.inl ⟨by rfl, yields_row 42 _ rfl gt rfl _ _ _ _ (fun _ h => h) Tryd.underlying42 rfl (hash_info HTL.out)⟩) (by assumption) ?_
  try simp only [qq1, qq2, qq3, Act.put, qq4, qq5, qq6]
  refine tkV 4 ?_
  try simp only [qq1, qq2, qq3, Act.put, qq4, qq5, qq6]
  refine wpT_one (i := 1) (by kernel_rfl) rfl (fun K hK => ?_)
  go_simp
  try rw [hWd]
  rw [hWd] at HBd HTd HB3
  refine (rjoin_nil t HTL _).mono ?_
  rintro e w3 ⟨v3, rfl, ho3, hb3⟩
  refine hK.out _ _ ?_ (fun hHeld => ?_)
  · exact HTd.out.below hb3
  clear hK K
  try simp only [qq1, qq2, qq3, Act.put, qq4, qq5, qq6]
  refine wpT_one (i := 3) (by kernel_rfl) rfl (fun K hK => ?_)
  go_simp
  obtain ⟨g3, cap3, e3, hg3, -, -, hsk3⟩ := ho3.cells (by have := HTL.out; omega)
  rw [HTL.out] at e3
  subst e3
  have HS3 := Lib.hid hsk3
  refine (rjoin_any g3 0 cap3 t 32 HTL (by decide) (by decide) t HTL _ HS3).mono ?_
  rintro e w4 ⟨v4, rfl, ho4, hb4⟩
  have HB4 := Lib.hid (below_ext hb3 hb4)
  have hbz4 := HB4.out.size
  have hrow4 := ho4.row (n := 64) (by rw [List.length_append, HTL.out])
  refine hK.out _ _ ?_ (fun hHeld => ?_)
  · exact (HTd.out.below hb3).below hb4
  clear hK K
  try simp only [qq1, qq2, qq3, Act.put, qq4, qq5, qq6]
  refine wpT_pass (i := 5) (by kernel_rfl) (by simp) rfl (fun K hK => ?_)
  have HS4 := Lib.hid ((HS.out.below HB3.out).below HB4.out)
  refine step_append_lies _ (by rfl) _ _ _ (by rfl) (w3.heap.size) 5 i0 _ 1 1 Tryd.underlying63 hi hz0 hz1 hz2 rfl (by omega) v4 64 ((t ++ t).map (.int .u8)) (by rfl) (hrow4) ⟨b, o, none⟩ n c (l.map (.int .u8)) (by rfl) (by simp [hn.out]) (HS4.out.news) (ints_oneCell .u8 _) (by omega) (by unfold maxLen; omega) (by omega) (by have := hb4.size; omega) (w4.heap.size) (rfl) ?_
  intro g5 cap5 w5 hown5 hgrow5 hat5 hlt5
  have HB5 := Lib.hid (Below.grown HB4.out hgrow5 (by omega) (fun j hj => by have := (World.ownsRow.lt hrow4 j hj).1; have := hb3.size; omega))
  have HO5 : Hid (OwnK .u8 5 w5 w3.heap.size (.slice (some ⟨g5, 0, none⟩) (64 + n) cap5) (t ++ t ++ l)) := Lib.hid (OwnK.app (by rw [List.length_append, HTL.out]) hn.out.symm hown5)
  refine hK.out _ _ ?_
  clear hK K
  try simp only [qq1, qq2, qq3, Act.put, qq4, qq5, qq6]
  refine wpT_pass (i := 6) (by kernel_rfl) (by simp) rfl (fun K hK => ?_)
  go_simp
  have hsk5 := HO5.out.skAt (by simp [hn.out]; omega)
  refine (rsum_any g5 0 cap5 (t ++ t ++ l) (64 + n) (Lib.hid (by simp [hn.out, HTL.out]; omega)) (by omega) (by omega) (Lib.hid (by rw [bytesB_app, bytesB_app, HTB.out, hby.out]; rfl)) _ (Lib.hid hsk5)).mono ?_
  rintro e w6 ⟨rfl, hb6⟩
  have HB6 := Lib.hid (HB5.out.trans (hb6.mono HB5.out.size))
  refine hK.out _ _ ?_
  clear hK K
  try simp only [qq1, qq2, qq3, Act.put, qq4, qq5, qq6]
  refine wpT_pass (i := 7) (by kernel_rfl) (by simp) rfl (fun K hK => ?_)
  rw [show (if Region.wanted _ _ = true then _ else _ : Prop) = _ from if_pos rfl]
  refine wp_store_row 42 _ _ rfl w.heap.size (arr .u8 (sha (t ++ t ++ l))) rfl rfl 42 _ (((HR0.out.below HB3.out)).below HB6.out) (hash_info (sha_len _)) (arrs_sz rfl (sha_len _)) (arr_one _) ?_
  refine hK.out _ _ ?_
  clear hK K
  try simp only [qq1, qq2, qq3, Act.put, qq4, qq5, qq6]
  refine wpT_done (by kernel_rfl) ?_ _
  have HRR : Hid (Blk .u8 42 (w6.setRow w.heap.size (arr .u8 (sha (t ++ t ++ l)))) w.heap.size (sha (t ++ t ++ l))) := Lib.hid ((HR0.out.below HB3.out).below HB6.out).setRow
  have HBF : Hid (Below w.heap.size w (w6.setRow w.heap.size (arr .u8 (sha (t ++ t ++ l))))) := Lib.hid (below_setRow' (below_ext HBX.out (below_ext HB3.out HB6.out)) (Nat.le_refl _))
  have HTG : Kp (tagged (bys s) l = sha (t ++ t ++ l)) := ⟨by rw [tagged, HT.out]⟩
  obtain ⟨R, hR⟩ : ∃ R, sha (t ++ t ++ l) = R := ⟨_, rfl⟩
  have hRl : R.length = 32 := by rw [← hR]; exact sha_len _
  rw [hR] at HRR HBF HTG ⊢
  obtain ⟨w8, hw8⟩ : ∃ u, w6.setRow w.heap.size (arr .u8 R) = u := ⟨_, rfl⟩
  rw [hw8] at HRR HBF ⊢
  have HI : Kp ((Tryd.prog.info? 42).map (·.size) = some (arr .u8 R).size) := ⟨hash_info hRl⟩
  clear hR hRl hw8
  go_wp2
  exact bodyPost_ret (v := .agg (arr .u8 R)) (results_cell_row (p := 4) (ty := 42) rfl _ _ w.heap.size _ _ _ _ rfl HRR.out Tryd.underlying42 rfl HI.out) rfl ⟨by rw [HTG.out], HBF.out⟩
theorem itr_list {w : World} {base : Nat} {v : Value} {cs : List Ic} {l : List It} {n : Nat} (h : OwnI w base v cs) (hc : cs.length = n) (hl : l.length = n) (hpos : 0 < n) (hr : ∀ k, k < n → ItR w (l.getD k default) (cs.getD k default)) :
    ∃ g cap, v = .slice (some ⟨g, 0, none⟩) n cap ∧ ItR w (.lst l) ⟨3, 0, none, 0, 0, some ⟨g, 0, none⟩, n, cap⟩ := by
  obtain ⟨g, cap, e, _, _, hf⟩ := h.four (by omega)
  rw [hc] at e hf
  exact ⟨g, cap, e, .lst l _ rfl rfl rfl hl.symm (fun k => cs.getD k default) (fun k hk => ⟨g, 0, rfl, hf k (by omega)⟩) (fun k hk => hr k (by omega))⟩
def icByt (A : Option Addr) (n c : Nat) : Ic := ⟨2, 0, A, n, c, none, 0, 0⟩
theorem itr_byt {w : World} {A : Option Addr} {n c : Nat} {b : List Int} (h : Sk .u8 w A b) (hn : b.length = n) : ItR w (.byt b) (icByt A n c) := .byt b _ rfl rfl hn.symm rfl h
theorem results_cell_tmp3 {P : Program} {fn : Func} {p q r : Tmp} {ty : TypeId} (h : fn.results = #[.cell p ty, .tmp q, .tmp r]) (tmps : Array Value) (w : World) (a : Addr) (v u x : Value)
    (hp : tmps.getD p undef = .pointer (some a)) (hq : tmps.getD q undef = u) (hr : tmps.getD r undef = x) (hl : (loadVar ty a).run P w = .ok v w) : (results fn tmps).run P w = .ok (.tuple #[v, u, x]) w := by
  have hp' : tmps[p]?.getD undef = .pointer (some a) := by simpa using hp
  have hq' : tmps[q]?.getD undef = u := by simpa using hq
  have hr' : tmps[r]?.getD undef = x := by simpa using hr
  simp [results, h, hp', hq', hr', asAddr, hl]
theorem grown_setRow (w : World) (a : Nat) (cs : Array Value) : w.grownBy (w.setRow a cs) (some a) :=
  ⟨rfl, rfl, rfl, by simp [World.setRow], fun k hk hne => setRow_other w a k cs (fun e => hne (by rw [e]))⟩
theorem OwnI.setRow {w : World} {base a : Nat} {v : Value} {cs : List Ic} {r : Array Value} (h : OwnI w base v cs) (ha : a < base) : OwnI (w.setRow a r) base v cs :=
  World.ownsRow.kept h (grown_setRow w a r) (Or.inr (h.no ha))
theorem Sk.setRow {K : IntKind} {w : World} {b a : Nat} {l : List Int} {r : Array Value} (h : Sk K w (some ⟨b, 0, none⟩) l) (hne : a ≠ b) : Sk K (w.setRow a r) (some ⟨b, 0, none⟩) l :=
  h.grown (grown_setRow w a r) (fun b' o' e _ e2 => by cases e; cases e2; exact hne rfl)
theorem ic_info (c : Ic) : (Tryd.prog.info? 67).map (·.size) = some c.cs.size := by
  have h : (Tryd.prog.info? 67).map (·.size) = some 4 := by kernel_rfl
  exact h
theorem ic_one (c : Ic) : c.cs.all (·.oneCell') = true := by simp [Ic.cs, Value.oneCell']
variable {w : World} {b : Nat} {h : List Int} {c : Int} {f : Bool}
theorem gb_below {w w' : World} (h : Below w.heap.size w w') (r : Option Nat) : w.grownBy w' r := ⟨h.os, h.tape, h.output, h.size, fun k hk _ => h.block k hk⟩
theorem gb_setCell {w : World} (b j : Nat) (v : Value) : w.grownBy (w.setCell ⟨b, j, none⟩ v) (some b) := grown_set2 w b j v
end Go.Proofs.YtofkihlpbfcdkaaDoor
namespace Go.Proofs.YtofkihlpbfcdkaaDoor
open Go.RowKit SpM
set_option linter.unusedVariables false
set_option linter.unusedSimpArgs false
structure TwoA (w0 : World) (hb : Nat) (box : Obj) (vX : Value) (nX : Nat) (xs : List Int) (vY : Value) (nY : Nat) (ys : List Int) (u : World) : Prop where
  b : Below w0.heap.size w0 u
  x : u.heap[hb]? = some box
  ox : u.ownsRow w0.heap.size 3 1 vX nX (xs.map (Value.int .i64))
  oy : u.ownsRow w0.heap.size 3 1 vY nY (ys.map (Value.int .i64))
  nxy : ∀ j, vX.ownBlock = some j → vY.ownBlock ≠ some j
  nx : vX.ownBlock ≠ some hb
  ny : vY.ownBlock ≠ some hb
theorem own_none (v : Value) : v.ownBlock = none ∨ v.ownBlock ≠ none := by
  cases h : v.ownBlock with
  | none => exact .inl rfl
  | some j => exact .inr (by simp)
theorem heap_lt {u : World} {g : Nat} {o : Obj} (h : u.heap[g]? = some o) : g < u.heap.size := (Array.getElem?_eq_some_iff.1 h).1
section
variable {w0 : World} {hb : Nat} {box : Obj} {vX vY : Value} {nX nY : Nat} {xs ys : List Int} {u u2 : World}
theorem TwoA.below (h : TwoA w0 hb box vX nX xs vY nY ys u) (hq : Below u.heap.size u u2) : TwoA w0 hb box vX nX xs vY nY ys u2 :=
  ⟨below_ext h.b hq, (hq.block hb (heap_lt h.x)).trans h.x, h.ox.kept (gb_below hq none) (own_none _), h.oy.kept (gb_below hq none) (own_none _), h.nxy, h.nx, h.ny⟩
structure PendB (u : World) (g : Nat) (a : Int) (vX vY : Value) : Prop where
  c : u.heap[g]? = some (.cells #[.int .i64 a] 3)
  nx : vX.ownBlock ≠ some g
  ny : vY.ownBlock ≠ some g
theorem PendB.new (h : TwoA w0 hb box vX nX xs vY nY ys u) (a : Int) : PendB (u.alloc (.cells #[.int .i64 a] 3)) u.heap.size a vX vY :=
  ⟨heap_alloc_new _ _, fun e => by have := (h.ox.lt _ e).2; omega, fun e => by have := (h.oy.lt _ e).2; omega⟩
theorem PendB.below {g : Nat} {a : Int} (h : PendB u g a vX vY) (hq : Below u.heap.size u u2) : PendB u2 g a vX vY :=
  ⟨(hq.block g (heap_lt h.c)).trans h.c, h.nx, h.ny⟩
theorem PendB.news {g : Nat} {a : Int} (h : PendB u g a vX vY) : ∀ j v, [Value.int .i64 a][j]? = some v → u.cell? ((⟨g, 0, none⟩ : Addr).add j) = some v :=
  World.news_of_block (cs := #[.int .i64 a]) (t := 3) (fr := (0, 0)) h.c
end
end Go.Proofs.YtofkihlpbfcdkaaDoor
namespace Go.Proofs.YtofkihlpbfcdkaaDoor
open Go.RowKit SpM
set_option linter.unusedVariables false
set_option linter.unusedSimpArgs false
set_option maxRecDepth 100000
def Sh (w : World) (A : Option Addr) (l : List (Int × Int)) : Prop := ∀ k, k < l.length → ∃ b o, A = some ⟨b, o, none⟩ ∧ w.cell? ⟨b, o + k * 2, none⟩ = some (.int .i64 (l.getD k (0, 0)).1) ∧ w.cell? ⟨b, o + k * 2 + 1, none⟩ = some (.int .i64 (l.getD k (0, 0)).2)
theorem Sh.below {w w' : World} {A : Option Addr} {l : List (Int × Int)} (h : Sh w A l) (hb : Below w.heap.size w w') : Sh w' A l := fun k hk => by
  obtain ⟨b, o, h1, h2, h3⟩ := h k hk
  exact ⟨b, o, h1, cell_below h2 hb, cell_below h3 hb⟩
def okL (l : List Int) : Prop := l.length ≤ 1000 ∧ ∀ x ∈ l, -9223372036854775808 ≤ x ∧ x < 9223372036854775808
theorem okL.fits {l : List Int} (h : okL l) : Hid (fits 7 (.lst (l.map .int))) := Lib.hid (by
  refine ⟨by rw [List.length_map]; exact h.1, fun x hx => ?_⟩
  obtain ⟨y, hy, rfl⟩ := List.mem_map.1 hx
  exact h.2 y hy)
theorem encL_ints (l : List Int) : (encL (l.map .int)).length = 9 * l.length := by
  induction l with
  | nil => rfl
  | cons x l ih => rw [List.map_cons, encL, List.length_append, ih, enc_int, List.length_cons, be8_len, List.length_cons]; omega
theorem okL.len {l : List Int} (h : okL l) : Hid ((enc (.lst (l.map .int))).length ≤ 14000) := Lib.hid (by
  rw [enc_lst, List.length_cons, List.length_append, be4_len, encL_ints]
  have := h.1
  omega)
def CellsOut (zs : List Int) (n : Nat) (w : World) (e : Ending) (w' : World) : Prop := ∃ g cap, e = .returned (.slice (some ⟨g, 0, none⟩) n cap) ∧ Hid (Cells w' g zs) ∧ Below w.heap.size w w'
theorem ListOut.cells {zs : List Int} {n : Nat} {w w' : World} {e : Ending} (h : ListOut zs w e w') (hn : zs.length = n) (hpos : 0 < n) : CellsOut zs n w e w' := by
  obtain ⟨v, he, ho, hb⟩ := h
  obtain ⟨g, cap, rfl, _, hc⟩ := OwnL.cells ho (by omega)
  rw [hn] at he
  exact ⟨g, cap, he, Lib.hid hc, hb⟩
end Go.Proofs.YtofkihlpbfcdkaaDoor
namespace Go.Proofs.YtofkihlpbfcdkaaDoor
open Go.RowKit SpM
set_option linter.unusedVariables false
set_option linter.unusedSimpArgs false
set_option maxRecDepth 20000
theorem RowF.below {w w' : World} {g n : Nat} {f : Nat → Int} (h : RowF w g n f) (hn : 0 < n) (hb : Below w.heap.size w w') : RowF w' g n f := by
  have hg : g < w.heap.size := World.block_lt_of_cell? _ _ (h.1 0 hn)
  exact ⟨fun j hj => (hb.cell (p := ⟨g, j, none⟩) hg).trans (h.1 j hj), fun j => (hb.frozen (p := ⟨g, j, none⟩) hg).trans (h.2 j)⟩
end Go.Proofs.YtofkihlpbfcdkaaDoor
namespace Go.Proofs.YtofkihlpbfcdkaaDoor
open Go.RowKit SpM
set_option linter.unusedVariables false
set_option linter.unusedSimpArgs false
set_option maxRecDepth 100000
abbrev prvL (pa : Option Addr) (na ca : Nat) (C : Int) (pz : Option Addr) (nz cz : Nat) : Value := .agg #[.slice pa na ca, .int .i64 C, .slice pz nz cz]
abbrev prObjL (pa : Option Addr) (na ca : Nat) (C : Int) (pz : Option Addr) (nz cz : Nat) : Obj := .cells #[.slice pa na ca, .int .i64 C, .slice pz nz cz] 28
def PrBox (w : World) (a : Nat) (x y z : Value) : Prop := w.cell? ⟨a, 0, none⟩ = some x ∧ w.cell? ⟨a, 1, none⟩ = some y ∧ w.cell? ⟨a, 2, none⟩ = some z
theorem PrBox.below {w w' : World} {a : Nat} {x y z : Value} (h : PrBox w a x y z) (hb : Below w.heap.size w w') : PrBox w' a x y z :=
  ⟨cell_below h.1 hb, cell_below h.2.1 hb, cell_below h.2.2 hb⟩
def ex17R (s : Nat) : List Row := [⟨some ⟨s + 1 + 1, 0, none⟩, 1, 1, [2]⟩, ⟨some ⟨s + 1 + 1 + 1, 0, none⟩, 1, 1, [4]⟩]
def Ex17 (w : World) (s : Nat) : Prop := GBox w s 23 11 4 ∧ Sl w (some ⟨s + 1, 0, none⟩) [8, 18] ∧ Rw w (some ⟨s + 1 + 1 + 1 + 1, 0, none⟩) (ex17R s) ∧ RBox w (s + 1 + 1 + 1 + 1 + 1) (.slice (some ⟨s + 1, 0, none⟩) 2 2) (.slice (some ⟨s + 1 + 1 + 1 + 1, 0, none⟩) 2 2)
theorem Ex17.below {w w' : World} {s : Nat} (h : Ex17 w s) (hb : Below w.heap.size w w') : Ex17 w' s := ⟨h.1.below hb, h.2.1.below hb, h.2.2.1.below hb, h.2.2.2.below hb⟩
theorem Sl.set {w : World} {A : Option Addr} {xs : List Int} {a : Nat} {j : Nat} {v : Value} (h : Sl w A xs) (hne : ∀ b o, A = some ⟨b, o, none⟩ → 0 < xs.length → b ≠ a) : Sl (w.setCell ⟨a, j, none⟩ v) A xs := fun k hk => by
  obtain ⟨b, o, e, hc⟩ := h k hk
  refine ⟨b, o, e, ?_⟩
  have := hne b o e (by omega)
  rw [World.cell?_setCell_far _ _ _ _ (fun e => this e.symm)]
  exact hc
def eqRows (A1 B1 : Option Addr) (a b : Int) : List Row := [⟨A1, 1, 1, [a]⟩, ⟨B1, 1, 1, [b]⟩]
theorem sl_blk {w : World} {g : Nat} {cs : Array Value} {T : TypeId} {xs : List Int} (h : w.heap[g]? = some (.cells cs T)) (hc : ∀ k, k < xs.length → cs[k]? = some (.int .i64 (xs.getD k 0))) : Sl w (some ⟨g, 0, none⟩) xs :=
  fun k hk => ⟨g, 0, rfl, by rw [Nat.zero_add, cell_blk h]; exact hc k hk⟩
theorem rw_two {w : World} {g : Nat} {T : TypeId} {A1 B1 : Option Addr} {a b : Int} (h : w.heap[g]? = some (.cells #[.slice A1 1 1, .slice B1 1 1] T)) (ha : Sl w A1 [a]) (hb : Sl w B1 [b]) : Rw w (some ⟨g, 0, none⟩) (eqRows A1 B1 a b) := fun k hk => by
  match k, hk with
  | 0, _ => exact ⟨⟨g, 0, rfl, by rw [cell_blk h]; rfl⟩, rfl, ha⟩
  | 1, _ => exact ⟨⟨g, 0, rfl, by rw [cell_blk h]; rfl⟩, rfl, hb⟩
def EqBlk (a ya b yb : Int) (g : Nat) (w : World) : Prop := w.heap[g + 1]? = some (.cells #[.int .i64 ya, .int .i64 yb] 3) ∧ w.heap[g + 1 + 1]? = some (.cells #[.int .i64 a] 3) ∧ w.heap[g + 1 + 1 + 1]? = some (.cells #[.int .i64 b] 3) ∧ w.heap[g + 1 + 1 + 1 + 1]? = some (.cells #[.slice (some ⟨g + 1 + 1, 0, none⟩) 1 1, .slice (some ⟨g + 1 + 1 + 1, 0, none⟩) 1 1] 26)
theorem EqBlk.set {a ya b yb : Int} {g : Nat} {w : World} (h : EqBlk a ya b yb g w) {k : Nat} (hk : k < g) (j : Nat) (v : Value) : EqBlk a ya b yb g (w.setCell ⟨k, j, none⟩ v) := by
  obtain ⟨h1, h2, h3, h4⟩ := h
  refine ⟨?_, ?_, ?_, ?_⟩
  · rw [Go.Deep.blk_setCell_other _ _ _ _ (show g + 1 ≠ k by omega)]; exact h1
  · rw [Go.Deep.blk_setCell_other _ _ _ _ (show g + 1 + 1 ≠ k by omega)]; exact h2
  · rw [Go.Deep.blk_setCell_other _ _ _ _ (show g + 1 + 1 + 1 ≠ k by omega)]; exact h3
  · rw [Go.Deep.blk_setCell_other _ _ _ _ (show g + 1 + 1 + 1 + 1 ≠ k by omega)]; exact h4
theorem EqBlk.sl {a ya b yb : Int} {g : Nat} {w : World} (h : EqBlk a ya b yb g w) : Sl w (some ⟨g + 1, 0, none⟩) [ya, yb] ∧ Rw w (some ⟨g + 1 + 1 + 1 + 1, 0, none⟩) (eqRows (some ⟨g + 1 + 1, 0, none⟩) (some ⟨g + 1 + 1 + 1, 0, none⟩) a b) := by
  obtain ⟨h1, h2, h3, h4⟩ := h
  exact ⟨sl_blk h1 (fun k hk => by match k, hk with | 0, _ => rfl | 1, _ => rfl), rw_two h4 (sl_blk h2 (fun k hk => by match k, hk with | 0, _ => rfl)) (sl_blk h3 (fun k hk => by match k, hk with | 0, _ => rfl))⟩
end Go.Proofs.YtofkihlpbfcdkaaDoor
namespace Go.Proofs.YtofkihlpbfcdkaaDoor
open Go.RowKit SpM
set_option linter.unusedVariables false
def BBox (w : World) (a : Nat) (P Q G A B H : Int) : Prop := (w.cell? ⟨a, 0, none⟩ = some (.int .i64 P) ∧ w.cell? ⟨a, 1, none⟩ = some (.int .i64 Q) ∧ w.cell? ⟨a, 2, none⟩ = some (.int .i64 G)) ∧
  w.cell? ⟨a, 3, none⟩ = some (.int .i64 A) ∧ w.cell? ⟨a, 4, none⟩ = some (.int .i64 B) ∧ w.cell? ⟨a, 5, none⟩ = some (.int .i64 H)
theorem BBox.below {w w' : World} {a : Nat} {P Q G A B H : Int} (h : BBox w a P Q G A B H) (hb : Below w.heap.size w w') : BBox w' a P Q G A B H :=
  have f : ∀ {p : Addr} {v : Value}, w.cell? p = some v → w'.cell? p = some v := fun h => (hb.cell (World.block_lt_of_cell? _ _ h)).trans h
  ⟨⟨f h.1.1, f h.1.2.1, f h.1.2.2⟩, f h.2.1, f h.2.2.1, f h.2.2.2⟩
end Go.Proofs.YtofkihlpbfcdkaaDoor
namespace Go.Proofs.YtofkihlpbfcdkaaDoor
open Go.RowKit SpM
set_option linter.unusedVariables false
set_option linter.unusedSimpArgs false
set_option maxRecDepth 100000
abbrev esV (E1 E2 : Int) (A : Option Addr) (na ca : Nat) (C : Int) (Z : Option Addr) (nz cz : Nat) : Value := .agg #[.int .i64 E1, .int .i64 E2, .slice A na ca, .int .i64 C, .slice Z nz cz]
abbrev esO (E1 E2 : Int) (A : Option Addr) (na ca : Nat) (C : Int) (Z : Option Addr) (nz cz : Nat) : Obj := .cells #[.int .i64 E1, .int .i64 E2, .slice A na ca, .int .i64 C, .slice Z nz cz] 30
def IB2 (w : World) (g : Nat) (a b : Int) : Prop := w.heap[g]? = some (.cells #[.int .i64 a, .int .i64 b] 3)
theorem blk_below {w w' : World} {g : Nat} {o : Obj} (h : w.heap[g]? = some o) (hb : Below w.heap.size w w') : w'.heap[g]? = some o := by
  have hl : g < w.heap.size := (Array.getElem?_eq_some_iff.1 h).1
  exact (hb.block g hl).trans h
theorem IB2.below {w w' : World} {g : Nat} {a b : Int} (h : IB2 w g a b) (hb : Below w.heap.size w w') : IB2 w' g a b := blk_below h hb
theorem IB2.new (w : World) (a b : Int) : IB2 (w.alloc (.cells #[.int .i64 a, .int .i64 b] 3)) w.heap.size a b := heap_alloc_new _ _
theorem IB2.sl {w : World} {g : Nat} {a b : Int} (h : IB2 w g a b) : Sl w (some ⟨g, 0, none⟩) [a, b] := sl_blk h (fun k hk => by match k, hk with | 0, _ => rfl | 1, _ => rfl)
def RB2 (w : World) (g gA gB : Nat) : Prop := w.heap[g]? = some (.cells #[.slice (some ⟨gA, 0, none⟩) 2 2, .slice (some ⟨gB, 0, none⟩) 2 2] 26)
theorem RB2.below {w w' : World} {g gA gB : Nat} (h : RB2 w g gA gB) (hb : Below w.heap.size w w') : RB2 w' g gA gB := blk_below h hb
theorem RB2.new (w : World) (gA gB : Nat) : RB2 (w.alloc (.cells #[.slice (some ⟨gA, 0, none⟩) 2 2, .slice (some ⟨gB, 0, none⟩) 2 2] 26)) w.heap.size gA gB := heap_alloc_new _ _
def esRows (A1 B1 : Option Addr) (a b c d : Int) : List Row := [⟨A1, 2, 2, [a, b]⟩, ⟨B1, 2, 2, [c, d]⟩]
def EsBlk (ps a b c d : Int) (gY gA gB gR : Nat) (w : World) : Prop := IB2 w gY ps 1 ∧ IB2 w gA a b ∧ IB2 w gB c d ∧ RB2 w gR gA gB
theorem EsBlk.below {ps a b c d : Int} {gY gA gB gR : Nat} {w w' : World} (h : EsBlk ps a b c d gY gA gB gR w) (hb : Below w.heap.size w w') : EsBlk ps a b c d gY gA gB gR w' :=
  ⟨h.1.below hb, h.2.1.below hb, h.2.2.1.below hb, h.2.2.2.below hb⟩
theorem EsBlk.sl {ps a b c d : Int} {gY gA gB gR : Nat} {w : World} (h : EsBlk ps a b c d gY gA gB gR w) : Sl w (some ⟨gY, 0, none⟩) [ps, 1] ∧ Rw w (some ⟨gR, 0, none⟩) (esRows (some ⟨gA, 0, none⟩) (some ⟨gB, 0, none⟩) a b c d) := by
  obtain ⟨h1, h2, h3, h4⟩ := h
  refine ⟨h1.sl, fun k hk => ?_⟩
  match k, hk with
  | 0, _ => exact ⟨⟨gR, 0, rfl, by rw [cell_blk h4]; rfl⟩, rfl, h2.sl⟩
  | 1, _ => exact ⟨⟨gR, 0, rfl, by rw [cell_blk h4]; rfl⟩, rfl, h3.sl⟩
theorem EsBlk.set {ps a b c d : Int} {gY gA gB gR : Nat} {w : World} (h : EsBlk ps a b c d gY gA gB gR w) {k : Nat} (hY : k < gY) (hA : k < gA) (hB : k < gB) (hR : k < gR) (j : Nat) (v : Value) : EsBlk ps a b c d gY gA gB gR (w.setCell ⟨k, j, none⟩ v) := by
  obtain ⟨h1, h2, h3, h4⟩ := h
  refine ⟨?_, ?_, ?_, ?_⟩
  · exact (Go.Deep.blk_setCell_other _ _ _ _ (show gY ≠ k by omega)).trans h1
  · exact (Go.Deep.blk_setCell_other _ _ _ _ (show gA ≠ k by omega)).trans h2
  · exact (Go.Deep.blk_setCell_other _ _ _ _ (show gB ≠ k by omega)).trans h3
  · exact (Go.Deep.blk_setCell_other _ _ _ _ (show gR ≠ k by omega)).trans h4
theorem EsBlk.setRow {ps a b c d : Int} {gY gA gB gR : Nat} {w : World} (h : EsBlk ps a b c d gY gA gB gR w) {k : Nat} (hY : k < gY) (hA : k < gA) (hB : k < gB) (hR : k < gR) (cs : Array Value) : EsBlk ps a b c d gY gA gB gR (w.setRow k cs) := by
  obtain ⟨h1, h2, h3, h4⟩ := h
  exact ⟨(setRow_other _ _ _ _ (by omega)).trans h1, (setRow_other _ _ _ _ (by omega)).trans h2, (setRow_other _ _ _ _ (by omega)).trans h3, (setRow_other _ _ _ _ (by omega)).trans h4⟩
theorem heap_alloc3_new (w : World) (A B C : Obj) : (((w.alloc A).alloc B).alloc C).heap[w.heap.size + 2]? = some C := by
  have e : w.heap.size + 2 = ((w.alloc A).alloc B).heap.size := by simp
  rw [e]; exact heap_alloc_new _ _
structure PartR where
  ix : Int
  v : Int
  A : Option Addr
  na : Nat
  ca : Nat
  al : List Int
  C : Int
  Z : Option Addr
  nz : Nat
  cz : Nat
  zs : List Int
abbrev noPart : PartR := ⟨0, 0, none, 0, 0, [], 0, none, 0, 0, []⟩
def PaOk (w : World) (p : PartR) : Prop := p.al.length = p.na ∧ p.zs.length = p.nz ∧ Sl w p.A p.al ∧ Sl w p.Z p.zs
def Pa (w : World) (L : Option Addr) (ps : List PartR) : Prop := ∀ k, k < ps.length → ∃ b o, L = some ⟨b, o, none⟩ ∧ w.cell? ⟨b, o + k * 5, none⟩ = some (.int .i64 (ps.getD k noPart).ix) ∧ w.cell? ⟨b, o + k * 5 + 1, none⟩ = some (.int .i64 (ps.getD k noPart).v) ∧
  w.cell? ⟨b, o + k * 5 + 2, none⟩ = some (.slice (ps.getD k noPart).A (ps.getD k noPart).na (ps.getD k noPart).ca) ∧ w.cell? ⟨b, o + k * 5 + 3, none⟩ = some (.int .i64 (ps.getD k noPart).C) ∧ w.cell? ⟨b, o + k * 5 + 4, none⟩ = some (.slice (ps.getD k noPart).Z (ps.getD k noPart).nz (ps.getD k noPart).cz) ∧ PaOk w (ps.getD k noPart)
theorem PaOk.below {w w' : World} {p : PartR} (h : PaOk w p) (hb : Below w.heap.size w w') : PaOk w' p := ⟨h.1, h.2.1, h.2.2.1.below hb, h.2.2.2.below hb⟩
theorem Pa.below {w w' : World} {L : Option Addr} {ps : List PartR} (h : Pa w L ps) (hb : Below w.heap.size w w') : Pa w' L ps := fun k hk => by
  obtain ⟨b, o, h1, h2, h3, h4, h5, h6, h7⟩ := h k hk
  exact ⟨b, o, h1, cell_below h2 hb, cell_below h3 hb, cell_below h4 hb, cell_below h5 hb, cell_below h6 hb, h7.below hb⟩
end Go.Proofs.YtofkihlpbfcdkaaDoor
namespace Go.Proofs.YtofkihlpbfcdkaaDoor
open Go.ChangeShapes Go.WideShapes Go.ChangeAt Go.RowKit SpM
set_option linter.unusedVariables false
theorem cellsPart : Tryd.prog.cellsOf 56 = 5 := by kernel_rfl
section
variable {H : Type} {enc : TypeId × Value → H} {w : World} {base : Nat} {held : Bool}
set_option maxRecDepth 100000
def paC (p : PartR) : List Value := [.int .i64 p.ix, .int .i64 p.v, .slice p.A p.na p.ca, .int .i64 p.C, .slice p.Z p.nz p.cz]
theorem addr_at (b o k : Nat) (spot : Option Nat) (h : spot = none) : (⟨b, o, spot⟩ : Addr).add k = ⟨b, o + k, none⟩ := by
  subst h
  unfold Addr.add
  split
  · rename_i h0; subst h0; rfl
  · rfl
end
theorem cells_u8 {cl : List Value} : ∀ (k : Nat), (∀ i, i < k → ∃ z : Int, (cl.drop i).take 1 = [.int .u8 z] ∧ 0 ≤ z ∧ z < 256) → ∃ h : List Int, h.length = k ∧ cl.take k = h.map (.int .u8) ∧ bytesB h = true
  | 0, _ => ⟨[], rfl, by simp, rfl⟩
  | k + 1, hf => by
    obtain ⟨h, h1, h2, h3⟩ := cells_u8 k (fun i hi => hf i (by omega))
    obtain ⟨z, hz, z0, z1⟩ := hf k (by omega)
    refine ⟨h ++ [z], by simp [h1], by rw [List.take_add, h2, hz, List.map_append]; rfl, ?_⟩
    rw [bytesB_app, h3]
    simp [bytesB, z0, z1]
section
variable {H : Type} {enc : TypeId × Value → H} {w : World} {base : Nat} {held : Bool}
theorem cellsHash : Tryd.prog.cellsOf 42 = 32 := by kernel_rfl
end
end Go.Proofs.YtofkihlpbfcdkaaDoor
