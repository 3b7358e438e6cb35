/- Contracts and lemmas: EncC, EncD, TrA, RdgC, RdgE, DigG, TrB, TrC, TrD, TrE, TrF, TrG, DrA, OpD, DrB, DrC, DrD. -/
import Derived.Laws.AppendOwnNone
import Derived.Deep.MidRow
import Derived.Test.YtdlhodbiaoafiaaGreatDoorShelf
import Derived.Test.YtdlhodbiaoafiaaGreatDoorEs2
namespace Go.Proofs.YtdlhodbiaoafiaaGreatDoor
open Go.RowKit SpM
set_option linter.unusedVariables false
set_option linter.unusedSimpArgs false
set_option maxRecDepth 100000
set_option maxHeartbeats 3200000 in
theorem write_int (n : Int) (hn1 : -9223372036854775808 ≤ n) (hn2 : n < 9223372036854775808) (B : Option Addr) (cb : Nat) (L : Option Addr) (cl : Nat) (w : World) (base : Nat) (v : Value) (xs : List Int) (ho : Hid (OwnK .u8 5 w base v xs)) (hbase : base ≤ w.heap.size) (hlen : xs.length + 9 ≤ 16384) :
    Calls Tryz.prog 169 #[v, .agg #[.int .i64 1, .int .i64 n, .slice B 0 cb, .slice L 0 cl]] w (AppOut base v xs (enc (.int n)) w) := by
  obtain ⟨i0, hi, hz0, hz1, hz2⟩ := info_parts byteInfo
  obtain ⟨A, cp, rfl, -, -, -⟩ := ho.out.sk
  obtain ⟨N, hN⟩ : ∃ n, xs.length = n := ⟨_, rfl⟩
  rw [hN] at hlen ho ⊢
  have HN := Lib.hid hN
  have hlt : (Value.slice A N cp).ownBlock ≠ some w.heap.size := fun e => by have := (ho.out.lt _ e).2; omega
  obtain ⟨W, hW⟩ : ∃ W, w.alloc (.cells #[.int .i64 1, .int .i64 n, .slice B 0 cb, .slice L 0 cl] 141) = W := ⟨_, rfl⟩
  have hF : Four W w.heap.size 0 ⟨1, n, B, 0, cb, L, 0, cl⟩ := by rw [← hW]; exact four_alloc w ⟨1, n, B, 0, cb, L, 0, cl⟩
  have HA0 : Hid (App base w (.slice A N cp) xs [] W (.slice A N cp)) := Lib.hid (by rw [← hW]; exact App.alloc ho.out _)
  have hbW : base ≤ W.heap.size := by rw [← hW]; simp; omega
  have HSW : Hid (W.heap.size = w.heap.size + 1) := Lib.hid (by rw [← hW]; simp)
  obtain ⟨c0, c1, c2, c3⟩ := hF.get
  have HC := Lib.hid hF
  have hown := HA0.out.1.row (n := N) (by rw [List.append_nil, HN.out])
  rw [List.append_nil] at hown
  have HW := Lib.hid hW
  clear hN hF hW
  go_enter Tryz.func169, Tryz.ntmps169
  go_upto_region 3 with (fail)
  rw [HW.out]
  go_upto_region 4 with (at_builtin; refine wpList_append_lies rfl _ _ 114 rfl base 5 i0 (.int .u8 0) 1 1 Tryz.underlying114 hi hz0 hz1 hz2 rfl (by decide) _ _ _ rfl (hown.alloc _) ⟨W.heap.size, 0, none⟩ 1 1 [.int .u8 1] rfl rfl (cell_one_new _ _ _) (ints_oneCell .u8 [1]) (by decide) (by unfold maxLen; omega) (by omega) (by simp; omega) _ rfl ?_; intro g cap w2 hown2 hgrow2 hat2 hlt2)
  have HA1 := App.of_lies (v := .slice A N cp) (xs := xs) (ys := [1]) HN.out rfl rfl hown2 hgrow2 hat2
  have HA2 : Hid (App base w (.slice A N cp) xs [1] w2 (.slice (some ⟨g, 0, none⟩) (N + 1) cap)) := Lib.hid (HA0.out.pre (((App.alloc (by have h := HA0.out.1; rwa [List.append_nil] at h) _)).pre HA1))
  have hb2 : base ≤ w2.heap.size := Nat.le_trans hbase HA2.out.2.1.size
  have e0 := HA1.cell (cell_below c0 (below_box0 _ _)) hlt
  have e1 := HA1.cell (cell_below c1 (below_box0 _ _)) hlt
  have e2 := HA1.cell (cell_below c2 (below_box0 _ _)) hlt
  have e3 := HA1.cell (cell_below c3 (below_box0 _ _)) hlt
  rw [Nat.zero_add] at e1 e2 e3
  have hne2 : (Value.slice (some ⟨g, 0, none⟩) (N + 1) cap).ownBlock ≠ some w.heap.size := fun e => by
    rcases HA1.2.2 with e5 | e5
    · exact hlt (e5 ▸ e)
    · have h5 := e5 _ e; simp at h5; have := HSW.out; omega
  clear c0 c1 c2 c3 hown hown2 hgrow2 hat2 HA1 HC HW
  go_wp2_with fail
  refine (enumber_any base _ (xs ++ [1]) (N + 1) _ 8 (Or.inr rfl) (Lib.hid (by rw [List.length_append, HN.out]; rfl)) (by omega) _ (Lib.hid HA2.out.1) hb2).mono ?_
  rintro e w3 ⟨v3, rfl, ha3⟩
  have HF : Hid (App base w (.slice A N cp) xs (enc (.int n)) w3 v3) := Lib.hid (HA2.out.trans ha3)
  clear ha3 HA2
  go_wp2
  go_ret
  exact ⟨_, rfl, HF.out⟩
set_option maxHeartbeats 3200000 in
theorem write_byt (l : List Int) (n : Nat) (hn : Hid (l.length = n)) (hn0 : 0 < n) (b o : Nat) (cb : Nat) (L : Option Addr) (cl : Nat) (w0 w : World) (base : Nat) (v : Value) (xs : List Int) (hs : Hid (Sk .u8 w0 (some ⟨b, o, none⟩) l)) (hw0 : Hid (Below w0.heap.size w0 w)) (hw0b : w0.heap.size ≤ base) (ho : Hid (OwnK .u8 5 w base v xs)) (hbase : base ≤ w.heap.size) (hlen : xs.length + (n + 5) ≤ 16384) :
    Calls Tryz.prog 169 #[v, .agg #[.int .i64 2, .int .i64 0, .slice (some ⟨b, o, none⟩) n cb, .slice L 0 cl]] w (AppOut base v xs (enc (.byt l)) w) := by
  obtain ⟨i0, hi, hz0, hz1, hz2⟩ := info_parts byteInfo
  obtain ⟨A, cp, rfl, -, -, -⟩ := ho.out.sk
  obtain ⟨N, hN⟩ : ∃ n, xs.length = n := ⟨_, rfl⟩
  rw [hN] at hlen ho ⊢
  have HN := Lib.hid hN
  have hlt : (Value.slice A N cp).ownBlock ≠ some w.heap.size := fun e => by have := (ho.out.lt _ e).2; omega
  obtain ⟨W, hW⟩ : ∃ W, w.alloc (.cells #[.int .i64 2, .int .i64 0, .slice (some ⟨b, o, none⟩) n cb, .slice L 0 cl] 141) = W := ⟨_, rfl⟩
  have hF : Four W w.heap.size 0 ⟨2, 0, some ⟨b, o, none⟩, n, cb, L, 0, cl⟩ := by rw [← hW]; exact four_alloc w ⟨2, 0, some ⟨b, o, none⟩, n, cb, L, 0, cl⟩
  have HA0 : Hid (App base w (.slice A N cp) xs [] W (.slice A N cp)) := Lib.hid (by rw [← hW]; exact App.alloc ho.out _)
  have hbW : base ≤ W.heap.size := by rw [← hW]; simp; omega
  have HSW : Hid (W.heap.size = w.heap.size + 1) := Lib.hid (by rw [← hW]; simp)
  obtain ⟨c0, c1, c2, c3⟩ := hF.get
  have HC := Lib.hid hF
  have hown := HA0.out.1.row (n := N) (by rw [List.append_nil, HN.out])
  rw [List.append_nil] at hown
  have HW := Lib.hid hW
  clear hN hF hW
  go_enter Tryz.func169, Tryz.ntmps169
  go_upto_region 3 with (fail)
  rw [HW.out]
  go_upto_region 4 with (at_builtin; refine wpList_append_lies rfl _ _ 114 rfl base 5 i0 (.int .u8 0) 1 1 Tryz.underlying114 hi hz0 hz1 hz2 rfl (by decide) _ _ _ rfl (hown.alloc _) ⟨W.heap.size, 0, none⟩ 1 1 [.int .u8 2] rfl rfl (cell_one_new _ _ _) (ints_oneCell .u8 [2]) (by decide) (by unfold maxLen; omega) (by omega) (by simp; omega) _ rfl ?_; intro g cap w2 hown2 hgrow2 hat2 hlt2)
  have HA1 := App.of_lies (v := .slice A N cp) (xs := xs) (ys := [2]) HN.out rfl rfl hown2 hgrow2 hat2
  have HA2 : Hid (App base w (.slice A N cp) xs [2] w2 (.slice (some ⟨g, 0, none⟩) (N + 1) cap)) := Lib.hid (HA0.out.pre (((App.alloc (by have h := HA0.out.1; rwa [List.append_nil] at h) _)).pre HA1))
  have hb2 : base ≤ w2.heap.size := Nat.le_trans hbase HA2.out.2.1.size
  have e0 := HA1.cell (cell_below c0 (below_box0 _ _)) hlt
  have e1 := HA1.cell (cell_below c1 (below_box0 _ _)) hlt
  have e2 := HA1.cell (cell_below c2 (below_box0 _ _)) hlt
  have e3 := HA1.cell (cell_below c3 (below_box0 _ _)) hlt
  rw [Nat.zero_add] at e1 e2 e3
  have hne2 : (Value.slice (some ⟨g, 0, none⟩) (N + 1) cap).ownBlock ≠ some w.heap.size := fun e => by
    rcases HA1.2.2 with e5 | e5
    · exact hlt (e5 ▸ e)
    · have h5 := e5 _ e; simp at h5; have := HSW.out; omega
  clear c0 c1 c2 c3 hown hown2 hgrow2 hat2 HA1 HC HW
  have u1 : IntKind.u64.wrap (n : Int) = (n : Int) := by simp [IntKind.wrap, IntKind.bits, IntKind.signed]; omega
  go_wp2_with fail
  have HE2 := Lib.hid e2
  clear e0 e1 e2 e3
  refine wp_region_T (S := fun w' => w'.cell? ⟨w.heap.size, 2, none⟩ = some (.slice (some ⟨b, o, none⟩) n cb)) (E := [8, 9]) (by kernel_rfl) (cell_below HE2.out (Below.refl _ _).drew) (fun hHeld => ?_)
  refine wpT_take (i := 0) (oi := _) (v := ?_) rfl (by kernel_rfl) (by kernel_rfl) (by kernel_rfl) (by kernel_rfl) (fun _ _ _ h => h) (Or.inl ⟨by rfl, ?_⟩) (by assumption) ?_
  rotate_left; (intro wS hSw; (try dsimp only at hSw); go_simp <;> with_reducible rfl)
  try simp only [List.getElem_toArray, List.getElem_cons_zero, List.getElem_cons_succ, Act.put, List.setIfInBounds_toArray, List.set_cons_zero, List.set_cons_succ]
  refine wpT_take (i := 1) (oi := _) (v := ?_) rfl (by kernel_rfl) (by kernel_rfl) (by kernel_rfl) (by kernel_rfl) (fun _ _ _ h => h) (Or.inl ⟨by rfl, ?_⟩) (by assumption) ?_
  rotate_left; (intro wS hSw; (try dsimp only at hSw); go_simp <;> with_reducible rfl)
  try simp only [List.getElem_toArray, List.getElem_cons_zero, List.getElem_cons_succ, Act.put, List.setIfInBounds_toArray, List.set_cons_zero, List.set_cons_succ]
  refine wpT_take (i := 2) (oi := _) (v := ?_) rfl (by kernel_rfl) (by kernel_rfl) (by kernel_rfl) (by kernel_rfl) (fun _ _ _ h => h) (Or.inl ⟨by rfl, ?_⟩) (by assumption) ?_
  rotate_left; (intro wS hSw; (try dsimp only at hSw); go_simp <;> with_reducible rfl)
  try simp only [List.getElem_toArray, List.getElem_cons_zero, List.getElem_cons_succ, Act.put, List.setIfInBounds_toArray, List.set_cons_zero, List.set_cons_succ]
  refine wpT_take (i := 3) (oi := _) (v := ?_) rfl (by kernel_rfl) (by kernel_rfl) (by kernel_rfl) (by kernel_rfl) (fun _ _ _ h => h) (Or.inl ⟨by rfl, ?_⟩) (by assumption) ?_
  rotate_left; (intro wS hSw; (try dsimp only at hSw); go_simp <;> with_reducible rfl)
  try simp only [List.getElem_toArray, List.getElem_cons_zero, List.getElem_cons_succ, Act.put, List.setIfInBounds_toArray, List.set_cons_zero, List.set_cons_succ]
  refine wpT_take (i := 4) (oi := _) (v := ?_) rfl (by kernel_rfl) (by kernel_rfl) (by kernel_rfl) (by kernel_rfl) (fun _ _ _ h => h) (Or.inl ⟨by rfl, ?_⟩) (by assumption) ?_
  rotate_left; (intro wS hSw; (try dsimp only at hSw); go_simp <;> with_reducible rfl)
  try simp only [List.getElem_toArray, List.getElem_cons_zero, List.getElem_cons_succ, Act.put, List.setIfInBounds_toArray, List.set_cons_zero, List.set_cons_succ]
  refine wpT_take (i := 6) (oi := _) (v := ?_) rfl (by kernel_rfl) (by kernel_rfl) (by kernel_rfl) (by kernel_rfl) (fun _ _ _ h => h) (Or.inl ⟨by rfl, ?_⟩) (by assumption) ?_
  rotate_left; (intro wS hSw; (try dsimp only at hSw); go_simp <;> with_reducible rfl)
  try simp only [List.getElem_toArray, List.getElem_cons_zero, List.getElem_cons_succ, Act.put, List.setIfInBounds_toArray, List.set_cons_zero, List.set_cons_succ]
  refine wpT_take (i := 7) (oi := _) (v := ?_) rfl (by kernel_rfl) (by kernel_rfl) (by kernel_rfl) (by kernel_rfl) (fun _ _ _ h => h) (Or.inl ⟨by rfl, ?_⟩) (by assumption) ?_
  rotate_left; (intro wS hSw; (try dsimp only at hSw); go_simp <;> with_reducible rfl)
  try simp only [List.getElem_toArray, List.getElem_cons_zero, List.getElem_cons_succ, Act.put, List.setIfInBounds_toArray, List.set_cons_zero, List.set_cons_succ]
  refine wpT_one (i := 5) (by kernel_rfl) rfl (fun K hK => ?_)
  go_simp
  refine (enumber_any base _ (xs ++ [2]) (N + 1) n 4 (Or.inl rfl) (Lib.hid (by rw [List.length_append, HN.out]; rfl)) (by omega) _ (Lib.hid (HA2.out.1.keep (Below.refl _ _).drew)) hb2).mono ?_
  rintro e w3 ⟨v3, rfl, ha3⟩
  have HA3 : Hid (App base w (.slice A N cp) xs (2 :: bes 4 n) w3 v3) := Lib.hid (HA2.out.trans ((App.calm HA2.out.1 (Below.refl _ _).drew).pre ha3))
  have hsb := hs.out.below (HA3.out.below ho.out hw0.out hw0b hw0.out.size)
  have hb3 : base ≤ w3.heap.size := Nat.le_trans hbase HA3.out.2.1.size
  have hl3 : (xs ++ 2 :: bes 4 (n : Int)).length = N + 1 + 4 := by rw [List.length_append, HN.out, List.length_cons, bes_len (Or.inl rfl)]
  have hrow3 := HA3.out.1.row hl3
  refine hK.out _ _ ?_ (fun hHeld => ?_)
  · exact ha3.cell (cell_below HE2.out (Below.refl _ _).drew) hne2
  clear hK K
  try simp only [List.getElem_toArray, List.getElem_cons_zero, List.getElem_cons_succ, Act.put, List.setIfInBounds_toArray, List.set_cons_zero, List.set_cons_succ]
  refine wpT_pass (i := 8) (by kernel_rfl) (by simp) rfl (fun K hK => ?_)
  refine step_append_lies _ (by rfl) _ _ _ (by rfl) base 5 i0 _ 1 1 Tryz.underlying114 hi hz0 hz1 hz2 rfl (by omega) v3 (N + 1 + 4) ((xs ++ 2 :: bes 4 (n : Int)).map (.int .u8)) (by rfl) hrow3 ⟨b, o, none⟩ n cb (l.map (.int .u8)) (by rfl) (by simp [hn.out]) hsb.news (ints_oneCell .u8 _) hn0 (by unfold maxLen; omega) (by omega) hb3 w3.heap.size rfl ?_
  intro g4 cap4 w4 hown4 hgrow4 hat4 hlt4
  have HA4 := App.of_lies (v := v3) (xs := xs ++ 2 :: bes 4 (n : Int)) (ys := l) hl3 hn.out rfl hown4 hgrow4 hat4
  refine hK.out _ _ ?_
  clear hK K
  try simp only [List.getElem_toArray, List.getElem_cons_zero, List.getElem_cons_succ, Act.put, List.setIfInBounds_toArray, List.set_cons_zero, List.set_cons_succ]
  refine wpT_pass (i := 9) (by kernel_rfl) (by simp) rfl (fun K hK => ?_)
  go_simp
  refine hK.out _ _ ?_
  clear hK K
  try simp only [List.getElem_toArray, List.getElem_cons_zero, List.getElem_cons_succ, Act.put, List.setIfInBounds_toArray, List.set_cons_zero, List.set_cons_succ]
  refine wpT_done (by kernel_rfl) ?_ _
  have HF : Hid (App base w (.slice A N cp) xs (enc (.byt l)) w4 (.slice (some ⟨g4, 0, none⟩) (N + 1 + 4 + n) cap4)) := Lib.hid (by
    rw [enc_byt, hn.out]
    exact HA3.out.trans HA4)
  clear HA4 HA3 HA2 HE2
  go_wp2
  go_ret
  exact ⟨_, rfl, HF.out⟩
set_option maxHeartbeats 3200000 in
theorem write_lst (l : List It) (n : Nat) (hn : Hid (l.length = n)) (hn1 : n ≤ 1000) (f : Nat → Ic) (B : Option Addr) (cb : Nat) (L : Option Addr) (cl : Nat) (w0 w : World) (base : Nat) (v : Value) (xs : List Int)
    (h5 : Hid (∀ k, k < l.length → ∃ b o, L = some ⟨b, o, none⟩ ∧ Four w0 b (o + k * 4) (f k))) (h6 : Hid (∀ k, k < l.length → ItR w0 (l.getD k default) (f k))) (hw0 : Hid (Below w0.heap.size w0 w)) (hw0b : w0.heap.size ≤ base) (ho : Hid (OwnK .u8 5 w base v xs)) (hbase : base ≤ w.heap.size)
    (hsm : Hid (xs.length + (enc (.lst l)).length ≤ 16384))
    (ih : ∀ (k : Nat), k < l.length → ∀ (w : World) (v : Value) (ys : List Int), Below w0.heap.size w0 w → OwnK .u8 5 w base v ys → base ≤ w.heap.size → ys.length + (enc (l.getD k default)).length ≤ 16384 → Calls Tryz.prog 169 #[v, (f k).val] w (AppOut base v ys (enc (l.getD k default)) w)) :
    Calls Tryz.prog 169 #[v, .agg #[.int .i64 3, .int .i64 0, .slice B 0 cb, .slice L n cl]] w (AppOut base v xs (enc (.lst l)) w) := by
  have hlen : xs.length + 5 ≤ 16384 := by have h := hsm.out; rw [enc_lst, List.length_cons, List.length_append, be4_len] at h; omega
  have HIH := Lib.hid ih
  clear ih
  obtain ⟨i0, hi, hz0, hz1, hz2⟩ := info_parts byteInfo
  obtain ⟨A, cp, rfl, -, -, -⟩ := ho.out.sk
  obtain ⟨N, hN⟩ : ∃ n, xs.length = n := ⟨_, rfl⟩
  rw [hN] at hlen ho ⊢
  have HN := Lib.hid hN
  have hlt : (Value.slice A N cp).ownBlock ≠ some w.heap.size := fun e => by have := (ho.out.lt _ e).2; omega
  obtain ⟨W, hW⟩ : ∃ W, w.alloc (.cells #[.int .i64 3, .int .i64 0, .slice B 0 cb, .slice L n cl] 141) = W := ⟨_, rfl⟩
  have hF : Four W w.heap.size 0 ⟨3, 0, B, 0, cb, L, n, cl⟩ := by rw [← hW]; exact four_alloc w ⟨3, 0, B, 0, cb, L, n, cl⟩
  have HA0 : Hid (App base w (.slice A N cp) xs [] W (.slice A N cp)) := Lib.hid (by rw [← hW]; exact App.alloc ho.out _)
  have hbW : base ≤ W.heap.size := by rw [← hW]; simp; omega
  have HSW : Hid (W.heap.size = w.heap.size + 1) := Lib.hid (by rw [← hW]; simp)
  obtain ⟨c0, c1, c2, c3⟩ := hF.get
  have HC := Lib.hid hF
  have hown := HA0.out.1.row (n := N) (by rw [List.append_nil, HN.out])
  rw [List.append_nil] at hown
  have HW := Lib.hid hW
  clear hN hF hW
  go_enter Tryz.func169, Tryz.ntmps169
  go_upto_region 3 with (fail)
  rw [HW.out]
  go_upto_region 4 with (at_builtin; refine wpList_append_lies rfl _ _ 114 rfl base 5 i0 (.int .u8 0) 1 1 Tryz.underlying114 hi hz0 hz1 hz2 rfl (by decide) _ _ _ rfl (hown.alloc _) ⟨W.heap.size, 0, none⟩ 1 1 [.int .u8 3] rfl rfl (cell_one_new _ _ _) (ints_oneCell .u8 [3]) (by decide) (by unfold maxLen; omega) (by omega) (by simp; omega) _ rfl ?_; intro g cap w2 hown2 hgrow2 hat2 hlt2)
  have HA1 := App.of_lies (v := .slice A N cp) (xs := xs) (ys := [3]) HN.out rfl rfl hown2 hgrow2 hat2
  have HA2 : Hid (App base w (.slice A N cp) xs [3] w2 (.slice (some ⟨g, 0, none⟩) (N + 1) cap)) := Lib.hid (HA0.out.pre (((App.alloc (by have h := HA0.out.1; rwa [List.append_nil] at h) _)).pre HA1))
  have hb2 : base ≤ w2.heap.size := Nat.le_trans hbase HA2.out.2.1.size
  have e0 := HA1.cell (cell_below c0 (below_box0 _ _)) hlt
  have e1 := HA1.cell (cell_below c1 (below_box0 _ _)) hlt
  have e2 := HA1.cell (cell_below c2 (below_box0 _ _)) hlt
  have e3 := HA1.cell (cell_below c3 (below_box0 _ _)) hlt
  rw [Nat.zero_add] at e1 e2 e3
  have hne2 : (Value.slice (some ⟨g, 0, none⟩) (N + 1) cap).ownBlock ≠ some w.heap.size := fun e => by
    rcases HA1.2.2 with e5 | e5
    · exact hlt (e5 ▸ e)
    · have h5 := e5 _ e; simp at h5; have := HSW.out; omega
  clear c0 c1 c2 c3 hown hown2 hgrow2 hat2 HA1 HC HW
  have u1 : IntKind.u64.wrap (n : Int) = (n : Int) := by simp [IntKind.wrap, IntKind.bits, IntKind.signed]; omega
  go_wp2_with fail
  refine (enumber_any base _ (xs ++ [3]) (N + 1) n 4 (Or.inl rfl) (Lib.hid (by rw [List.length_append, HN.out]; rfl)) (by omega) _ (Lib.hid HA2.out.1) hb2).mono ?_
  rintro e w3 ⟨v3, rfl, ha3⟩
  have f3 := ha3.cell e3 hne2
  have HA3 : Hid (App base w (.slice A N cp) xs (3 :: bes 4 n) w3 v3) := Lib.hid (HA2.out.trans ha3)
  clear ha3 HA2 e0 e1 e2 e3
  have HA4 : Hid (App base w (.slice A N cp) xs ((3 :: bes 4 n) ++ encL (l.take 0)) w3 v3) := Lib.hid (by rw [List.take_zero]; simpa [encL] using HA3.out)
  clear HA3
  go_wp2_with fail
  clear f3
  go_loopw [0, 46] (fun p i u => ∃ k : Nat, k ≤ n ∧ i = .int .i64 k ∧ Hid (App base w (.slice A N cp) xs ((3 :: bes 4 n) ++ encL (l.take k)) u p)) (fun _ i _ => n - (intOf i).toNat)
  case atStart => exact ⟨0, by omega, rfl, HA4⟩
  case round =>
    obtain ⟨k, hk, rfl, HA⟩ := hrel
    by_cases hlk : k < n
    · have hkl : k < l.length := by rw [hn.out]; exact hlk
      obtain ⟨b, o, hL, h4⟩ := h5.out k hkl
      subst hL
      have hbw := HA.out.below ho.out hw0.out hw0b hw0.out.size
      have hle : (xs ++ ((3 :: bes 4 (n : Int)) ++ encL (l.take k))).length + (enc (l.getD k default)).length ≤ 16384 := by
        have h := hsm.out
        have t1 := encL_take hkl
        have t2 := encL_take_le (l := l) (k := k + 1)
        rw [t1, List.length_append] at t2
        rw [enc_lst, List.length_cons, List.length_append, be4_len] at h
        rw [List.length_append, List.length_append, List.length_cons, bes_len (Or.inl rfl)]
        omega
      have hbs : base ≤ wr.heap.size := Nat.le_trans hbase HA.out.2.1.size
      have hstep := encL_take hkl
      obtain ⟨ic, hic⟩ : ∃ x, f k = x := ⟨_, rfl⟩
      obtain ⟨kd, nn, B', nb, cb', L', nl, cl'⟩ := ic
      obtain ⟨WX, hWX⟩ : ∃ u, wr.alloc (.cells #[.int .i64 kd, .int .i64 nn, .slice B' nb cb', .slice L' nl cl'] 141) = u := ⟨_, rfl⟩
      have HAX : Hid (App base w (.slice A N cp) xs ((3 :: bes 4 n) ++ encL (l.take k)) WX u0) := Lib.hid (by
        have h := HA.out.trans (App.alloc HA.out.1 (.cells #[.int .i64 kd, .int .i64 nn, .slice B' nb cb', .slice L' nl cl'] 141))
        rw [List.append_nil] at h
        rwa [← hWX])
      have hbwX : Below w0.heap.size w0 WX := HAX.out.below ho.out hw0.out hw0b hw0.out.size
      have hbsX : base ≤ WX.heap.size := by rw [← hWX]; simp; omega
      have HC0 := HIH.out k hkl WX u0 _ hbwX HAX.out.1 hbsX hle
      rw [hic] at h4 HC0
      have HC : Hid (Calls Tryz.prog 169 #[u0, .agg #[.int .i64 kd, .int .i64 nn, .slice B' nb cb', .slice L' nl cl']] WX (AppOut base u0 (xs ++ ((3 :: bes 4 (n : Int)) ++ encL (l.take k))) (enc (l.getD k default)) WX)) := Lib.hid HC0
      obtain ⟨i0', i1', i2', i3'⟩ := (h4.below hbw).get
      obtain ⟨et, het⟩ : ∃ x, enc (l.getD k default) = x := ⟨_, rfl⟩
      rw [het] at HC hstep
      have HST := Lib.hid hstep
      have HWX := Lib.hid hWX
      clear hkl h4 hbw hle hstep hic hWX hbwX HC0 het HA
      go_wp2_with fail
      rw [HWX.out]
      refine HC.out.mono ?_
      rintro e w5 ⟨v5, rfl, ha5⟩
      have HA6 : Hid (App base w (.slice A N cp) xs ((3 :: bes 4 n) ++ encL (l.take (k + 1))) w5 v5) := Lib.hid (by
        rw [HST.out, ← List.append_assoc]
        exact HAX.out.trans ha5)
      clear ha5 HC HAX i0' i1' i2' i3' HWX
      go_wp2
      go_roundw
      case rel => exact ⟨k + 1, by omega, by go_num, HA6⟩
      case measure => simp [intOf]; omega
    · have HF : Hid (App base w (.slice A N cp) xs (enc (.lst l)) wr u0) := Lib.hid (by
        have h := HA.out
        rw [show k = l.length by rw [hn.out]; omega, List.take_length] at h
        rw [enc_lst, hn.out]
        exact h)
      clear HA
      go_wp2
      go_ret
      exact ⟨_, rfl, HF.out⟩
theorem write_any : ∀ (d : Nat) (i : It) (c : Ic) (w0 w : World) (base : Nat) (v : Value) (xs : List Int), fits d i → ItR w0 i c → Below w0.heap.size w0 w → w0.heap.size ≤ base → OwnK .u8 5 w base v xs → base ≤ w.heap.size → xs.length + (enc i).length ≤ 16384 →
    Calls Tryz.prog 169 #[v, c.val] w (AppOut base v xs (enc i) w) := by
  intro d
  induction d with
  | zero =>
    intro i c w0 w base v xs hf hr hw hwb ho hb hl
    obtain ⟨kd, nn, B, nb, cb, L, nl, cl⟩ := c
    cases hr with
    | int n _ h1 h2 h3 h4 =>
      dsimp only at h1 h2 h3 h4
      subst h1; subst h2; subst h3; subst h4
      exact write_int nn hf.1 hf.2 B cb L cl w base v xs (Lib.hid ho) hb hl
    | byt b _ h1 h2 h3 h4 h5 =>
      dsimp only at h1 h2 h3 h4 h5
      subst h1; subst h2; subst h4; subst h3
      obtain ⟨b', o', rfl, _⟩ := h5.at0 hf.1.1
      rw [enc_byt, List.length_cons, List.length_append, be4_len] at hl
      exact write_byt b b.length (Lib.hid rfl) hf.1.1 b' o' cb L cl w0 w base v xs (Lib.hid h5) (Lib.hid hw) hwb (Lib.hid ho) hb (by omega)
    | lst l _ h1 h2 h3 h4 f h5 h6 => exact absurd hf (by simp [fits])
  | succ d ih =>
    intro i c w0 w base v xs hf hr hw hwb ho hb hl
    obtain ⟨kd, nn, B, nb, cb, L, nl, cl⟩ := c
    cases hr with
    | int n _ h1 h2 h3 h4 =>
      dsimp only at h1 h2 h3 h4
      subst h1; subst h2; subst h3; subst h4
      exact write_int nn hf.1 hf.2 B cb L cl w base v xs (Lib.hid ho) hb hl
    | byt b _ h1 h2 h3 h4 h5 =>
      dsimp only at h1 h2 h3 h4 h5
      subst h1; subst h2; subst h4; subst h3
      obtain ⟨b', o', rfl, _⟩ := h5.at0 hf.1.1
      rw [enc_byt, List.length_cons, List.length_append, be4_len] at hl
      exact write_byt b b.length (Lib.hid rfl) hf.1.1 b' o' cb L cl w0 w base v xs (Lib.hid h5) (Lib.hid hw) hwb (Lib.hid ho) hb (by omega)
    | lst l _ h1 h2 h3 h4 f h5 h6 =>
      dsimp only at h1 h2 h3 h4 h5
      subst h1; subst h2; subst h3; subst h4
      refine write_lst l l.length (Lib.hid rfl) hf.1 f B cb L cl w0 w base v xs (Lib.hid h5) (Lib.hid h6) (Lib.hid hw) hwb (Lib.hid ho) hb (Lib.hid hl) ?_
      intro k hk w' v' ys hw' ho' hb' hl'
      exact ih _ (f k) w0 w' base v' ys (hf.2 _ (by rw [List.getD_eq_getElem?_getD, List.getElem?_eq_getElem hk]; exact List.getElem_mem hk)) (h6 k hk) hw' hwb ho' hb' hl'
/-- bytes of the call's own, and no error. -/
def EncOk (ys : List Int) (w : World) (e : Ending) (w' : World) : Prop := ∃ v, e = .returned (.tuple #[v, .int .i64 0]) ∧ OwnK .u8 5 w' w.heap.size v ys ∧ Below w.heap.size w w'
set_option maxHeartbeats 1600000 in
theorem encode_any (i : It) (c : Ic) (w : World) (hf : fits 8 i) (hr : ItR w i c) (hl : (enc i).length ≤ 16384) :
    Calls Tryz.prog 149 #[c.val] w (EncOk (enc i) w) := by
  have HV := Lib.hid (evalid_any i c (w.alloc (icObj c)) hf (hr.kept (below_box0 _ _)))
  have hF := four_alloc w c
  have HE : Hid (∀ u, Below (w.alloc (icObj c)).heap.size (w.alloc (icObj c)) u → Calls Tryz.prog 169 #[.slice none 0 0, c.val] u (AppOut u.heap.size (.slice none 0 0) [] (enc i) u)) := Lib.hid (fun u hu =>
    write_any 8 i c w u u.heap.size (.slice none 0 0) [] hf hr (below_ext (below_box0 _ _) hu) (by have := hu.size; simp at this; omega) (ownK_nil _ _) (Nat.le_refl _) (by simpa using hl))
  obtain ⟨ys, hys⟩ : ∃ ys, enc i = ys := ⟨_, rfl⟩
  rw [hys] at HE hl ⊢
  obtain ⟨kd, nn, B, nb, cb, L, nl, cl⟩ := c
  obtain ⟨W, hW⟩ : ∃ W, w.alloc (icObj ⟨kd, nn, B, nb, cb, L, nl, cl⟩) = W := ⟨_, rfl⟩
  rw [hW] at HV HE hF
  have HBX : Hid (Below w.heap.size w W) := Lib.hid (by rw [← hW]; exact below_box0 _ _)
  have HF := Lib.hid hF
  have HW : Hid (w.alloc (.cells #[.int .i64 kd, .int .i64 nn, .slice B nb cb, .slice L nl cl] 141) = W) := Lib.hid hW
  show Calls Tryz.prog 149 #[.agg #[.int .i64 kd, .int .i64 nn, .slice B nb cb, .slice L nl cl]] w (EncOk ys w)
  obtain ⟨c0, c1, c2, c3⟩ := hF.get
  clear hf hr hys hW hF
  go_enter Tryz.func149, Tryz.ntmps149
  go_wp2_with fail
  rw [HW.out]
  refine HV.out.mono ?_
  rintro e w2 ⟨rfl, hb0⟩
  obtain ⟨d0, d1, d2, d3⟩ := (HF.out.below hb0).get
  have HE2 := Lib.hid (HE.out w2 hb0)
  have HB2 := Lib.hid (below_ext HBX.out hb0)
  clear c0 c1 c2 c3 hb0 HE HV HW
  go_wp2_with fail
  refine HE2.out.mono ?_
  rintro e w3 ⟨v3, rfl, ha3⟩
  have HO3 : Hid (OwnK .u8 5 w3 w2.heap.size v3 ys) := Lib.hid (by have h := ha3.1; rwa [List.nil_append] at h)
  have HB3 : Hid (Below w.heap.size w w3) := Lib.hid (ha3.below (B := w.heap.size) (ownK_nil _ _) HB2.out HB2.out.size HB2.out.size)
  have hz : w.heap.size ≤ w2.heap.size := HB2.out.size
  clear ha3 HE2 d0 d1 d2 d3
  obtain ⟨A, cp, rfl, -, -, -⟩ := HO3.out.sk
  obtain ⟨N, hN⟩ : ∃ n, ys.length = n := ⟨_, rfl⟩
  rw [hN] at hl HO3 ⊢
  clear hN
  have t1 : ¬ 16384 < N := by omega
  go_wp2
  go_ret2
  exact ⟨_, rfl, HO3.out.mono hz, HB3.out⟩
end Go.Proofs.YtdlhodbiaoafiaaGreatDoor
namespace Go.Proofs.YtdlhodbiaoafiaaGreatDoor
open Go.RowKit SpM
set_option linter.unusedVariables false
set_option linter.unusedSimpArgs false
set_option maxRecDepth 100000
def itemCells (c : Ic) : List Value := [.int .i64 c.kind, .int .i64 c.n, .slice c.B c.nb c.cb, .slice c.L c.nl c.cl]
theorem itemInfo : (Tryz.prog.info? 141).map (fun i => (i.zero, i.size, i.bytes)) = some (some (.agg #[.int .i64 0, .int .i64 0, .slice none 0 0, .slice none 0 0]), 4, 64) := by kernel_rfl
theorem grown_set2 (w : World) (a j : Nat) (v : Value) : w.grownBy (w.setCell ⟨a, j, none⟩ v) (some a) :=
  ⟨rfl, rfl, rfl, by simp [World.setCell], fun k hk hne => by
    have : a ≠ k := fun e => hne (by rw [e])
    simp [World.setCell, Array.getElem?_modify, this]⟩
theorem own_grown2 {w w1 : World} {row : Option Nat} {p : Addr} {v : Value} (h : Own w p v) (hg : w.grownBy w1 row) (hne : row ≠ some p.block) : Own w1 p v := by
  have hlt := World.block_lt_of_cell? _ _ h.1
  exact ⟨by rw [hg.cell_far _ hlt (Ne.symm hne)]; exact h.1, by rw [hg.frozen_far _ hlt (Ne.symm hne)]; exact h.2⟩
theorem own_set_ne2 {w : World} {p q : Addr} {v u : Value} (h : Own w p v) (hne : q ≠ p) : Own (w.setCell q u) p v :=
  ⟨by rw [World.cell?_setCell_other _ _ _ _ hne]; exact h.1, by rw [World.frozen?_setCell]; exact h.2⟩
theorem own_set_eq2 {w : World} {p : Addr} {v u : Value} (h : Own w p v) : Own (w.setCell p u) p u :=
  ⟨World.cell?_setCell_same _ _ _ h.1, by rw [World.frozen?_setCell]; exact h.2⟩
theorem results_cell1 {P : Program} {fn : Func} {p : Tmp} {ty : TypeId} (h : fn.results = #[.cell p ty]) (tmps : Array Value) (w : World) (a : Addr) (v : Value)
    (hp : tmps.getD p undef = .pointer (some a)) (hl : (loadVar ty a).run P w = .ok v w) : (results fn tmps).run P w = .ok v w := by
  have hp' : tmps[p]?.getD undef = .pointer (some a) := by simpa using hp
  simp [results, h, hp', asAddr, hl]
/-- a row of items that the call owns. -/
def OwnI (w : World) (base : Nat) (v : Value) (cs : List Ic) : Prop := w.ownsRow base 141 4 v cs.length (cs.flatMap itemCells)
instance icInh : Inhabited Ic := ⟨⟨0, 0, none, 0, 0, none, 0, 0⟩⟩
theorem cells_at (cs : List Ic) (k r : Nat) (hr : r < 4) (hk : k < cs.length) : (cs.flatMap itemCells)[k * 4 + r]? = (itemCells (cs.getD k default))[r]? := by
  induction cs generalizing k with
  | nil => simp at hk
  | cons c cs ih =>
    cases k with
    | zero =>
      rw [List.flatMap_cons, Nat.zero_mul, Nat.zero_add, List.getElem?_append_left (by simpa [itemCells] using hr)]
      rfl
    | succ k =>
      rw [List.flatMap_cons, List.getElem?_append_right (by simp [itemCells]; omega)]
      rw [show (k + 1) * 4 + r - (itemCells c).length = k * 4 + r by simp [itemCells]; omega]
      rw [ih k (by simpa using hk)]
      rfl
theorem OwnI.four {w : World} {base : Nat} {v : Value} {cs : List Ic} (h : OwnI w base v cs) (h0 : 0 < cs.length) : ∃ g cap, v = .slice (some ⟨g, 0, none⟩) cs.length cap ∧ base ≤ g ∧ cs.length ≤ cap ∧ ∀ k, k < cs.length → Four w g (0 + k * 4) (cs.getD k default) := by
  obtain ⟨h1, h2⟩ := h
  rcases h2 with ⟨_, h3⟩ | ⟨g, cap, cur, rfl, hg, hh, hn, hc, hs, ht⟩
  · omega
  · refine ⟨g, cap, rfl, hg, hn, fun k hk => ?_⟩
    have key : ∀ r, r < 4 → w.cell? ⟨g, k * 4 + r, none⟩ = (itemCells (cs.getD k default))[r]? := fun r hr => by
      rw [cell_blk hh, ← Array.getElem?_toList, ← cells_at cs k r hr hk, ← ht, List.getElem?_take_of_lt (by omega)]
    rw [Nat.zero_add]
    exact ⟨key 0 (by omega), key 1 (by omega), key 2 (by omega), key 3 (by omega)⟩
theorem ownI_nil (w : World) (base : Nat) : OwnI w base (.slice none 0 0) [] := World.ownsRow_nil _ _ _ _
theorem OwnI.len {w : World} {base : Nat} {v : Value} {cs : List Ic} (h : OwnI w base v cs) : ∃ A cap, v = .slice A cs.length cap := by
  by_cases h0 : 0 < cs.length
  · obtain ⟨g, cap, e, _⟩ := h.four h0
    exact ⟨_, cap, e⟩
  · obtain ⟨_, h2⟩ := h
    rcases h2 with ⟨hv, _⟩ | ⟨g, cap, cur, hv, _⟩
    · exact ⟨none, 0, by rw [hv]; congr 1; omega⟩
    · exact ⟨_, cap, hv⟩
theorem OwnI.keep {w w' : World} {B : Nat} {v : Value} {xs : List Ic} (h : OwnI w B v xs) (hb : Below w.heap.size w w') : OwnI w' B v xs := by
  obtain ⟨h1, h2⟩ := h
  refine ⟨h1, h2.imp id ?_⟩
  rintro ⟨g, cap, cur, rfl, hg, hh, rest⟩
  exact ⟨g, cap, cur, rfl, hg, (hb.block g (Array.getElem?_eq_some_iff.1 hh).1).trans hh, rest⟩
theorem OwnI.app {w1 : World} {base k : Nat} {v' : Value} {xs : List Ic} {c : Ic} (hk : k = xs.length)
    (h : w1.ownsRow base 141 4 v' (k + 1) (xs.flatMap itemCells ++ itemCells c)) : OwnI w1 base v' (xs ++ [c]) := by
  unfold OwnI
  rw [List.length_append, List.flatMap_append, List.length_singleton, ← hk]
  simpa using h
theorem OwnI.no {w : World} {base a : Nat} {v : Value} {cs : List Ic} (h : OwnI w base v cs) (ha : a < base) : v.ownBlock ≠ some a := fun e => by
  have := (World.ownsRow.lt h _ e).1
  omega
theorem OwnI.set {w : World} {base a j : Nat} {v u : Value} {cs : List Ic} (h : OwnI w base v cs) (ha : a < base) : OwnI (w.setCell ⟨a, j, none⟩ u) base v cs :=
  World.ownsRow.kept h (grown_set2 w a j u) (Or.inr (h.no ha))
/-- the fields of an integer. -/
def icInt (n : Int) : Ic := ⟨1, n, none, 0, 0, none, 0, 0⟩
theorem icInt_take {l : List Int} {k : Nat} (hk : k < l.length) : (l.take (k + 1)).map icInt = (l.take k).map icInt ++ [icInt (l.getD k 0)] := by
  rw [take_one hk, List.map_append]; rfl
/-- an item is returned. -/
def ItOut (i : It) (w : World) (e : Ending) (w' : World) : Prop := ∃ c : Ic, e = .returned c.val ∧ ItR w' i c ∧ Below w.heap.size w w'
theorem itr_ints {w : World} {base : Nat} {v : Value} {l : List Int} (h : OwnI w base v (l.map icInt)) : ∃ L cl, v = .slice L l.length cl ∧ ItR w (.lst (l.map .int)) ⟨3, 0, none, 0, 0, L, l.length, cl⟩ := by
  by_cases h0 : 0 < l.length
  · obtain ⟨g, cap, e, _, _, hf⟩ := h.four (by rw [List.length_map]; exact h0)
    rw [List.length_map] at e hf
    refine ⟨_, cap, e, .lst _ _ rfl rfl rfl (by rw [List.length_map]) (fun k => icInt (l.getD k 0)) (fun k hk => ⟨g, 0, rfl, ?_⟩) (fun k hk => ?_)⟩
    · rw [List.length_map] at hk
      have := hf k hk
      have e2 : (l.map icInt).getD k default = icInt (l.getD k 0) := by
        simp [List.getD_eq_getElem?_getD, List.getElem?_eq_getElem hk]
      rwa [e2] at this
    · rw [List.length_map] at hk
      have e2 : (l.map It.int).getD k default = It.int (l.getD k 0) := by
        simp [List.getD_eq_getElem?_getD, List.getElem?_eq_getElem hk]
      rw [e2]
      exact .int _ _ rfl rfl rfl rfl
  · have e : l = [] := List.eq_nil_of_length_eq_zero (by omega)
    subst e
    obtain ⟨L, cl, hv⟩ := h.len
    exact ⟨L, cl, hv, .lst [] _ rfl rfl rfl rfl (fun _ => default) (fun k hk => absurd hk (by simp)) (fun k hk => absurd hk (by simp))⟩
set_option maxHeartbeats 3200000 in
theorem ints_any (A : Option Addr) (l : List Int) (n c : Nat) (hn : Hid (l.length = n)) (hbig : n ≤ 1000000) (w : World) (hs : Hid (Sl w A l)) :
    Calls Tryz.prog 115 #[.slice A n c] w (ItOut (.lst (l.map .int)) w) := by
  obtain ⟨i0, hi, hz0, hz1, hz2⟩ := info_parts itemInfo
  obtain ⟨W, hW⟩ : ∃ W, (w.alloc (.cells #[.int .i64 0, .int .i64 0, .slice none 0 0, .slice none 0 0] 141)).alloc (.cells #[.int .i64 3, .int .i64 0, .slice none 0 0, .slice none 0 0] 141) = W := ⟨_, rfl⟩
  have HBX : Hid (Below w.heap.size w W) := Lib.hid (by rw [← hW]; exact below_two (Below.refl _ _))
  have HSZ : Hid (W.heap.size = w.heap.size + 2) := Lib.hid (by rw [← hW]; simp)
  have hF : Four W (w.heap.size + 1) 0 ⟨3, 0, none, 0, 0, none, 0, 0⟩ := by
    rw [← hW]
    have h := heap_alloc2_new w (.cells #[.int .i64 0, .int .i64 0, .slice none 0 0, .slice none 0 0] 141) (.cells #[.int .i64 3, .int .i64 0, .slice none 0 0, .slice none 0 0] 141)
    exact ⟨cell_blk h 0, cell_blk h 1, cell_blk h 2, cell_blk h 3⟩
  have hf0 : ∀ j, W.frozen? ⟨w.heap.size + 1, j, none⟩ = false := by
    rw [← hW]
    exact fun j => frozen_blk (heap_alloc2_new _ _ _) j
  have HG : Hid ((Four W w.heap.size 0 ⟨0, 0, none, 0, 0, none, 0, 0⟩) ∧ ∀ j, W.frozen? ⟨w.heap.size, j, none⟩ = false) := Lib.hid (by
    rw [← hW]
    have h := heap_alloc2_old w (.cells #[.int .i64 0, .int .i64 0, .slice none 0 0, .slice none 0 0] 141) (.cells #[.int .i64 3, .int .i64 0, .slice none 0 0, .slice none 0 0] 141)
    exact ⟨⟨cell_blk h 0, cell_blk h 1, cell_blk h 2, cell_blk h 3⟩, fun j => frozen_blk h j⟩)
  have HGB : Hid (W.heap[w.heap.size]? = some (.cells #[.int .i64 0, .int .i64 0, .slice none 0 0, .slice none 0 0] 141 (0, 0))) := Lib.hid (by rw [← hW]; exact heap_alloc2_old w _ _)
  have HS := Lib.hid hs.out
  have HW := Lib.hid hW
  have HX : Hid (Own W ⟨w.heap.size + 1, 0, none⟩ (.int .i64 3) ∧ Own W ⟨w.heap.size + 1, 1, none⟩ (.int .i64 0) ∧ Own W ⟨w.heap.size + 1, 2, none⟩ (.slice none 0 0)) := Lib.hid ⟨⟨hF.1, hf0 0⟩, ⟨hF.2.1, hf0 1⟩, ⟨hF.2.2.1, hf0 2⟩⟩
  have HL : Hid (Own W ⟨w.heap.size + 1, 3, none⟩ (.slice none 0 0)) := Lib.hid ⟨hF.2.2.2, hf0 3⟩
  clear hW hs hF hf0
  go_enter Tryz.func115, Tryz.ntmps115
  go_wp2
  rw [HW.out]
  go_loopw [9] (fun i u => ∃ (k : Nat) (v : Value), k ≤ n ∧ i = .int .i64 k ∧ Hid (Own u ⟨w.heap.size + 1, 3, none⟩ v) ∧ Hid (OwnI u (w.heap.size + 2) v ((l.take k).map icInt)) ∧ Hid (Own u ⟨w.heap.size + 1, 0, none⟩ (.int .i64 3) ∧ Own u ⟨w.heap.size + 1, 1, none⟩ (.int .i64 0) ∧ Own u ⟨w.heap.size + 1, 2, none⟩ (.slice none 0 0)) ∧ Hid (Below (w.heap.size + 1) W u)) (fun i _ => n - (intOf i).toNat)
  case atStart => exact ⟨0, _, by omega, rfl, HL, Lib.hid (ownI_nil _ _), HX, Lib.hid (Below.refl _ _)⟩
  case round =>
    obtain ⟨k, v, hk, rfl, HV, HO, HX3, HBr⟩ := hrel
    by_cases hlt : k < n
    · have hkl : k < l.length := by rw [hn.out]; exact hlt
      obtain ⟨b, o, hA, hc⟩ := (HS.out.below (HBX.out.trans (HBr.out.mono (Nat.le_succ _)))) k hkl
      subst hA
      have HTK := Lib.hid (icInt_take hkl)
      obtain ⟨x, hx⟩ : ∃ x, l.getD k 0 = x := ⟨_, rfl⟩
      rw [hx] at hc HTK
      have HLN : Hid (((l.take k).map icInt).length = k) := Lib.hid (by rw [List.length_map, List.length_take]; omega)
      have hown : wr.ownsRow (w.heap.size + 2) 141 4 v k (((l.take k).map icInt).flatMap itemCells) := by have h := HO.out; unfold OwnI at h; rwa [HLN.out] at h
      have hbs : w.heap.size + 2 ≤ wr.heap.size := by have := HBr.out.size; have := HSZ.out; omega
      have hno : v.ownBlock ≠ some (w.heap.size + 1) := HO.out.no (by omega)
      obtain ⟨v3, v3f⟩ := HV.out
      have HVA := Lib.hid (HV.out.below (below_box0 wr (.cells #[.int .i64 1, .int .i64 x, .slice none 0 0, .slice none 0 0] 141)))
      have b1 : k + 1 ≤ maxLen := by unfold maxLen; omega
      have b2 : (k + 1) * 64 ≤ 140737488355328 := by omega
      have b3 : w.heap.size + 2 ≤ (wr.alloc (.cells #[.int .i64 1, .int .i64 x, .slice none 0 0, .slice none 0 0] 141)).heap.size := by simp; omega
      clear hx hkl
      go_wp2_with (at_builtin; refine wpList_append_lies rfl _ _ 139 rfl (w.heap.size + 2) 141 i0 (.agg #[.int .i64 0, .int .i64 0, .slice none 0 0, .slice none 0 0]) 4 64 Tryz.underlying139 hi hz0 hz1 hz2 rfl (by decide) _ _ _ rfl (hown.alloc _) ⟨wr.heap.size, 0, none⟩ 1 1 [.int .i64 1, .int .i64 x, .slice none 0 0, .slice none 0 0] rfl rfl (World.news_of_block (cs := #[.int .i64 1, .int .i64 x, .slice none 0 0, .slice none 0 0]) (t := 141) (fr := (0, 0)) (heap_alloc_new wr _)) (by simp [Value.oneCell']) (by decide) b1 b2 b3 _ rfl ?_; intro g2 cap2 w2 hown2 hgrow2 hat2 hlt2; obtain ⟨q1, q2⟩ := own_grown2 HVA.out hgrow2 hno)
      obtain ⟨v', hv'⟩ : ∃ v', Value.slice (some ⟨g2, 0, none⟩) (k + 1) cap2 = v' := ⟨_, rfl⟩
      rw [hv'] at hown2
      have HVE := Lib.hid hv'
      clear hv' hat2 hlt2
      rw [HVE.out]
      have HB2 : Hid (Below (w.heap.size + 1) W w2) := Lib.hid ((HBr.out.alloc (by omega) _).grown hgrow2 (by simp; omega) (fun j hj => by have := (World.ownsRow.lt hown j hj).1; omega))
      have HO2 : Hid (OwnI w2 (w.heap.size + 2) v' ((l.take (k + 1)).map icInt)) := Lib.hid (by
        rw [HTK.out]
        exact OwnI.app HLN.out.symm hown2)
      have a0 := own_grown2 (HX3.out.1.below (below_box0 wr (.cells #[.int .i64 1, .int .i64 x, .slice none 0 0, .slice none 0 0] 141))) hgrow2 hno
      have a1 := own_grown2 (HX3.out.2.1.below (below_box0 wr (.cells #[.int .i64 1, .int .i64 x, .slice none 0 0, .slice none 0 0] 141))) hgrow2 hno
      have a2 := own_grown2 (HX3.out.2.2.below (below_box0 wr (.cells #[.int .i64 1, .int .i64 x, .slice none 0 0, .slice none 0 0] 141))) hgrow2 hno
      have HV4 : Hid (Own (w2.setCell ⟨w.heap.size + 1, 3, none⟩ v') ⟨w.heap.size + 1, 3, none⟩ v') := Lib.hid (own_set_eq2 ⟨q1, q2⟩)
      have HO4 : Hid (OwnI (w2.setCell ⟨w.heap.size + 1, 3, none⟩ v') (w.heap.size + 2) v' ((l.take (k + 1)).map icInt)) := Lib.hid (HO2.out.set (by omega))
      have HX4 : Hid (Own (w2.setCell ⟨w.heap.size + 1, 3, none⟩ v') ⟨w.heap.size + 1, 0, none⟩ (.int .i64 3) ∧ Own (w2.setCell ⟨w.heap.size + 1, 3, none⟩ v') ⟨w.heap.size + 1, 1, none⟩ (.int .i64 0) ∧ Own (w2.setCell ⟨w.heap.size + 1, 3, none⟩ v') ⟨w.heap.size + 1, 2, none⟩ (.slice none 0 0)) :=
        Lib.hid ⟨own_set_ne2 a0 (by simp), own_set_ne2 a1 (by simp), own_set_ne2 a2 (by simp)⟩
      have HB4 : Hid (Below (w.heap.size + 1) W (w2.setCell ⟨w.heap.size + 1, 3, none⟩ v')) := Lib.hid (HB2.out.setCell (Nat.le_refl _) _)
      clear b1 b2 b3 hown hown2 hgrow2 HO HX3 HV v3 v3f q1 q2 a0 a1 a2 HB2 HO2 HVA hc
      go_roundw
      case rel => exact ⟨k + 1, v', by omega, by go_num, HV4, HO4, HX4, HB4⟩
      case measure => simp [intOf]; omega
    · have HO5 : Hid (OwnI wr (w.heap.size + 2) v (l.map icInt)) := Lib.hid (by
        have h := HO.out
        rwa [List.take_of_length_le (by have := hn.out; omega)] at h)
      obtain ⟨L, cl, hLe⟩ := HO5.out.len
      rw [List.length_map, hn.out] at hLe
      subst hLe
      obtain ⟨p0, p0f⟩ := HX3.out.1
      obtain ⟨p1, p1f⟩ := HX3.out.2.1
      obtain ⟨p2, p2f⟩ := HX3.out.2.2
      obtain ⟨p3, p3f⟩ := HV.out
      have HGr := HG.out
      have r0 := (HBr.out.cell (p := ⟨w.heap.size, 0, none⟩) (Nat.lt_succ_self _)).trans HG.out.1.1
      have r1 := (HBr.out.cell (p := ⟨w.heap.size, 1, none⟩) (Nat.lt_succ_self _)).trans HG.out.1.2.1
      have r2 := (HBr.out.cell (p := ⟨w.heap.size, 2, none⟩) (Nat.lt_succ_self _)).trans HG.out.1.2.2.1
      have r3 := (HBr.out.cell (p := ⟨w.heap.size, 3, none⟩) (Nat.lt_succ_self _)).trans HG.out.1.2.2.2
      have z0 := (HBr.out.frozen (p := ⟨w.heap.size, 0, none⟩) (Nat.lt_succ_self _)).trans (HG.out.2 0)
      have z1 := (HBr.out.frozen (p := ⟨w.heap.size, 1, none⟩) (Nat.lt_succ_self _)).trans (HG.out.2 1)
      have z2 := (HBr.out.frozen (p := ⟨w.heap.size, 2, none⟩) (Nat.lt_succ_self _)).trans (HG.out.2 2)
      have z3 := (HBr.out.frozen (p := ⟨w.heap.size, 3, none⟩) (Nat.lt_succ_self _)).trans (HG.out.2 3)
      have HBW := Lib.hid (HBX.out.trans (HBr.out.mono (Nat.le_succ _)))
      clear HX3 HV HO HGr
      obtain ⟨WF, hWF⟩ : ∃ u, (((wr.setCell ⟨w.heap.size, 0, none⟩ (.int .i64 3)).setCell ⟨w.heap.size, 1, none⟩ (.int .i64 0)).setCell ⟨w.heap.size, 2, none⟩ (.slice none 0 0)).setCell ⟨w.heap.size, 3, none⟩ (.slice L n cl) = u := ⟨_, rfl⟩
      have hgB : WF.heap[w.heap.size]? = some (.cells #[.int .i64 3, .int .i64 0, .slice none 0 0, .slice L n cl] 141 (0, 0)) := by
        have h0 := (HBr.out.block w.heap.size (Nat.lt_succ_self _)).trans HGB.out
        rw [← hWF, heap_setCell_same _ _ _ _ _ _ (heap_setCell_same _ _ _ _ _ _ (heap_setCell_same _ _ _ _ _ _ (heap_setCell_same _ _ _ _ _ _ h0)))]
        rfl
      have HO6 : Hid (OwnI WF (w.heap.size + 2) (.slice L n cl) (l.map icInt)) := Lib.hid (by
        rw [← hWF]
        exact (((HO5.out.set (by omega)).set (by omega)).set (by omega)).set (by omega))
      have HBF : Hid (Below w.heap.size w WF) := Lib.hid (by
        rw [← hWF]
        exact (((HBW.out.setCell (Nat.le_refl _) _).setCell (Nat.le_refl _) _).setCell (Nat.le_refl _) _).setCell (Nat.le_refl _) _)
      obtain ⟨L', cl', e, hitr⟩ := itr_ints HO6.out
      rw [hn.out] at e hitr
      simp only [Value.slice.injEq] at e
      obtain ⟨rfl, _, rfl⟩ := e
      have HIT := Lib.hid hitr
      have HLD : Kp ((loadVar 141 ⟨w.heap.size, 0, none⟩).run Tryz.prog WF = .ok (.agg #[.int .i64 3, .int .i64 0, .slice none 0 0, .slice L n cl]) WF) := ⟨run_loadVar_row _ _ _ _ _ _ _ hgB Tryz.underlying141 rfl (by kernel_rfl)⟩
      have HWF := Lib.hid hWF
      clear hitr HO5 HO6 hgB hWF
      go_wp2
      rw [HWF.out]
      exact bodyPost_ret (v := .agg #[.int .i64 3, .int .i64 0, .slice none 0 0, .slice L n cl]) (results_cell1 (p := 2) (ty := 141) rfl _ _ ⟨w.heap.size, 0, none⟩ _ rfl HLD.out) rfl ⟨⟨3, 0, none, 0, 0, L, n, cl⟩, rfl, HIT.out, HBF.out⟩
end Go.Proofs.YtdlhodbiaoafiaaGreatDoor
namespace Go.Proofs.YtdlhodbiaoafiaaGreatDoor
open Go.RowKit SpM
set_option linter.unusedVariables false
set_option linter.unusedSimpArgs false
set_option maxRecDepth 100000
/-- a byte that no label has. -/
def badc (x : Int) : Bool := decide (x < 33) || decide (126 < x)
/-- which texts are labels. -/
def labB (l : List Int) : Bool := decide (1 ≤ l.length) && decide (l.length ≤ 24) && !(l.any badc)
theorem badc_any (x : Int) (w : World) : Calls Tryz.prog 124 #[.int .u8 x] w fun e w' => e = .returned (.bool (badc x)) ∧ w = w' := by
  by_cases h1 : x < 33
  · have e : badc x = true := by simp [badc, h1]
    have d1 : decide (x < 33) = true := by simp [h1]
    rw [e]
    clear e
    go_enter Tryz.func124, Tryz.ntmps124
    go_wp2
    go_ret
    exact ⟨rfl, rfl⟩
  · have d1 : decide (x < 33) = false := by simp [h1]
    have e : badc x = decide (126 < x) := by simp [badc, h1]
    rw [e]
    clear e
    go_enter Tryz.func124, Tryz.ntmps124
    go_wp2
    go_ret
    exact ⟨rfl, rfl⟩
set_option maxHeartbeats 1600000 in
theorem idx_lab (A : Option Addr) (xs : List Int) (n c : Nat) (hn : Hid (xs.length = n)) (hbig : n ≤ 100000) (w : World) (hs : Hid (Sk .u8 w A xs)) :
    Calls Tryz.prog 157 #[.slice A n c, .func (.func 124) #[] #[]] w (IdxOut badc xs w) := by
  go_enter Tryz.func157, Tryz.ntmps157
  go_wp2
  go_loopw [8] (fun i wr => ∃ k : Nat, k ≤ n ∧ i = .int .i64 k ∧ Hid (xs.any badc = (xs.drop k).any badc) ∧ Hid (Below w.heap.size w wr)) (fun i _ => n - (intOf i).toNat)
  case atStart => exact ⟨0, by omega, rfl, Lib.hid rfl, Lib.hid (Below.refl _ _)⟩
  case round =>
    obtain ⟨k, hk, rfl, HR, HBr⟩ := hrel
    by_cases hlt : k < n
    · have hkl : k < xs.length := by rw [hn.out]; exact hlt
      obtain ⟨b, o, hA, hi⟩ := (hs.out.below HBr.out) k hkl
      subst hA
      cases hpx : badc (xs.getD k 0) with
      | false =>
        have HN : Hid (xs.any badc = (xs.drop (k + 1)).any badc) := Lib.hid (HR.out.trans (any_drop_step hkl hpx))
        obtain ⟨x, hx⟩ : ∃ x, xs.getD k 0 = x := ⟨_, rfl⟩
        rw [hx] at hi hpx
        have HPX := Lib.hid hpx
        clear hx hkl hpx HR
        go_wp2_with fail
        refine (badc_any x _).mono ?_
        rintro e w2 ⟨rfl, rfl⟩
        rw [HPX.out]
        go_wp2
        go_roundw
        case rel => exact ⟨k + 1, by omega, by go_num, HN, HBr⟩
        case measure => simp [intOf]; omega
      | true =>
        have HN : Hid (xs.any badc = true) := Lib.hid (HR.out.trans (any_drop_hit hkl hpx))
        obtain ⟨x, hx⟩ : ∃ x, xs.getD k 0 = x := ⟨_, rfl⟩
        rw [hx] at hi hpx
        have HPX := Lib.hid hpx
        clear hx hkl hpx HR
        go_wp2_with fail
        refine (badc_any x _).mono ?_
        rintro e w2 ⟨rfl, rfl⟩
        rw [HPX.out]
        go_wp2
        go_ret
        exact ⟨_, rfl, by rw [HN.out]; simp, HBr.out⟩
    · have HN : Hid (xs.any badc = false) := Lib.hid (by
        have h := HR.out
        rwa [List.drop_of_length_le (by have := hn.out; omega)] at h)
      clear HR
      go_wp2
      go_ret
      exact ⟨_, rfl, by rw [HN.out]; rfl, HBr.out⟩
theorem cf_lab (A : Option Addr) (xs : List Int) (n c : Nat) (r : Bool) (hr : Hid (xs.any badc = r)) (hn : Hid (xs.length = n)) (hbig : n ≤ 100000) (w : World) (hs : Hid (Sk .u8 w A xs)) :
    Calls Tryz.prog 123 #[.slice A n c, .func (.func 124) #[] #[]] w fun e w' => e = .returned (.bool r) ∧ Below w.heap.size w w' := by
  go_enter Tryz.func123, Tryz.ntmps123
  go_wp2_with fail
  refine (idx_lab A xs n c hn hbig _ hs).mono ?_
  rintro e w' ⟨i, rfl, hdi, hb0⟩
  have HD : Hid (decide (0 ≤ i) = r) := Lib.hid (hdi.trans hr.out)
  clear hdi
  go_wp2
  go_ret
  exact ⟨by first | rfl | (rw [← HD.out]; rfl), hb0⟩
set_option maxHeartbeats 1600000 in
theorem tlabel_any (s : ByteArray) (hs : s.size ≤ 1000) (r : Bool) (hr : Hid (labB (bys s) = r)) (w : World) :
    Calls Tryz.prog 89 #[.string s] w fun e w' => e = .returned (.bool r) ∧ Below w.heap.size w w' := by
  by_cases h1 : s.size < 1
  · have e : r = false := by rw [← hr.out, labB, bys_len, decide_eq_false (by omega)]; rfl
    have d1 : decide ((1 : Int) ≤ (s.size : Int)) = false := by simp; omega
    subst e
    clear hr
    go_enter Tryz.func89, Tryz.ntmps89
    go_wp2
    go_ret
    exact ⟨rfl, Below.refl _ _⟩
  · have d1 : decide ((1 : Int) ≤ (s.size : Int)) = true := by simp; omega
    by_cases h2 : 24 < s.size
    · have e : r = false := by rw [← hr.out, labB, bys_len, decide_eq_false (show ¬ s.size ≤ 24 by omega)]; simp
      have d2 : decide ((s.size : Int) ≤ 24) = false := by simp; omega
      subst e
      clear hr
      go_enter Tryz.func89, Tryz.ntmps89
      go_wp2
      go_ret
      exact ⟨rfl, Below.refl _ _⟩
    · have d2 : decide ((s.size : Int) ≤ 24) = true := by simp; omega
      obtain ⟨q, hq⟩ : ∃ q, (bys s).any badc = q := ⟨_, rfl⟩
      have e : r = !q := by rw [← hr.out, labB, bys_len, decide_eq_true (by omega), decide_eq_true (by omega), hq]; rfl
      subst e
      have HQ := Lib.hid hq
      have hcv := fun w => run_bytes_of_string (P := Tryz.prog) w 9 114 5 s Tryz.underlying9 Tryz.underlying114 Tryz.underlying5
      clear hr hq
      go_enter Tryz.func89, Tryz.ntmps89
      go_wp2_with fail
      clear hcv
      obtain ⟨Wc, hWc⟩ : ∃ u, (w.alloc (.cells (bytesRow s (grownCap w s.size 0 5)) 5 ((bytesRow s (grownCap w s.size 0 5)).size, (bytesRow s (grownCap w s.size 0 5)).size + 1))).drew = u := ⟨_, rfl⟩
      have HBc : Hid (Below w.heap.size w Wc) := Lib.hid (by rw [← hWc]; exact (below_box0 _ _).drew)
      have HSc : Hid (Sk .u8 Wc (some ⟨w.heap.size, 0, none⟩) (bys s)) := Lib.hid (by
        rw [← hWc]
        exact bys_sk (heap_alloc_new w _))
      obtain ⟨gc, hgc⟩ : ∃ g, grownCap w s.size 0 5 = g := ⟨_, rfl⟩
      rw [hWc, hgc]
      clear hWc hgc
      refine (cf_lab (some ⟨w.heap.size, 0, none⟩) (bys s) s.size gc q HQ (Lib.hid (bys_len s)) (by omega) _ HSc).mono ?_
      rintro e w2 ⟨rfl, hb2⟩
      have hbf := below_ext HBc.out hb2
      clear hb2
      go_wp2
      go_ret
      exact ⟨by first | rfl | simp, hbf⟩
theorem bys_get {s : ByteArray} {k : Nat} (h : k < s.size) : (bys s).getD k 0 = ((s[k]'h).toNat : Int) := by
  have h2 : k < s.data.toList.length := by simpa using h
  rw [bys, List.getD_eq_getElem?_getD, List.getElem?_map, List.getElem?_eq_getElem h2]
  rfl
set_option maxHeartbeats 1600000 in
theorem rlabel_any (s : ByteArray) (hs : s.size ≤ 1000) (r : Bool) (hr : Hid (labB (bys s) = r)) (w : World) :
    Calls Tryz.prog 28 #[.string s] w fun e w' => e = .returned (.bool r) ∧ w = w' := by
  by_cases h1 : s.size < 1
  · have e : r = false := by rw [← hr.out, labB, bys_len, decide_eq_false (by omega)]; rfl
    have d1 : decide ((s.size : Int) < 1) = true := by simp; omega
    subst e
    clear hr
    go_enter Tryz.func28, Tryz.ntmps28
    go_wp2
    go_ret
    exact ⟨rfl, rfl⟩
  · have d1 : decide ((s.size : Int) < 1) = false := by simp; omega
    by_cases h2 : 24 < s.size
    · have e : r = false := by rw [← hr.out, labB, bys_len, decide_eq_false (show ¬ s.size ≤ 24 by omega)]; simp
      have d2 : decide ((24 : Int) < (s.size : Int)) = true := by simp; omega
      subst e
      clear hr
      go_enter Tryz.func28, Tryz.ntmps28
      go_wp2
      go_ret
      exact ⟨rfl, rfl⟩
    · have d2 : decide ((24 : Int) < (s.size : Int)) = false := by simp; omega
      have HE : Hid (r = !((bys s).any badc)) := Lib.hid (by rw [← hr.out, labB, bys_len, decide_eq_true (by omega), decide_eq_true (by omega)]; rfl)
      clear hr
      go_enter Tryz.func28, Tryz.ntmps28
      go_wp2
      go_loop [3] (fun i => ∃ k : Nat, k ≤ s.size ∧ i = .int .i64 k ∧ Hid ((bys s).any badc = ((bys s).drop k).any badc)) (fun i => s.size - (intOf i).toNat)
      case atStart => exact ⟨0, by omega, rfl, Lib.hid rfl⟩
      case round =>
        obtain ⟨k, hk, rfl, HR⟩ := hrel
        by_cases hlt : k < s.size
        · have hkl : k < (bys s).length := by rw [bys_len]; exact hlt
          have hg := bys_get hlt
          by_cases t1 : ((s[k]'hlt).toNat : Int) < 33
          · have hN : (bys s).any badc = true := HR.out.trans (any_drop_hit hkl (by rw [hg]; simp [badc, t1]))
            have e : r = false := by rw [HE.out, hN]; rfl
            have d3 : decide (((s[k]'hlt).toNat : Int) < 33) = true := by simp [t1]
            subst e
            clear hN hg hkl HR HE
            go_wp2
            go_ret
            exact ⟨rfl, rfl⟩
          · have d3 : decide (((s[k]'hlt).toNat : Int) < 33) = false := by simp [t1]
            by_cases t2 : (126 : Int) < ((s[k]'hlt).toNat : Int)
            · have hN : (bys s).any badc = true := HR.out.trans (any_drop_hit hkl (by rw [hg]; simp [badc, t1, t2]))
              have e : r = false := by rw [HE.out, hN]; rfl
              have d4 : decide ((126 : Int) < ((s[k]'hlt).toNat : Int)) = true := by simp [t2]
              subst e
              clear hN hg hkl HR HE
              go_wp2
              go_ret
              exact ⟨rfl, rfl⟩
            · have HN : Hid ((bys s).any badc = ((bys s).drop (k + 1)).any badc) := Lib.hid (HR.out.trans (any_drop_step hkl (by rw [hg]; simp [badc, t1, t2])))
              have d4 : decide ((126 : Int) < ((s[k]'hlt).toNat : Int)) = false := by simp [t2]
              clear hg hkl HR
              go_wp2
              go_round
              case rel => exact ⟨k + 1, by omega, by go_num, HN⟩
              case measure => simp [intOf]; omega
        · have e : r = true := by
            rw [HE.out, HR.out, List.drop_of_length_le (by rw [bys_len]; omega)]; rfl
          subst e
          clear HR HE
          go_wp2
          go_ret
          exact ⟨rfl, rfl⟩
end Go.Proofs.YtdlhodbiaoafiaaGreatDoor
namespace Go.Proofs.YtdlhodbiaoafiaaGreatDoor
open Go.RowKit SpM
set_option linter.unusedVariables false
set_option linter.unusedSimpArgs false
set_option maxRecDepth 100000
theorem Sk.set_ne {K : IntKind} {w : World} {a j : Nat} {A : Option Addr} {l : List Int} {v : Value} (h : Sk K w A l) (hne : ∀ b o, A = some ⟨b, o, none⟩ → b ≠ a) : Sk K (w.setCell ⟨a, j, none⟩ v) A l := fun i hi => by
  obtain ⟨b, o, e, hc⟩ := h i hi
  refine ⟨b, o, e, ?_⟩
  rw [World.cell?_setCell_other _ _ _ _ (fun e2 => hne b o e (by cases e2; rfl))]
  exact hc
end Go.Proofs.YtdlhodbiaoafiaaGreatDoor
namespace Go.Proofs.YtdlhodbiaoafiaaGreatDoor
open Go.RowKit SpM
set_option linter.unusedVariables false
set_option linter.unusedSimpArgs false
set_option maxRecDepth 100000
theorem yields_row {P : Program} {S : World → Prop} {o : Oper} {a : Act} (ty : TypeId) (x : Operand) (ho : o.op = .load ty x)
    (g : Nat) (hx : a.eval x = .pointer (some ⟨g, 0, none⟩)) (t : TypeId) (cs : Array Value) (fr : Nat × Nat) (d : TypeDesc) (hg : ∀ w, S w → w.heap[g]? = some (.cells cs t fr))
    (hu : P.underlying ty = some d) (hd : (match d with | .struct _ | .array _ _ => true | _ => false) = true) (hi : (P.info? ty).map (·.size) = some cs.size) :
    ∀ w, S w → (execOp a.eval o).run P w = .ok (.value (.agg cs)) w := fun w hw => by
  unfold execOp
  simp only [ho, hx, Instr.loadAt, Instr.sureAddr, Sem.run_bind, Sem.run_pure, Result.andThen_ok, run_loadVar_row w g t ty cs fr d (hg w hw) hu hd hi]
end Go.Proofs.YtdlhodbiaoafiaaGreatDoor
namespace Go.Proofs.YtdlhodbiaoafiaaGreatDoor
open Go.RowKit SpM
set_option linter.unusedVariables false
set_option linter.unusedSimpArgs false
set_option maxRecDepth 100000
/-- the number of the first k bytes. -/
def numL (m : Int) (h : List Int) : Nat → Int
  | 0 => 0
  | k + 1 => (numL m h k * 256 + h.getD k 0) % m
def numv (m : Int) (h : List Int) : Int := numL m h 16
theorem numL_lo {m : Int} {h : List Int} (hm : 1 ≤ m) (k : Nat) : 0 ≤ numL m h k ∧ numL m h k < m := by
  cases k with
  | zero => exact ⟨Int.le_refl _, by simp [numL]; omega⟩
  | succ k => exact ⟨Int.emod_nonneg _ (by omega), Int.emod_lt_of_pos _ (by omega)⟩
theorem dbl_step {acc m a : Int} {j : Nat} (h : acc * 2 ^ j % m = a) : acc * 2 ^ (j + 1) % m = (a + a) % m := by
  rw [← h, Int.pow_succ, ← Int.mul_assoc, Int.mul_comm _ 2, Int.add_emod_emod, Int.emod_add_emod]
  congr 1
  omega
theorem num_step {acc m a c : Int} (h : acc * 2 ^ 8 % m = a) : (a + c % m) % m = (acc * 256 + c) % m := by
  rw [← h, Int.add_emod_emod, Int.emod_add_emod]
  rfl
set_option maxHeartbeats 1600000 in
theorem number_any (h : List Int) (hh : Hid (h.length = 32)) (hb : Hid (bytesB h = true)) (m : Int) (h1 : 1 ≤ m) (h2 : m < 2305843009213693952) (w : World) :
    Calls Tryz.prog 118 #[.agg (arr .u8 h), .int .i64 m] w fun e w' => e = .returned (.tuple #[.int .i64 (numv m h), .int .i64 0]) ∧ Below w.heap.size w w' := by
  obtain ⟨W, hW⟩ : ∃ W, w.alloc (.cells (arr .u8 h) 54) = W := ⟨_, rfl⟩
  have HBX : Hid (Below w.heap.size w W) := Lib.hid (by rw [← hW]; exact below_box0 _ _)
  have HR0 : Hid (Blk .u8 54 W w.heap.size h) := Lib.hid (by rw [← hW]; exact Blk.new _ _)
  have HW := Lib.hid hW
  clear hW
  have hm0 : ((m : Int) == 0) = false := by simp; omega
  have hm1 : ¬ m < 1 := by omega
  have hm2 : ¬ 2305843009213693952 ≤ m := by omega
  go_enter Tryz.func118, Tryz.ntmps118
  go_wp2
  rw [HW.out]
  go_loopw [6, 17] (fun p i u => ∃ (k : Nat) (acc : Int), k ≤ 16 ∧ i = .int .i64 k ∧ p = .int .i64 acc ∧ Hid (numL m h k = acc) ∧ Hid (Below W.heap.size W u)) (fun _ i _ => 16 - (intOf i).toNat)
  case atStart => exact ⟨0, 0, by omega, rfl, rfl, Lib.hid rfl, Lib.hid (Below.refl _ _)⟩
  case round =>
    obtain ⟨k, acc, hk, rfl, rfl, HN, HBr⟩ := hrel
    have ha := numL_lo (m := m) (h := h) h1 k
    rw [HN.out] at ha
    obtain ⟨a0, a1⟩ := ha
    by_cases hlt : k < 16
    · have hc := (HR0.out.below HBr.out).cell (j := k) (by have := hh.out; omega)
      obtain ⟨c0, c1⟩ := bytesB_get hb.out k
      have hnx : numL m h (k + 1) = (acc * 256 + h.getD k 0) % m := by rw [numL, HN.out]
      obtain ⟨c, hcc⟩ : ∃ c, h.getD k 0 = c := ⟨_, rfl⟩
      rw [hcc] at hc c0 c1 hnx
      have HNX := Lib.hid hnx
      clear hcc hnx
      have dk : decide ((k : Int) < 16) = true := by simp; omega
      go_wp2
      go_loopw [6, 21] (fun p i u => ∃ (j : Nat) (a : Int), j ≤ 8 ∧ i = .int .i64 j ∧ p = .int .i64 a ∧ Hid (acc * 2 ^ j % m = a) ∧ 0 ≤ a ∧ a < m ∧ Hid (Below W.heap.size W u)) (fun _ i _ => 8 - (intOf i).toNat)
      case atStart => exact ⟨0, acc, by omega, rfl, rfl, Lib.hid (by rw [Int.pow_zero, Int.mul_one]; exact Int.emod_eq_of_lt a0 a1), a0, a1, HBr⟩
      case round =>
        obtain ⟨j, a, hj, rfl, rfl, HA, b0, b1, HBu⟩ := hrel
        by_cases hlj : j < 8
        · have HA2 := Lib.hid (dbl_step HA.out)
          have e0 : 0 ≤ (a + a) % m := Int.emod_nonneg _ (by omega)
          have e1 : (a + a) % m < m := Int.emod_lt_of_pos _ (by omega)
          obtain ⟨q, hq⟩ : ∃ q, (a + a) % m = q := ⟨_, rfl⟩
          rw [hq] at e0 e1 HA2
          have HQ := Lib.hid hq
          clear hq HA
          go_wp2_with fail
          refine (add_ok a a m h2 b0 b1 b0 b1 _).mono ?_
          rintro e w' ⟨rfl, rfl⟩
          rw [HQ.out]
          go_wp2
          go_roundw
          case rel => exact ⟨j + 1, q, by omega, by go_num, rfl, HA2, e0, e1, HBu⟩
          case measure => simp [intOf]; omega
        · have HA8 : Hid (acc * 2 ^ 8 % m = a) := Lib.hid (by have h := HA.out; rwa [show j = 8 by omega] at h)
          have HE : Hid ((a + c % m) % m = (acc * 256 + c) % m) := Lib.hid (num_step HA8.out)
          have f0 : 0 ≤ c % m := Int.emod_nonneg _ (by omega)
          have f1 : c % m < m := Int.emod_lt_of_pos _ (by omega)
          obtain ⟨cm, hcm⟩ : ∃ x, c % m = x := ⟨_, rfl⟩
          rw [hcm] at f0 f1 HE
          obtain ⟨q, hq⟩ : ∃ q, (a + cm) % m = q := ⟨_, rfl⟩
          have HN2 : Hid (numL m h (k + 1) = q) := Lib.hid (by rw [HNX.out, ← HE.out, hq])
          have HQ := Lib.hid hq
          clear hq HA HA8 HE HNX HN
          go_wp2_with fail
          refine (add_ok a cm m h2 b0 b1 f0 f1 _).mono ?_
          rintro e w' ⟨rfl, rfl⟩
          rw [HQ.out]
          go_wp2
          go_roundw
          case rel => exact ⟨k + 1, q, by omega, by go_num, rfl, HN2, HBu⟩
          case measure => simp [intOf]; omega
    · have HF : Hid (numv m h = acc) := Lib.hid (by have e := HN.out; rwa [show k = 16 by omega] at e)
      have hbf := below_ext HBX.out HBr.out
      clear HN
      go_wp2
      go_ret2
      exact ⟨by rw [HF.out]; rfl, hbf⟩
end Go.Proofs.YtdlhodbiaoafiaaGreatDoor
namespace Go.Proofs.YtdlhodbiaoafiaaGreatDoor
open Go.RowKit SpM
set_option linter.unusedVariables false
set_option linter.unusedSimpArgs false
set_option maxRecDepth 100000
/-- the cells of a transcript. -/
def tcs (h : List Int) (c : Int) : Array Value := arr .u8 h ++ #[.int .i64 c]
theorem list32 : ∀ h : List Int, h.length = 32 → ∃ a0 a1 a2 a3 a4 a5 a6 a7 a8 a9 a10 a11 a12 a13 a14 a15 a16 a17 a18 a19 a20 a21 a22 a23 a24 a25 a26 a27 a28 a29 a30 a31, h = [a0, a1, a2, a3, a4, a5, a6, a7, a8, a9, a10, a11, a12, a13, a14, a15, a16, a17, a18, a19, a20, a21, a22, a23, a24, a25, a26, a27, a28, a29, a30, a31]
  | [a0, a1, a2, a3, a4, a5, a6, a7, a8, a9, a10, a11, a12, a13, a14, a15, a16, a17, a18, a19, a20, a21, a22, a23, a24, a25, a26, a27, a28, a29, a30, a31], _ => ⟨a0, a1, a2, a3, a4, a5, a6, a7, a8, a9, a10, a11, a12, a13, a14, a15, a16, a17, a18, a19, a20, a21, a22, a23, a24, a25, a26, a27, a28, a29, a30, a31, rfl⟩
theorem built0 : Tryz.prog.built 85 [] = some (tcs (zer 32) 0) := by kernel_rfl
theorem built1 (h : List Int) (hl : h.length = 32) : Tryz.prog.built 85 [(0, .agg (arr .u8 h))] = some (tcs h 0) := by
  obtain ⟨a0, a1, a2, a3, a4, a5, a6, a7, a8, a9, a10, a11, a12, a13, a14, a15, a16, a17, a18, a19, a20, a21, a22, a23, a24, a25, a26, a27, a28, a29, a30, a31, rfl⟩ := list32 h hl
  kernel_rfl
theorem built2 (h : List Int) (hl : h.length = 32) (c : Int) : Tryz.prog.built 85 [(0, .agg (arr .u8 h)), (1, .int .i64 c)] = some (tcs h c) := by
  obtain ⟨a0, a1, a2, a3, a4, a5, a6, a7, a8, a9, a10, a11, a12, a13, a14, a15, a16, a17, a18, a19, a20, a21, a22, a23, a24, a25, a26, a27, a28, a29, a30, a31, rfl⟩ := list32 h hl
  kernel_rfl
theorem wpList_built {P : Program} {ops : Array Oper} {rest : List Oper} {o : Oper} {a : Act} {w : World} {Q : Exit → Act → World → Prop} (hg : o.guard = none) (t : TypeId) (l : List (Nat × Operand)) (ho : o.op = .build t l.toArray) (cells : Array Value)
    (hf : P.built t (l.map fun x => (x.1, a.eval x.2)) = some cells) (h : wpList P ops Q rest (a.put o.dst (.agg cells)) w) : wpList P ops Q (o :: rest) a w := by
  have e : (l.toArray.map fun (x : Nat × Operand) => (x.1, a.eval x.2)).toList = l.map fun x => (x.1, a.eval x.2) := by simp
  refine wpList_build hg t l.toArray ho ?_ ?_
  · show (P.built t (l.toArray.map fun (x : Nat × Operand) => (x.1, a.eval x.2)).toList).isSome = true
    rw [e, hf]; rfl
  · show wpList P ops Q rest (a.put o.dst (.agg ((P.built t (l.toArray.map fun (x : Nat × Operand) => (x.1, a.eval x.2)).toList).getD #[]))) w
    rw [e, hf]; exact h
theorem tcs_size {h : List Int} {c : Int} (hl : h.length = 32) : (tcs h c).size = 33 := by simp [tcs, arr_size, hl]
theorem infoT : (Tryz.prog.info? 85).map (·.size) = some 33 := by kernel_rfl
theorem tr_info {h : List Int} {c : Int} (hl : h.length = 32) : (Tryz.prog.info? 85).map (·.size) = some (tcs h c).size := infoT.trans (congrArg some (tcs_size hl).symm)
theorem tcs_one (h : List Int) (c : Int) : (tcs h c).all (·.oneCell') = true := by simp [tcs, arr, Value.oneCell']
theorem ztr : (#[.int .u8 0, .int .u8 0, .int .u8 0, .int .u8 0, .int .u8 0, .int .u8 0, .int .u8 0, .int .u8 0, .int .u8 0, .int .u8 0, .int .u8 0, .int .u8 0, .int .u8 0, .int .u8 0, .int .u8 0, .int .u8 0, .int .u8 0, .int .u8 0, .int .u8 0, .int .u8 0, .int .u8 0, .int .u8 0, .int .u8 0, .int .u8 0, .int .u8 0, .int .u8 0, .int .u8 0, .int .u8 0, .int .u8 0, .int .u8 0, .int .u8 0, .int .u8 0, .int .i64 0] : Array Value) = tcs (zer 32) 0 := rfl
theorem tcs_sz {h h' : List Int} {c c' : Int} (hl : h.length = 32) (hl' : h'.length = 32) : (tcs h c).size = (tcs h' c').size := by rw [tcs_size hl, tcs_size hl']
/-- a block that holds a transcript. -/
def TBlk (w : World) (b : Nat) (h : List Int) (c : Int) : Prop := w.heap[b]? = some (.cells (tcs h c) 85 (0, 0))
theorem TBlk.below {w w' : World} {b : Nat} {h : List Int} {c : Int} (hh : TBlk w b h c) (hb : Below w.heap.size w w') : TBlk w' b h c := (hb.block b (Array.getElem?_eq_some_iff.1 hh).1).trans hh
theorem TBlk.new (w : World) (h : List Int) (c : Int) : TBlk (w.alloc (.cells (tcs h c) 85)) w.heap.size h c := heap_alloc_new _ _
theorem TBlk.lt {w : World} {b : Nat} {h : List Int} {c : Int} (hh : TBlk w b h c) : b < w.heap.size := (Array.getElem?_eq_some_iff.1 hh).1
theorem TBlk.setRow {w : World} {b : Nat} {h h' : List Int} {c c' : Int} (hh : TBlk w b h c) : TBlk (w.setRow b (tcs h' c')) b h' c' := setRow_heap w b _ _ _ _ hh
theorem TBlk.count {w : World} {b : Nat} {h : List Int} {c : Int} (hh : TBlk w b h c) (hl : h.length = 32) : w.cell? ⟨b, 32, none⟩ = some (.int .i64 c) := by
  rw [cell_blk hh, tcs, Array.getElem?_append_right (by rw [arr_size, hl]; exact Nat.le_refl _), arr_size, hl]
  rfl
theorem TBlk.sk {w : World} {b : Nat} {h : List Int} {c : Int} (hh : TBlk w b h c) : Sk .u8 w (some ⟨b, 0, none⟩) h := fun j hj => ⟨b, 0, rfl, by
  rw [Nat.zero_add, cell_blk hh, tcs, Array.getElem?_append_left (by rw [arr_size]; exact hj)]
  exact arr_get hj⟩
theorem tvalid_any (h : List Int) (hl : Hid (h.length = 32)) (c : Int) (h0 : 0 ≤ c) (h1 : c ≤ 1000) (w : World) :
    Calls Tryz.prog 116 #[.agg (tcs h c)] w fun e w' => e = .returned (.bool true) ∧ Below w.heap.size w w' := by
  have hc := (TBlk.new w h c).count hl.out
  have d1 : decide ((0 : Int) ≤ c) = true := by simp [h0]
  have d2 : decide (c ≤ 1000) = true := by simp [h1]
  go_enter Tryz.func116, Tryz.ntmps116
  go_wp2
  go_ret
  exact ⟨rfl, below_box0 _ _⟩
/-- the tag of new transcripts. -/
def tagT : ByteArray := ⟨#[115, 112, 101, 99, 105, 101, 47, 116, 114, 97, 110, 115, 99, 114, 105, 112, 116]⟩
/-- a transcript and an error. -/
def TrE (h : List Int) (c e : Int) : Value := .tuple #[.agg (tcs h c), .int .i64 e]
def newL (l : List Int) : List Int := tagged (bys tagT) l
set_option maxHeartbeats 1600000 in
theorem tnew_bad (s : ByteArray) (hs : s.size ≤ 1000) (hr : Hid (labB (bys s) = false)) (w : World) :
    Calls Tryz.prog 55 #[.string s] w fun e w' => e = .returned (TrE (zer 32) 0 1) ∧ Below w.heap.size w w' := by
  obtain ⟨W, hW⟩ : ∃ W, w.alloc (.cells #[.int .u8 0, .int .u8 0, .int .u8 0, .int .u8 0, .int .u8 0, .int .u8 0, .int .u8 0, .int .u8 0, .int .u8 0, .int .u8 0, .int .u8 0, .int .u8 0, .int .u8 0, .int .u8 0, .int .u8 0, .int .u8 0, .int .u8 0, .int .u8 0, .int .u8 0, .int .u8 0, .int .u8 0, .int .u8 0, .int .u8 0, .int .u8 0, .int .u8 0, .int .u8 0, .int .u8 0, .int .u8 0, .int .u8 0, .int .u8 0, .int .u8 0, .int .u8 0, .int .i64 0] 85) = W := ⟨_, rfl⟩
  have HBX : Hid (Below w.heap.size w W) := Lib.hid (by rw [← hW]; exact below_box0 _ _)
  have HT0 : Hid (TBlk W w.heap.size (zer 32) 0) := Lib.hid (by rw [← hW, ztr]; exact TBlk.new _ _ _)
  have HW := Lib.hid hW
  clear hW
  go_enter Tryz.func55, Tryz.ntmps55
  go_wp2_with fail
  rw [HW.out]
  refine (tlabel_any s hs false hr _).mono ?_
  rintro e w1 ⟨rfl, hb1⟩
  have HT1 := Lib.hid (HT0.out.below hb1)
  have HB1 := Lib.hid (below_ext HBX.out hb1)
  clear hb1
  go_wp2_with (first
    | ((with_reducible show wpList _ _ _ (⟨some 9, _, _, _, _, _⟩ :: _) _ _); refine wpList_built rfl 85 _ rfl _ built0 ?_)
    | ((with_reducible show wpList _ _ _ (⟨none, _, _, _, _, _⟩ :: _) _ _); refine wpList_store_row rfl 85 _ _ rfl w.heap.size (tcs (zer 32) 0) rfl rfl _ _ HT1.out (tr_info rfl) rfl (tcs_one _ _) ?_))
  have HRR : Hid (TBlk (w1.setRow w.heap.size (tcs (zer 32) 0)) w.heap.size (zer 32) 0) := Lib.hid HT1.out.setRow
  have HBF : Below w.heap.size w (w1.setRow w.heap.size (tcs (zer 32) 0)) := below_setRow' HB1.out (Nat.le_refl _)
  exact bodyPost_ret (v := TrE (zer 32) 0 1) (results_cell_tmp2 (p := 2) (q := 3) (ty := 85) rfl _ _ ⟨w.heap.size, 0, none⟩ _ _ rfl rfl (run_loadVar_row _ _ _ _ _ _ _ HRR.out Tryz.underlying85 rfl (tr_info rfl))) rfl ⟨rfl, HBF⟩
set_option maxHeartbeats 1600000 in
theorem tnew_ok (s : ByteArray) (hs : s.size ≤ 1000) (hr : Hid (labB (bys s) = true)) (w : World) (hv : Hid (VarsD w)) :
    Calls Tryz.prog 55 #[.string s] w fun e w' => e = .returned (TrE (newL (bys s)) 0 0) ∧ Below w.heap.size w w' := by
  have hs0 : 1 ≤ s.size := by
    have h := hr.out
    rw [labB, bys_len] at h
    simp at h
    exact h.1.1
  obtain ⟨W, hW⟩ : ∃ W, w.alloc (.cells #[.int .u8 0, .int .u8 0, .int .u8 0, .int .u8 0, .int .u8 0, .int .u8 0, .int .u8 0, .int .u8 0, .int .u8 0, .int .u8 0, .int .u8 0, .int .u8 0, .int .u8 0, .int .u8 0, .int .u8 0, .int .u8 0, .int .u8 0, .int .u8 0, .int .u8 0, .int .u8 0, .int .u8 0, .int .u8 0, .int .u8 0, .int .u8 0, .int .u8 0, .int .u8 0, .int .u8 0, .int .u8 0, .int .u8 0, .int .u8 0, .int .u8 0, .int .u8 0, .int .i64 0] 85) = W := ⟨_, rfl⟩
  have HBX : Hid (Below w.heap.size w W) := Lib.hid (by rw [← hW]; exact below_box0 _ _)
  have HT0 : Hid (TBlk W w.heap.size (zer 32) 0) := Lib.hid (by rw [← hW, ztr]; exact TBlk.new _ _ _)
  have HV := Lib.hid (hv.out.below HBX.out)
  have HW := Lib.hid hW
  have hcv := fun w => run_bytes_of_string (P := Tryz.prog) w 9 114 5 s Tryz.underlying9 Tryz.underlying114 Tryz.underlying5
  clear hW hv
  go_enter Tryz.func55, Tryz.ntmps55
  go_wp2_with fail
  rw [HW.out]
  refine (tlabel_any s hs true hr _).mono ?_
  rintro e w1 ⟨rfl, hb1⟩
  have HT1 := Lib.hid (HT0.out.below hb1)
  have HB1 := Lib.hid (below_ext HBX.out hb1)
  have HV1 := Lib.hid (HV.out.below hb1)
  clear hb1 HW
  go_wp2_with fail
  clear hcv
  obtain ⟨Wc, hWc⟩ : ∃ u, (w1.alloc (.cells (bytesRow s (grownCap w1 s.size 0 5)) 5 ((bytesRow s (grownCap w1 s.size 0 5)).size, (bytesRow s (grownCap w1 s.size 0 5)).size + 1))).drew = u := ⟨_, rfl⟩
  have HBc : Hid (Below w1.heap.size w1 Wc) := Lib.hid (by rw [← hWc]; exact (below_box0 _ _).drew)
  have HSc : Hid (Sk .u8 Wc (some ⟨w1.heap.size, 0, none⟩) (bys s)) := Lib.hid (by
    rw [← hWc]
    exact bys_sk (heap_alloc_new w1 _))
  obtain ⟨gc, hgc⟩ : ∃ g, grownCap w1 s.size 0 5 = g := ⟨_, rfl⟩
  rw [hWc, hgc]
  clear hWc hgc
  refine (tagged_any tagT (by decide) (by decide) w1.heap.size 0 gc (bys s) s.size (Lib.hid (bys_len s)) hs0 (by omega) (Lib.hid (bys_bytes s)) _ HSc (Lib.hid (HV1.out.below HBc.out))).mono ?_
  rintro e w2 ⟨rfl, hb2⟩
  have HT2 := Lib.hid ((HT1.out.below HBc.out).below hb2)
  have HB2 := Lib.hid (below_ext (below_ext HB1.out HBc.out) hb2)
  obtain ⟨R, hR⟩ : ∃ R, tagged (bys tagT) (bys s) = R := ⟨_, rfl⟩
  have hRl : R.length = 32 := by rw [← hR]; exact tagged_len _ _
  have HN : Kp (newL (bys s) = R) := ⟨hR⟩
  have HRL := Lib.hid hRl
  rw [hR, show HashOk R = .tuple #[.agg (arr .u8 R), .int .i64 0] from rfl]
  clear hb2 HSc HBc HT1 HB1 HV1 hR hRl
  go_upto_region 4 with ((with_reducible show wpList _ _ _ (⟨none, _, _, _, _, _⟩ :: _) _ _); refine wpList_store_row rfl 54 _ _ rfl w2.heap.size (arr .u8 R) rfl rfl _ _ (heap_alloc_new _ _) (hash_info HRL.out) (arrs_sz (l := zer 32) rfl HRL.out) (arr_one _) ?_)
  rw [World.setRow_alloc_new]
  try simp only [Act.put]
  have HH3 : Hid (Blk .u8 54 (w2.alloc (.cells (arr .u8 R) 54)) w2.heap.size R) := Lib.hid (Blk.new _ _)
  have HT3 := Lib.hid (HT2.out.below (below_box0 w2 (.cells (arr .u8 R) 54)))
  have HB3 := Lib.hid (below_ext HB2.out (below_box0 w2 (.cells (arr .u8 R) 54)))
  obtain ⟨W3, hW3⟩ : ∃ u, w2.alloc (.cells (arr .u8 R) 54) = u := ⟨_, rfl⟩
  rw [hW3] at HH3 HT3 HB3 ⊢
  clear hW3
  go_wp2_with (first
    | ((with_reducible show wpList _ _ _ (⟨some 16, _, _, _, _, _⟩ :: _) _ _); refine wpList_load_row rfl 54 _ rfl w2.heap.size rfl _ _ _ _ HH3.out Tryz.underlying54 rfl (hash_info HRL.out) ?_)
    | ((with_reducible show wpList _ _ _ (⟨some 17, _, _, _, _, _⟩ :: _) _ _); refine wpList_built rfl 85 _ rfl _ (built1 R HRL.out) ?_)
    | ((with_reducible show wpList _ _ _ (⟨none, _, _, _, _, _⟩ :: _) _ _); refine wpList_store_row rfl 85 _ _ rfl w.heap.size (tcs R 0) rfl rfl _ _ HT3.out (tr_info HRL.out) (tcs_sz rfl HRL.out) (tcs_one _ _) ?_))
  have HRR : Hid (TBlk (W3.setRow w.heap.size (tcs R 0)) w.heap.size R 0) := Lib.hid HT3.out.setRow
  have HBF : Below w.heap.size w (W3.setRow w.heap.size (tcs R 0)) := below_setRow' HB3.out (Nat.le_refl _)
  exact bodyPost_ret (v := TrE R 0 0) (results_cell_tmp2 (p := 2) (q := 3) (ty := 85) rfl _ _ ⟨w.heap.size, 0, none⟩ _ _ rfl rfl (run_loadVar_row _ _ _ _ _ _ _ HRR.out Tryz.underlying85 rfl (tr_info HRL.out))) rfl ⟨by rw [HN.out], HBF⟩
end Go.Proofs.YtdlhodbiaoafiaaGreatDoor
namespace Go.Proofs.YtdlhodbiaoafiaaGreatDoor
open Go.RowKit SpM
set_option linter.unusedVariables false
set_option linter.unusedSimpArgs false
set_option maxRecDepth 100000
theorem itr_list {w : World} {base : Nat} {v : Value} {cs : List Ic} {l : List It} {n : Nat} (h : OwnI w base v cs) (hc : cs.length = n) (hl : l.length = n) (hpos : 0 < n) (hr : ∀ k, k < n → ItR w (l.getD k default) (cs.getD k default)) :
    ∃ g cap, v = .slice (some ⟨g, 0, none⟩) n cap ∧ ItR w (.lst l) ⟨3, 0, none, 0, 0, some ⟨g, 0, none⟩, n, cap⟩ := by
  obtain ⟨g, cap, e, _, _, hf⟩ := h.four (by omega)
  rw [hc] at e hf
  exact ⟨g, cap, e, .lst l _ rfl rfl rfl hl.symm (fun k => cs.getD k default) (fun k hk => ⟨g, 0, rfl, hf k (by omega)⟩) (fun k hk => hr k (by omega))⟩
/-- the fields of bytes. -/
def icByt (A : Option Addr) (n c : Nat) : Ic := ⟨2, 0, A, n, c, none, 0, 0⟩
theorem itr_byt {w : World} {A : Option Addr} {n c : Nat} {b : List Int} (h : Sk .u8 w A b) (hn : b.length = n) : ItR w (.byt b) (icByt A n c) := .byt b _ rfl rfl hn.symm rfl h
theorem ownI_two (w : World) (a b : Ic) : OwnI (w.alloc (.cells #[.int .i64 a.kind, .int .i64 a.n, .slice a.B a.nb a.cb, .slice a.L a.nl a.cl, .int .i64 b.kind, .int .i64 b.n, .slice b.B b.nb b.cb, .slice b.L b.nl b.cl] 141)) w.heap.size (.slice (some ⟨w.heap.size, 0, none⟩) 2 2) [a, b] :=
  ⟨rfl, Or.inr ⟨w.heap.size, 2, _, rfl, Nat.le_refl _, heap_alloc_new _ _, Nat.le_refl _, by decide, rfl, rfl⟩⟩
theorem four_news {w : World} {b : Nat} {c : Ic} (h : Four w b 0 c) (j : Nat) (u : Value) (hj : (itemCells c)[j]? = some u) : w.cell? ((⟨b, 0, none⟩ : Addr).add j) = some u := by
  obtain ⟨h0, h1, h2, h3⟩ := h
  match j, hj with
  | 0, e => simp [itemCells] at e; subst e; exact h0
  | 1, e => simp [itemCells] at e; subst e; exact h1
  | 2, e => simp [itemCells] at e; subst e; exact h2
  | 3, e => simp [itemCells] at e; subst e; exact h3
  | j + 4, e => simp [itemCells] at e
theorem itemCells_one (c : Ic) : ∀ u ∈ itemCells c, u.oneCell' = true := by
  intro u hu
  simp [itemCells] at hu
  rcases hu with rfl | rfl | rfl | rfl <;> rfl
theorem sk_old {K : IntKind} {w w' : World} {B b : Nat} {l : List Int} (h : Sk K w (some ⟨b, 0, none⟩) l) (hb : Below B w w') (hl : b < B) : Sk K w' (some ⟨b, 0, none⟩) l := by
  intro j hj
  obtain ⟨b1, o, e, hc⟩ := h j hj
  injection e with e
  injection e with e1 e2 e3
  subst e1
  subst e2
  exact ⟨b, 0, rfl, (hb.cell (p := ⟨b, 0 + j, none⟩) hl).trans hc⟩
set_option maxHeartbeats 3200000 in
theorem hash0_any (tg : ByteArray) (ht1 : 1 ≤ tg.size) (ht2 : tg.size ≤ 100) (h : List Int) (hl : Hid (h.length = 32)) (hb : Hid (bytesB h = true)) (c : Int) (s : ByteArray) (hs0 : 1 ≤ s.size) (hs : s.size ≤ 1000) (w : World) (hv : Hid (VarsD w)) :
    Calls Tryz.prog 117 #[.string tg, .agg (tcs h c), .string s, .slice none 0 0] w fun e w' => e = .returned (HashOk (tagged (bys tg) (enc (.lst [.byt h, .byt (bys s)])))) ∧ Below w.heap.size w w' := by
  obtain ⟨i0, hi, hz0, hz1, hz2⟩ := info_parts itemInfo
  obtain ⟨RR, hRR⟩ : ∃ R, tagged (bys tg) (enc (.lst [.byt h, .byt (bys s)])) = R := ⟨_, rfl⟩
  rw [hRR]
  have HRR0 : Kp (tagged (bys tg) (enc (.lst [.byt h, .byt (bys s)])) = RR) := ⟨hRR⟩
  clear hRR
  obtain ⟨W, hW⟩ : ∃ W, (w.alloc (.cells (tcs h c) 85)).alloc (.cells #[.int .u8 0, .int .u8 0, .int .u8 0, .int .u8 0, .int .u8 0, .int .u8 0, .int .u8 0, .int .u8 0, .int .u8 0, .int .u8 0, .int .u8 0, .int .u8 0, .int .u8 0, .int .u8 0, .int .u8 0, .int .u8 0, .int .u8 0, .int .u8 0, .int .u8 0, .int .u8 0, .int .u8 0, .int .u8 0, .int .u8 0, .int .u8 0, .int .u8 0, .int .u8 0, .int .u8 0, .int .u8 0, .int .u8 0, .int .u8 0, .int .u8 0, .int .u8 0] 54) = W := ⟨_, rfl⟩
  have HBX : Hid (Below w.heap.size w W) := Lib.hid (by rw [← hW]; exact below_two (Below.refl _ _))
  have HT0 : Hid (TBlk W w.heap.size h c) := Lib.hid (by rw [← hW]; exact heap_alloc2_old _ _ _)
  have HR0 : Hid (Blk .u8 54 W (w.heap.size + 1) (zer 32)) := Lib.hid (by rw [← hW, zarrh]; exact heap_alloc2_new _ _ _)
  have HSZ : Hid (W.heap.size = w.heap.size + 2) := Lib.hid (by rw [← hW]; simp)
  have HV := Lib.hid (hv.out.below HBX.out)
  have HW := Lib.hid hW
  have hcv := fun w => run_bytes_of_string (P := Tryz.prog) w 9 114 5 s Tryz.underlying9 Tryz.underlying114 Tryz.underlying5
  clear hW hv
  go_enter Tryz.func117, Tryz.ntmps117
  go_upto_region 1 with (fail)
  rw [HW.out]
  go_upto_region 2 with (fail)
  clear hcv HW
  obtain ⟨gc, hgc⟩ : ∃ g, grownCap W s.size 0 5 = g := ⟨_, rfl⟩
  rw [hgc]
  obtain ⟨Wc, hWc⟩ : ∃ u, W.alloc (.cells (bytesRow s gc) 5 ((bytesRow s gc).size, (bytesRow s gc).size + 1)) = u := ⟨_, rfl⟩
  rw [hWc]
  have HBc : Hid (Below W.heap.size W Wc) := Lib.hid (by rw [← hWc]; exact below_box0 _ _)
  have HSc : Hid (Sk .u8 Wc (some ⟨W.heap.size, 0, none⟩) (bys s)) := Lib.hid (by rw [← hWc]; exact bys_sk (heap_alloc_new W _))
  have HCZ : Hid (Wc.heap.size = W.heap.size + 1) := Lib.hid (by rw [← hWc]; simp)
  obtain ⟨W2, hW2⟩ : ∃ u, (Wc.alloc (.cells #[.int .i64 2, .int .i64 0, .slice (some ⟨w.heap.size, 0, none⟩) 32 32, .slice none 0 0, .int .i64 2, .int .i64 0, .slice (some ⟨W.heap.size, 0, none⟩) s.size gc, .slice none 0 0] 141)).drew = u := ⟨_, rfl⟩
  have HO2 : Hid (OwnI W2 Wc.heap.size (.slice (some ⟨W.heap.size + 1, 0, none⟩) 2 2) [icByt (some ⟨w.heap.size, 0, none⟩) 32 32, icByt (some ⟨W.heap.size, 0, none⟩) s.size gc]) := Lib.hid (by
    rw [← hW2]
    have h := (ownI_two Wc (icByt (some ⟨w.heap.size, 0, none⟩) 32 32) (icByt (some ⟨W.heap.size, 0, none⟩) s.size gc)).keep (Below.refl _ _).drew
    rw [HCZ.out] at h ⊢
    exact h)
  have HB2 : Hid (Below W.heap.size W W2) := Lib.hid (below_ext HBc.out (by rw [← hW2]; exact (below_box0 _ _).drew))
  have HS2 : Hid (Sk .u8 W2 (some ⟨W.heap.size, 0, none⟩) (bys s)) := Lib.hid (HSc.out.below (by rw [← hW2]; exact (below_box0 _ _).drew))
  have hzW : Wc.heap.size < W2.heap.size := by rw [← hW2]; simp
  rw [hW2]
  clear hW2 hWc hgc HSc HBc
  have hrow : W2.ownsRow Wc.heap.size 141 4 (.slice (some ⟨W.heap.size + 1, 0, none⟩) 2 2) 2 ([icByt (some ⟨w.heap.size, 0, none⟩) 32 32, icByt (some ⟨W.heap.size, 0, none⟩) s.size gc].flatMap itemCells) := HO2.out
  have HSZB := hs
  go_wp2_with (at_builtin; refine wpList_append_own_none rfl _ _ 139 rfl Wc.heap.size 141 i0 4 Tryz.underlying139 hi _ _ _ rfl hrow rfl ?_)
  have HIX : Hid (∃ g cap, (Value.slice (some ⟨W.heap.size + 1, 0, none⟩) 2 2) = .slice (some ⟨g, 0, none⟩) 2 cap ∧ ItR W2 (.lst [.byt h, .byt (bys s)]) ⟨3, 0, none, 0, 0, some ⟨g, 0, none⟩, 2, cap⟩) := Lib.hid (itr_list HO2.out rfl rfl (by decide) (fun k hk => by
    rcases (show k = 0 ∨ k = 1 by omega) with rfl | rfl
    · exact itr_byt (HT0.out.below HB2.out).sk hl.out
    · exact itr_byt HS2.out (bys_len s)))
  obtain ⟨g3, cap3, e3, hit⟩ := HIX.out
  simp only [Value.slice.injEq, Option.some.injEq, Addr.mk.injEq] at e3
  obtain ⟨⟨rfl, -⟩, -, rfl⟩ := e3
  have HIT := Lib.hid hit
  have HB3 := HB2
  have HFIT : Hid (fits 8 (.lst [.byt h, .byt (bys s)])) := Lib.hid (by
    refine ⟨by simp, fun x hx => ?_⟩
    rcases (by simpa using hx : x = .byt h ∨ x = .byt (bys s)) with rfl | rfl
    · exact ⟨⟨by rw [hl.out]; decide, by rw [hl.out]; decide⟩, hb.out⟩
    · exact ⟨⟨by rw [bys_len]; omega, by rw [bys_len]; omega⟩, bys_bytes s⟩)
  have HLEN : Hid ((enc (.lst [.byt h, .byt (bys s)])).length ≤ 16384) := Lib.hid (by
    rw [enc_lst]
    simp only [encL, enc_byt, List.length_cons, List.length_append, be4_len, hl.out, bys_len, List.length_nil]
    omega)
  clear hit HIX hrow
  rw [show (Value.agg #[.int .i64 3, .int .i64 0, .slice none 0 0, .slice (some ⟨W.heap.size + 1, 0, none⟩) 2 2]) = (Ic.mk 3 0 none 0 0 (some ⟨W.heap.size + 1, 0, none⟩) 2 2).val from rfl]
  refine (encode_any _ _ _ HFIT.out HIT.out HLEN.out).mono ?_
  rintro e w4 ⟨v4, rfl, ho4, hb4⟩
  obtain ⟨E, hE⟩ : ∃ E, enc (.lst [.byt h, .byt (bys s)]) = E := ⟨_, rfl⟩
  have HEB : Hid (bytesB E = true) := Lib.hid (by rw [← hE]; exact enc_bytes HFIT.out)
  have HEL : Hid (0 < E.length ∧ E.length ≤ 16384) := Lib.hid (by rw [← hE]; exact ⟨enc_pos _, HLEN.out⟩)
  rw [hE] at ho4
  obtain ⟨g4, cap4, e4, hg4, -, -, hsk4⟩ := ho4.cells HEL.out.1
  obtain ⟨n4, hn4⟩ : ∃ n, E.length = n := ⟨_, rfl⟩
  rw [hn4] at e4 HEL
  subst e4
  have HN4 := Lib.hid hn4
  have HS4 := Lib.hid hsk4
  have HB4 := Lib.hid (below_ext HB3.out hb4)
  have HEE : Kp (enc (.lst [.byt h, .byt (bys s)]) = E) := ⟨hE⟩
  clear hE hsk4 ho4 hb4 hn4 HIT HLEN HFIT
  obtain ⟨he0, he1⟩ := HEL.out
  go_wp2_with fail
  refine (tagged_any tg ht1 ht2 g4 0 cap4 E n4 HN4 he0 (by omega) HEB _ HS4 (Lib.hid (HV.out.below HB4.out))).mono ?_
  rintro e w5 ⟨rfl, hb5⟩
  have HB5 := Lib.hid (below_ext HB4.out hb5)
  obtain ⟨R, hR⟩ : ∃ R, tagged (bys tg) E = R := ⟨_, rfl⟩
  have HRL : Hid (R.length = 32) := Lib.hid (by rw [← hR]; exact tagged_len _ _)
  have hRe : RR = R := by rw [← HRR0.1, HEE.1, hR]
  subst hRe
  rw [hR, show HashOk RR = .tuple #[.agg (arr .u8 RR), .int .i64 0] from rfl]
  clear hb5 hR HS4 HB4
  have HR5 : Hid (Blk .u8 54 w5 (w.heap.size + 1) (zer 32)) := Lib.hid (HR0.out.below HB5.out)
  go_wp2_with ((with_reducible show wpList _ _ _ (⟨none, _, _, _, _, _⟩ :: _) _ _); refine wpList_store_row rfl 54 _ _ rfl (w.heap.size + 1) (arr .u8 RR) rfl rfl _ _ HR5.out (hash_info HRL.out) (arrs_sz (l := zer 32) rfl HRL.out) (arr_one _) ?_)
  have HRR : Hid (Blk .u8 54 (w5.setRow (w.heap.size + 1) (arr .u8 RR)) (w.heap.size + 1) RR) := Lib.hid HR5.out.setRow
  have HBF : Below w.heap.size w (w5.setRow (w.heap.size + 1) (arr .u8 RR)) := below_setRow' (below_ext HBX.out HB5.out) (Nat.le_succ _)
  exact bodyPost_ret (v := HashOk RR) (results_cell_tmp2 (p := 8) (q := 9) (ty := 54) rfl _ _ ⟨w.heap.size + 1, 0, none⟩ _ _ rfl rfl (run_loadVar_row _ _ _ _ _ _ _ HRR.out Tryz.underlying54 rfl (hash_info HRL.out))) rfl ⟨rfl, HBF⟩
set_option maxHeartbeats 3200000 in
theorem hash1_any (tg : ByteArray) (ht1 : 1 ≤ tg.size) (ht2 : tg.size ≤ 100) (h : List Int) (hl : Hid (h.length = 32)) (hb : Hid (bytesB h = true)) (c : Int) (s : ByteArray) (hs0 : 1 ≤ s.size) (hs : s.size ≤ 1000) (item : It) (cI : Ic) (gm cm : Nat) (w : World) (hv : Hid (VarsD w)) (hF : Hid (Four w gm 0 cI)) (hI : Hid (ItR w item cI)) (hfi : Hid (fits 7 item)) (hle : Hid ((enc item).length ≤ 14000)) :
    Calls Tryz.prog 117 #[.string tg, .agg (tcs h c), .string s, .slice (some ⟨gm, 0, none⟩) 1 cm] w fun e w' => e = .returned (HashOk (tagged (bys tg) (enc (.lst [.byt h, .byt (bys s), item])))) ∧ Below w.heap.size w w' := by
  obtain ⟨i0, hi, hz0, hz1, hz2⟩ := info_parts itemInfo
  obtain ⟨RR, hRR⟩ : ∃ R, tagged (bys tg) (enc (.lst [.byt h, .byt (bys s), item])) = R := ⟨_, rfl⟩
  rw [hRR]
  have HRR0 : Kp (tagged (bys tg) (enc (.lst [.byt h, .byt (bys s), item])) = RR) := ⟨hRR⟩
  clear hRR
  obtain ⟨W, hW⟩ : ∃ W, (w.alloc (.cells (tcs h c) 85)).alloc (.cells #[.int .u8 0, .int .u8 0, .int .u8 0, .int .u8 0, .int .u8 0, .int .u8 0, .int .u8 0, .int .u8 0, .int .u8 0, .int .u8 0, .int .u8 0, .int .u8 0, .int .u8 0, .int .u8 0, .int .u8 0, .int .u8 0, .int .u8 0, .int .u8 0, .int .u8 0, .int .u8 0, .int .u8 0, .int .u8 0, .int .u8 0, .int .u8 0, .int .u8 0, .int .u8 0, .int .u8 0, .int .u8 0, .int .u8 0, .int .u8 0, .int .u8 0, .int .u8 0] 54) = W := ⟨_, rfl⟩
  have HBX : Hid (Below w.heap.size w W) := Lib.hid (by rw [← hW]; exact below_two (Below.refl _ _))
  have HT0 : Hid (TBlk W w.heap.size h c) := Lib.hid (by rw [← hW]; exact heap_alloc2_old _ _ _)
  have HR0 : Hid (Blk .u8 54 W (w.heap.size + 1) (zer 32)) := Lib.hid (by rw [← hW, zarrh]; exact heap_alloc2_new _ _ _)
  have HSZ : Hid (W.heap.size = w.heap.size + 2) := Lib.hid (by rw [← hW]; simp)
  have HV := Lib.hid (hv.out.below HBX.out)
  have HW := Lib.hid hW
  have hcv := fun w => run_bytes_of_string (P := Tryz.prog) w 9 114 5 s Tryz.underlying9 Tryz.underlying114 Tryz.underlying5
  clear hW hv
  go_enter Tryz.func117, Tryz.ntmps117
  go_upto_region 1 with (fail)
  rw [HW.out]
  go_upto_region 2 with (fail)
  clear hcv HW
  obtain ⟨gc, hgc⟩ : ∃ g, grownCap W s.size 0 5 = g := ⟨_, rfl⟩
  rw [hgc]
  obtain ⟨Wc, hWc⟩ : ∃ u, W.alloc (.cells (bytesRow s gc) 5 ((bytesRow s gc).size, (bytesRow s gc).size + 1)) = u := ⟨_, rfl⟩
  rw [hWc]
  have HBc : Hid (Below W.heap.size W Wc) := Lib.hid (by rw [← hWc]; exact below_box0 _ _)
  have HSc : Hid (Sk .u8 Wc (some ⟨W.heap.size, 0, none⟩) (bys s)) := Lib.hid (by rw [← hWc]; exact bys_sk (heap_alloc_new W _))
  have HCZ : Hid (Wc.heap.size = W.heap.size + 1) := Lib.hid (by rw [← hWc]; simp)
  obtain ⟨W2, hW2⟩ : ∃ u, (Wc.alloc (.cells #[.int .i64 2, .int .i64 0, .slice (some ⟨w.heap.size, 0, none⟩) 32 32, .slice none 0 0, .int .i64 2, .int .i64 0, .slice (some ⟨W.heap.size, 0, none⟩) s.size gc, .slice none 0 0] 141)).drew = u := ⟨_, rfl⟩
  have HO2 : Hid (OwnI W2 Wc.heap.size (.slice (some ⟨W.heap.size + 1, 0, none⟩) 2 2) [icByt (some ⟨w.heap.size, 0, none⟩) 32 32, icByt (some ⟨W.heap.size, 0, none⟩) s.size gc]) := Lib.hid (by
    rw [← hW2]
    have h := (ownI_two Wc (icByt (some ⟨w.heap.size, 0, none⟩) 32 32) (icByt (some ⟨W.heap.size, 0, none⟩) s.size gc)).keep (Below.refl _ _).drew
    rw [HCZ.out] at h ⊢
    exact h)
  have HB2 : Hid (Below W.heap.size W W2) := Lib.hid (below_ext HBc.out (by rw [← hW2]; exact (below_box0 _ _).drew))
  have HS2 : Hid (Sk .u8 W2 (some ⟨W.heap.size, 0, none⟩) (bys s)) := Lib.hid (HSc.out.below (by rw [← hW2]; exact (below_box0 _ _).drew))
  have hzW : Wc.heap.size < W2.heap.size := by rw [← hW2]; simp
  rw [hW2]
  clear hW2 hWc hgc HSc HBc
  have hrow : W2.ownsRow Wc.heap.size 141 4 (.slice (some ⟨W.heap.size + 1, 0, none⟩) 2 2) 2 ([icByt (some ⟨w.heap.size, 0, none⟩) 32 32, icByt (some ⟨W.heap.size, 0, none⟩) s.size gc].flatMap itemCells) := HO2.out
  have HSZB := hs
  have HF2 : Hid (Four W2 gm 0 cI) := Lib.hid ((hF.out.below HBX.out).below HB2.out)
  have HI2 : Hid (ItR W2 item cI) := Lib.hid ((hI.out.kept HBX.out).kept HB2.out)
  have HBW : Wc.heap.size ≤ W2.heap.size := by omega
  have b1 : 2 + 1 ≤ maxLen := by unfold maxLen; omega
  have b2 : (2 + 1) * 64 ≤ 140737488355328 := by omega
  have HNW : ∀ (j : Nat) (u : Value), (itemCells cI)[j]? = some u → W2.cell? ((⟨gm, 0, none⟩ : Addr).add j) = some u := four_news HF2.out
  go_wp2_with (at_builtin; refine wpList_append_lies rfl _ _ 139 rfl Wc.heap.size 141 i0 (.agg #[.int .i64 0, .int .i64 0, .slice none 0 0, .slice none 0 0]) 4 64 Tryz.underlying139 hi hz0 hz1 hz2 rfl (by decide) _ _ _ rfl hrow ⟨gm, 0, none⟩ 1 cm (itemCells cI) rfl rfl HNW (itemCells_one cI) (by decide) b1 b2 HBW _ rfl ?_; intro g3 cap3 w3 hown3 hgrow3 hat3 hlt3)
  have HB3 : Hid (Below W.heap.size W w3) := Lib.hid (HB2.out.grown hgrow3 (by have := HCZ.out; omega) (fun j hj => by have := HCZ.out; have := (World.ownsRow.lt hrow j hj).1; omega))
  have HB23 : Hid (Below (W.heap.size + 1) W2 w3) := Lib.hid ((Below.refl _ _).grown hgrow3 (by have := HCZ.out; omega) (fun j hj => by have := HCZ.out; have := (World.ownsRow.lt hrow j hj).1; omega))
  have HO3 : Hid (OwnI w3 Wc.heap.size (.slice (some ⟨g3, 0, none⟩) 3 cap3) [icByt (some ⟨w.heap.size, 0, none⟩) 32 32, icByt (some ⟨W.heap.size, 0, none⟩) s.size gc, cI]) := Lib.hid hown3
  have HIX : Hid (∃ g cap, (Value.slice (some ⟨g3, 0, none⟩) 3 cap3) = .slice (some ⟨g, 0, none⟩) 3 cap ∧ ItR w3 (.lst [.byt h, .byt (bys s), item]) ⟨3, 0, none, 0, 0, some ⟨g, 0, none⟩, 3, cap⟩) := Lib.hid (itr_list HO3.out rfl rfl (by decide) (fun k hk => by
    rcases (show k = 0 ∨ k = 1 ∨ k = 2 by omega) with rfl | rfl | rfl
    · exact itr_byt (HT0.out.below HB3.out).sk hl.out
    · exact itr_byt (sk_old HS2.out HB23.out (by omega)) (bys_len s)
    · exact ((hI.out.kept HBX.out).kept HB3.out)))
  obtain ⟨g, cap, e3, hit⟩ := HIX.out
  simp only [Value.slice.injEq, Option.some.injEq, Addr.mk.injEq] at e3
  obtain ⟨⟨rfl, -⟩, -, rfl⟩ := e3
  have HIT := Lib.hid hit
  have HFIT : Hid (fits 8 (.lst [.byt h, .byt (bys s), item])) := Lib.hid (by
    refine ⟨by simp, fun x hx => ?_⟩
    rcases (by simpa using hx : x = .byt h ∨ x = .byt (bys s) ∨ x = item) with rfl | rfl | rfl
    · exact ⟨⟨by rw [hl.out]; decide, by rw [hl.out]; decide⟩, hb.out⟩
    · exact ⟨⟨by rw [bys_len]; omega, by rw [bys_len]; omega⟩, bys_bytes s⟩
    · exact hfi.out)
  have HLEN : Hid ((enc (.lst [.byt h, .byt (bys s), item])).length ≤ 16384) := Lib.hid (by
    have := hle.out
    rw [enc_lst]
    simp only [encL, enc_byt, List.length_cons, List.length_append, be4_len, hl.out, bys_len, List.length_nil]
    omega)
  clear hit HIX hrow HO3 hown3 hgrow3 hat3 hlt3 HNW HF2 HI2 HB23
  rw [show (Value.agg #[.int .i64 3, .int .i64 0, .slice none 0 0, .slice (some ⟨g3, 0, none⟩) 3 cap3]) = (Ic.mk 3 0 none 0 0 (some ⟨g3, 0, none⟩) 3 cap3).val from rfl]
  refine (encode_any _ _ _ HFIT.out HIT.out HLEN.out).mono ?_
  rintro e w4 ⟨v4, rfl, ho4, hb4⟩
  obtain ⟨E, hE⟩ : ∃ E, enc (.lst [.byt h, .byt (bys s), item]) = E := ⟨_, rfl⟩
  have HEB : Hid (bytesB E = true) := Lib.hid (by rw [← hE]; exact enc_bytes HFIT.out)
  have HEL : Hid (0 < E.length ∧ E.length ≤ 16384) := Lib.hid (by rw [← hE]; exact ⟨enc_pos _, HLEN.out⟩)
  rw [hE] at ho4
  obtain ⟨g4, cap4, e4, hg4, -, -, hsk4⟩ := ho4.cells HEL.out.1
  obtain ⟨n4, hn4⟩ : ∃ n, E.length = n := ⟨_, rfl⟩
  rw [hn4] at e4 HEL
  subst e4
  have HN4 := Lib.hid hn4
  have HS4 := Lib.hid hsk4
  have HB4 := Lib.hid (below_ext HB3.out hb4)
  have HEE : Kp (enc (.lst [.byt h, .byt (bys s), item]) = E) := ⟨hE⟩
  clear hE hsk4 ho4 hb4 hn4 HIT HLEN HFIT
  obtain ⟨he0, he1⟩ := HEL.out
  go_wp2_with fail
  refine (tagged_any tg ht1 ht2 g4 0 cap4 E n4 HN4 he0 (by omega) HEB _ HS4 (Lib.hid (HV.out.below HB4.out))).mono ?_
  rintro e w5 ⟨rfl, hb5⟩
  have HB5 := Lib.hid (below_ext HB4.out hb5)
  obtain ⟨R, hR⟩ : ∃ R, tagged (bys tg) E = R := ⟨_, rfl⟩
  have HRL : Hid (R.length = 32) := Lib.hid (by rw [← hR]; exact tagged_len _ _)
  have hRe : RR = R := by rw [← HRR0.1, HEE.1, hR]
  subst hRe
  rw [hR, show HashOk RR = .tuple #[.agg (arr .u8 RR), .int .i64 0] from rfl]
  clear hb5 hR HS4 HB4
  have HR5 : Hid (Blk .u8 54 w5 (w.heap.size + 1) (zer 32)) := Lib.hid (HR0.out.below HB5.out)
  go_wp2_with ((with_reducible show wpList _ _ _ (⟨none, _, _, _, _, _⟩ :: _) _ _); refine wpList_store_row rfl 54 _ _ rfl (w.heap.size + 1) (arr .u8 RR) rfl rfl _ _ HR5.out (hash_info HRL.out) (arrs_sz (l := zer 32) rfl HRL.out) (arr_one _) ?_)
  have HRR : Hid (Blk .u8 54 (w5.setRow (w.heap.size + 1) (arr .u8 RR)) (w.heap.size + 1) RR) := Lib.hid HR5.out.setRow
  have HBF : Below w.heap.size w (w5.setRow (w.heap.size + 1) (arr .u8 RR)) := below_setRow' (below_ext HBX.out HB5.out) (Nat.le_succ _)
  exact bodyPost_ret (v := HashOk RR) (results_cell_tmp2 (p := 8) (q := 9) (ty := 54) rfl _ _ ⟨w.heap.size + 1, 0, none⟩ _ _ rfl rfl (run_loadVar_row _ _ _ _ _ _ _ HRR.out Tryz.underlying54 rfl (hash_info HRL.out))) rfl ⟨rfl, HBF⟩
end Go.Proofs.YtdlhodbiaoafiaaGreatDoor
namespace Go.Proofs.YtdlhodbiaoafiaaGreatDoor
open Go.RowKit SpM
set_option linter.unusedVariables false
set_option linter.unusedSimpArgs false
set_option maxRecDepth 100000
def tagAb : ByteArray := { data := #[115, 112, 101, 99, 105, 101, 47, 97, 98, 115, 111, 114, 98] }
/-- the state behind an item absorbed. -/
def abL (h s : List Int) (i : It) : List Int := tagged (bys tagAb) (enc (.lst [.byt h, .byt s, i]))
theorem abL_len (h s : List Int) (i : It) : (abL h s i).length = 32 := tagged_len _ _
theorem four_cells {w : World} {b : Nat} {c : Ic} {t : TypeId} (h : w.heap[b]? = some (.cells #[.int .i64 c.kind, .int .i64 c.n, .slice c.B c.nb c.cb, .slice c.L c.nl c.cl] t)) : Four w b 0 c :=
  ⟨cell_blk h 0, cell_blk h 1, cell_blk h 2, cell_blk h 3⟩
set_option maxHeartbeats 3200000 in
theorem tabsorb_ok (h : List Int) (hl : Hid (h.length = 32)) (hb : Hid (bytesB h = true)) (c : Int) (hc0 : 0 ≤ c) (hc1 : c < 1000) (s : ByteArray) (hs : s.size ≤ 1000) (hr : Hid (labB (bys s) = true)) (item : It) (cI : Ic) (w : World) (hv : Hid (VarsD w)) (hI : Hid (ItR w item cI)) (hfi : Hid (fits 7 item)) (hle : Hid ((enc item).length ≤ 14000)) :
    Calls Tryz.prog 114 #[.agg (tcs h c), .string s, .agg #[.int .i64 cI.kind, .int .i64 cI.n, .slice cI.B cI.nb cI.cb, .slice cI.L cI.nl cI.cl]] w fun e w' => e = .returned (TrE (abL h (bys s) item) (c + 1) 0) ∧ Below w.heap.size w w' := by
  have hs0 : 1 ≤ s.size := by
    have h := hr.out
    rw [labB, bys_len] at h
    simp at h
    exact h.1.1
  obtain ⟨i0, hi, hz0, hz1, hz2⟩ := info_parts itemInfo
  obtain ⟨W, hW⟩ : ∃ W, ((w.alloc (.cells (tcs h c) 85)).alloc (.cells #[.int .i64 cI.kind, .int .i64 cI.n, .slice cI.B cI.nb cI.cb, .slice cI.L cI.nl cI.cl] 141)).alloc (.cells #[.int .u8 0, .int .u8 0, .int .u8 0, .int .u8 0, .int .u8 0, .int .u8 0, .int .u8 0, .int .u8 0, .int .u8 0, .int .u8 0, .int .u8 0, .int .u8 0, .int .u8 0, .int .u8 0, .int .u8 0, .int .u8 0, .int .u8 0, .int .u8 0, .int .u8 0, .int .u8 0, .int .u8 0, .int .u8 0, .int .u8 0, .int .u8 0, .int .u8 0, .int .u8 0, .int .u8 0, .int .u8 0, .int .u8 0, .int .u8 0, .int .u8 0, .int .u8 0, .int .i64 0] 85) = W := ⟨_, rfl⟩
  have HBX : Hid (Below w.heap.size w W) := Lib.hid (by rw [← hW]; exact below_ext (below_two (Below.refl _ _)) (below_box0 _ _))
  have HT0 : Hid (TBlk W w.heap.size h c) := Lib.hid (by rw [← hW]; exact ((TBlk.new _ _ _).below (below_box0 _ _)).below (below_box0 _ _))
  have HIB : Hid (W.heap[w.heap.size + 1]? = some (.cells #[.int .i64 cI.kind, .int .i64 cI.n, .slice cI.B cI.nb cI.cb, .slice cI.L cI.nl cI.cl] 141 (0, 0))) := Lib.hid (by rw [← hW, ← (show (w.alloc (.cells (tcs h c) 85)).heap.size = w.heap.size + 1 by simp)]; exact heap_alloc2_old _ _ _)
  have HR0 : Hid (TBlk W (w.heap.size + 1 + 1) (zer 32) 0) := Lib.hid (by rw [← hW, ztr, show w.heap.size + 1 + 1 = (w.alloc (.cells (tcs h c) 85)).heap.size + 1 by simp]; exact heap_alloc2_new _ _ _)
  have HSZ : Hid (W.heap.size = w.heap.size + 3) := Lib.hid (by rw [← hW]; simp)
  have HV := Lib.hid (hv.out.below HBX.out)
  have HII := Lib.hid (hI.out.kept HBX.out)
  have HW := Lib.hid hW
  clear hW hv
  go_enter Tryz.func114, Tryz.ntmps114
  go_upto_region 1 with (fail)
  rw [HW.out]
  clear HW
  go_wp2_with ((with_reducible show wpList _ _ _ (⟨some 10, _, _, _, _, _⟩ :: _) _ _); refine wpList_load_row rfl 85 _ rfl w.heap.size rfl _ _ _ _ HT0.out Tryz.underlying85 rfl (tr_info hl.out) ?_)
  refine (tvalid_any h hl c hc0 (by omega) _).mono ?_
  rintro e w1 ⟨rfl, hb1⟩
  have HB1 := Lib.hid (below_ext HBX.out hb1)
  have HT1 := Lib.hid (HT0.out.below hb1)
  have HI1 := Lib.hid (HII.out.kept hb1)
  have HV1 := Lib.hid (HV.out.below hb1)
  have HR1 := Lib.hid (HR0.out.below hb1)
  have HIB1 : Hid (Four w1 (w.heap.size + 1) 0 cI) := Lib.hid (four_cells ((hb1.block _ (by have := HSZ.out; omega)).trans HIB.out))
  clear hb1 HT0 HII HV HR0 HIB HBX
  go_wp2_with fail
  refine (tlabel_any s hs true hr _).mono ?_
  rintro e w2 ⟨rfl, hb2⟩
  have HT2 := Lib.hid (HT1.out.below hb2)
  have HI2 := Lib.hid (HI1.out.kept hb2)
  have HV2 := Lib.hid (HV1.out.below hb2)
  have HR2 := Lib.hid (HR1.out.below hb2)
  have HIB2 := Lib.hid (HIB1.out.below hb2)
  have HB2 := Lib.hid (below_ext HB1.out hb2)
  clear hb2 HT1 HI1 HV1 HR1 HIB1 HB1
  obtain ⟨f0, f1, f2, f3⟩ := HIB2.out
  go_wp2_with ((with_reducible show wpList _ _ _ (⟨some 20, _, _, _, _, _⟩ :: _) _ _); refine wpList_load_row rfl 85 _ rfl w.heap.size rfl _ _ _ _ HT2.out Tryz.underlying85 rfl (tr_info hl.out) ?_)
  clear f0 f1 f2 f3
  obtain ⟨W3, hW3⟩ : ∃ u, w2.alloc (.cells #[.int .i64 cI.kind, .int .i64 cI.n, .slice cI.B cI.nb cI.cb, .slice cI.L cI.nl cI.cl] 141) = u := ⟨_, rfl⟩
  have HF3 : Hid (Four W3 w2.heap.size 0 cI) := Lib.hid (by rw [← hW3]; exact four_cells (heap_alloc_new _ _))
  have hb3 : Below w2.heap.size w2 W3 := by rw [← hW3]; exact below_box0 _ _
  rw [hW3]
  have HI3 := Lib.hid (HI2.out.kept hb3)
  have HV3 := Lib.hid (HV2.out.below hb3)
  refine (hash1_any tagAb (by decide) (by decide) h hl hb c s hs0 hs item cI w2.heap.size 1 W3 HV3 HF3 HI3 hfi hle).mono ?_
  rintro e w4 ⟨rfl, hb4⟩
  have HT4 := Lib.hid ((HT2.out.below hb3).below hb4)
  have HR4 := Lib.hid ((HR2.out.below hb3).below hb4)
  have HB4 := Lib.hid (below_ext (below_ext HB2.out hb3) hb4)
  obtain ⟨R, hR⟩ : ∃ R, tagged (bys tagAb) (enc (.lst [.byt h, .byt (bys s), item])) = R := ⟨_, rfl⟩
  have hRl : R.length = 32 := by rw [← hR]; exact tagged_len _ _
  have HN : Kp (abL h (bys s) item = R) := ⟨hR⟩
  have HRL := Lib.hid hRl
  rw [hR, show HashOk R = .tuple #[.agg (arr .u8 R), .int .i64 0] from rfl]
  clear hb3 hb4 hW3 HF3 HI3 HV3 HT2 HI2 HV2 HR2 HB2 HIB2 hR hRl
  go_upto_region 4 with ((with_reducible show wpList _ _ _ (⟨none, _, _, _, _, _⟩ :: _) _ _); refine wpList_store_row rfl 54 _ _ rfl w4.heap.size (arr .u8 R) rfl rfl _ _ (heap_alloc_new _ _) (hash_info HRL.out) (arrs_sz (l := zer 32) rfl HRL.out) (arr_one _) ?_)
  rw [World.setRow_alloc_new]
  try simp only [Act.put]
  have HK3 : Hid (Blk .u8 54 (w4.alloc (.cells (arr .u8 R) 54)) w4.heap.size R) := Lib.hid (Blk.new _ _)
  have HT5 := Lib.hid (HT4.out.below (below_box0 w4 (.cells (arr .u8 R) 54)))
  have HR5 := Lib.hid (HR4.out.below (below_box0 w4 (.cells (arr .u8 R) 54)))
  have HB5 := Lib.hid (below_ext HB4.out (below_box0 w4 (.cells (arr .u8 R) 54)))
  obtain ⟨W5, hW5⟩ : ∃ u, w4.alloc (.cells (arr .u8 R) 54) = u := ⟨_, rfl⟩
  rw [hW5] at HK3 HT5 HR5 HB5 ⊢
  clear hW5
  have hcnt := HT5.out.count hl.out
  have hcn : ¬ (c = 1000) := by omega
  have hwr : IntKind.i64.wrap (c + 1) = c + 1 := IntWalk.i64_in _ (by omega)
  go_wp2_with (first
    | ((with_reducible show wpList _ _ _ (⟨some 40, _, _, _, _, _⟩ :: _) _ _); refine wpList_load_row rfl 54 _ rfl w4.heap.size rfl _ _ _ _ HK3.out Tryz.underlying54 rfl (hash_info HRL.out) ?_)
    | ((with_reducible show wpList _ _ _ (⟨some 44, _, _, _, _, _⟩ :: _) _ _); refine wpList_built rfl 85 _ rfl _ (built2 R HRL.out (c + 1)) ?_)
    | ((with_reducible show wpList _ _ _ (⟨none, _, _, _, _, _⟩ :: _) _ _); refine wpList_store_row rfl 85 _ _ rfl (w.heap.size + 1 + 1) (tcs R (c + 1)) rfl rfl _ _ HR5.out (tr_info HRL.out) (tcs_sz rfl HRL.out) (tcs_one _ _) ?_))
  have HRR : Hid (TBlk (W5.setRow (w.heap.size + 1 + 1) (tcs R (c + 1))) (w.heap.size + 1 + 1) R (c + 1)) := Lib.hid HR5.out.setRow
  have HBF : Below w.heap.size w (W5.setRow (w.heap.size + 1 + 1) (tcs R (c + 1))) := below_setRow' HB5.out (by omega)
  exact bodyPost_ret (v := TrE R (c + 1) 0) (results_cell_tmp2 (p := 6) (q := 7) (ty := 85) rfl _ _ ⟨w.heap.size + 1 + 1, 0, none⟩ _ _ rfl rfl (run_loadVar_row _ _ _ _ _ _ _ HRR.out Tryz.underlying85 rfl (tr_info HRL.out))) rfl ⟨by rw [HN.out], HBF⟩
end Go.Proofs.YtdlhodbiaoafiaaGreatDoor
namespace Go.Proofs.YtdlhodbiaoafiaaGreatDoor
open Go.RowKit SpM
set_option linter.unusedVariables false
set_option linter.unusedSimpArgs false
set_option maxRecDepth 100000
set_option maxHeartbeats 3200000 in
theorem tints_ok (h : List Int) (hl : Hid (h.length = 32)) (hb : Hid (bytesB h = true)) (c : Int) (hc0 : 0 ≤ c) (hc1 : c < 1000) (s : ByteArray) (hs : s.size ≤ 1000) (hr : Hid (labB (bys s) = true)) (A : Option Addr) (l : List Int) (n cA : Nat) (hn : Hid (l.length = n)) (hbig : n ≤ 1000) (w : World) (hv : Hid (VarsD w)) (hS : Hid (Sl w A l)) (hfi : Hid (fits 7 (.lst (l.map .int)))) (hle : Hid ((enc (.lst (l.map .int))).length ≤ 14000)) :
    Calls Tryz.prog 85 #[.agg (tcs h c), .string s, .slice A n cA] w fun e w' => e = .returned (TrE (abL h (bys s) (.lst (l.map .int))) (c + 1) 0) ∧ Below w.heap.size w w' := by
  obtain ⟨W, hW⟩ : ∃ W, (w.alloc (.cells (tcs h c) 85)).alloc (.cells #[.int .u8 0, .int .u8 0, .int .u8 0, .int .u8 0, .int .u8 0, .int .u8 0, .int .u8 0, .int .u8 0, .int .u8 0, .int .u8 0, .int .u8 0, .int .u8 0, .int .u8 0, .int .u8 0, .int .u8 0, .int .u8 0, .int .u8 0, .int .u8 0, .int .u8 0, .int .u8 0, .int .u8 0, .int .u8 0, .int .u8 0, .int .u8 0, .int .u8 0, .int .u8 0, .int .u8 0, .int .u8 0, .int .u8 0, .int .u8 0, .int .u8 0, .int .u8 0, .int .i64 0] 85) = W := ⟨_, rfl⟩
  have HBX : Hid (Below w.heap.size w W) := Lib.hid (by rw [← hW]; exact below_two (Below.refl _ _))
  have HT0 : Hid (TBlk W w.heap.size h c) := Lib.hid (by rw [← hW]; exact heap_alloc2_old _ _ _)
  have HR0 : Hid (TBlk W (w.heap.size + 1) (zer 32) 0) := Lib.hid (by rw [← hW, ztr]; exact heap_alloc2_new _ _ _)
  have HV := Lib.hid (hv.out.below HBX.out)
  have HSL := Lib.hid (hS.out.below HBX.out)
  have HW := Lib.hid hW
  clear hW hv
  go_enter Tryz.func85, Tryz.ntmps85
  go_upto_region 1 with (fail)
  rw [HW.out]
  clear HW
  have HBd := Lib.hid ((Below.refl W.heap.size W).drew)
  have HTd := Lib.hid (HT0.out.below HBd.out)
  have HRd := Lib.hid (HR0.out.below HBd.out)
  have HVd := Lib.hid (HV.out.below HBd.out)
  have HSd := Lib.hid (HSL.out.below HBd.out)
  have HB3 := Lib.hid (below_ext HBX.out HBd.out)
  obtain ⟨Wd, hWd⟩ : ∃ u, W.drew = u := ⟨_, rfl⟩
  refine wp_region_T (S := fun w' => w'.heap[w.heap.size]? = some (.cells (tcs h c) 85 (0, 0))) (E := [7, 8]) (by kernel_rfl) (HTd.out) (fun hHeld => ?_)
  refine wpT_take (i := 0) (oi := _) (v := (.agg (tcs h c))) rfl (by kernel_rfl) (by kernel_rfl) (by kernel_rfl) (by kernel_rfl) (fun _ _ _ h => h) (Or.inl ⟨by rfl, yields_row 85 _ rfl w.heap.size rfl _ _ _ _ (fun _ h => h) Tryz.underlying85 rfl (tr_info hl.out)⟩) (by assumption) ?_
  try simp only [List.getElem_toArray, List.getElem_cons_zero, List.getElem_cons_succ, Act.put, List.setIfInBounds_toArray, List.set_cons_zero, List.set_cons_succ]
  refine wpT_take (i := 1) (oi := _) (v := ?_) rfl (by kernel_rfl) (by kernel_rfl) (by kernel_rfl) (by kernel_rfl) (fun _ _ _ h => h) (Or.inl ⟨by rfl, ?_⟩) (by assumption) ?_
  rotate_left; (intro wS hSw; (try dsimp only at hSw); go_simp <;> with_reducible rfl)
  try simp only [List.getElem_toArray, List.getElem_cons_zero, List.getElem_cons_succ, Act.put, List.setIfInBounds_toArray, List.set_cons_zero, List.set_cons_succ]
  refine wpT_take (i := 2) (oi := _) (v := ?_) rfl (by kernel_rfl) (by kernel_rfl) (by kernel_rfl) (by kernel_rfl) (fun _ _ _ h => h) (Or.inl ⟨by rfl, ?_⟩) (by assumption) ?_
  rotate_left; (intro wS hSw; (try dsimp only at hSw); go_simp <;> with_reducible rfl)
  try simp only [List.getElem_toArray, List.getElem_cons_zero, List.getElem_cons_succ, Act.put, List.setIfInBounds_toArray, List.set_cons_zero, List.set_cons_succ]
  refine wpT_one (i := 3) (by kernel_rfl) rfl (fun K hK => ?_)
  go_simp
  try rw [hWd]
  rw [hWd] at HBd HTd HRd HVd HSd HB3
  refine (ints_any A l n cA hn (by omega) _ HSd).mono ?_
  rintro e w4 ⟨cI, rfl, hI4, hb4⟩
  refine hK.out _ _ ?_ (fun hHeld => ?_)
  · exact HTd.out.below hb4
  clear hK K
  try simp only [List.getElem_toArray, List.getElem_cons_zero, List.getElem_cons_succ, Act.put, List.setIfInBounds_toArray, List.set_cons_zero, List.set_cons_succ]
  refine wpT_one (i := 4) (by kernel_rfl) rfl (fun K hK => ?_)
  go_simp
  have HV4 := Lib.hid (HVd.out.below hb4)
  rw [show cI.val = (.agg #[.int .i64 cI.kind, .int .i64 cI.n, .slice cI.B cI.nb cI.cb, .slice cI.L cI.nl cI.cl] : Value) from rfl]
  refine (tabsorb_ok h hl hb c hc0 hc1 s hs hr _ cI _ HV4 (Lib.hid hI4) hfi hle).mono ?_
  rintro e w5 ⟨rfl, hb5⟩
  have HR5 := Lib.hid ((HRd.out.below hb4).below hb5)
  have HB5 := Lib.hid (below_ext (below_ext HB3.out hb4) hb5)
  obtain ⟨R, hR⟩ : ∃ R, abL h (bys s) (.lst (l.map .int)) = R := ⟨_, rfl⟩
  have hRl : R.length = 32 := by rw [← hR]; exact abL_len _ _ _
  have HN : Kp (abL h (bys s) (.lst (l.map .int)) = R) := ⟨hR⟩
  have HRL := Lib.hid hRl
  rw [hR, show TrE R (c + 1) 0 = .tuple #[.agg (tcs R (c + 1)), .int .i64 0] from rfl]
  refine hK.out _ _ ?_ (fun hHeld => ?_)
  · exact (HTd.out.below hb4).below hb5
  clear hK K
  try simp only [List.getElem_toArray, List.getElem_cons_zero, List.getElem_cons_succ, Act.put, List.setIfInBounds_toArray, List.set_cons_zero, List.set_cons_succ]
  refine wpT_take (i := 5) (oi := _) (v := ?_) rfl (by kernel_rfl) (by kernel_rfl) (by kernel_rfl) (by kernel_rfl) (fun _ _ _ h => h) (Or.inl ⟨by rfl, ?_⟩) (by assumption) ?_
  rotate_left; (intro wS hSw; (try dsimp only at hSw); go_simp <;> with_reducible rfl)
  try simp only [List.getElem_toArray, List.getElem_cons_zero, List.getElem_cons_succ, Act.put, List.setIfInBounds_toArray, List.set_cons_zero, List.set_cons_succ]
  refine wpT_take (i := 6) (oi := _) (v := ?_) rfl (by kernel_rfl) (by kernel_rfl) (by kernel_rfl) (by kernel_rfl) (fun _ _ _ h => h) (Or.inl ⟨by rfl, ?_⟩) (by assumption) ?_
  rotate_left; (intro wS hSw; (try dsimp only at hSw); go_simp <;> with_reducible rfl)
  try simp only [List.getElem_toArray, List.getElem_cons_zero, List.getElem_cons_succ, Act.put, List.setIfInBounds_toArray, List.set_cons_zero, List.set_cons_succ]
  refine wpT_pass (i := 7) (by kernel_rfl) (by simp) rfl (fun K hK => ?_)
  rw [show (if Region.wanted _ _ = true then _ else _ : Prop) = _ from if_pos rfl]
  refine wp_store_row 85 _ _ rfl (w.heap.size + 1) (tcs R (c + 1)) rfl rfl 85 _ HR5.out (tr_info HRL.out) (tcs_sz rfl HRL.out) (tcs_one _ _) ?_
  refine hK.out _ _ ?_
  clear hK K
  try simp only [List.getElem_toArray, List.getElem_cons_zero, List.getElem_cons_succ, Act.put, List.setIfInBounds_toArray, List.set_cons_zero, List.set_cons_succ]
  refine wpT_pass (i := 8) (by kernel_rfl) (by simp) rfl (fun K hK => ?_)
  go_simp
  refine hK.out _ _ ?_
  clear hK K
  try simp only [List.getElem_toArray, List.getElem_cons_zero, List.getElem_cons_succ, Act.put, List.setIfInBounds_toArray, List.set_cons_zero, List.set_cons_succ]
  refine wpT_done (by kernel_rfl) ?_ _
  have HRR : Hid (TBlk (w5.setRow (w.heap.size + 1) (tcs R (c + 1))) (w.heap.size + 1) R (c + 1)) := Lib.hid HR5.out.setRow
  have HBF : Below w.heap.size w (w5.setRow (w.heap.size + 1) (tcs R (c + 1))) := below_setRow' HB5.out (by omega)
  clear hR hRl hb4 hb5 hI4 HV4 HB5 HR5 hWd
  go_wp2
  exact bodyPost_ret (v := TrE R (c + 1) 0) (results_cell_tmp2 (p := 6) (q := 7) (ty := 85) rfl _ _ ⟨w.heap.size + 1, 0, none⟩ _ _ rfl rfl (run_loadVar_row _ _ _ _ _ _ _ HRR.out Tryz.underlying85 rfl (tr_info HRL.out))) rfl ⟨by rw [HN.out], HBF⟩
end Go.Proofs.YtdlhodbiaoafiaaGreatDoor
namespace Go.Proofs.YtdlhodbiaoafiaaGreatDoor
open Go.RowKit SpM
set_option linter.unusedVariables false
set_option linter.unusedSimpArgs false
set_option maxRecDepth 100000
def tagCh : ByteArray := { data := #[115, 112, 101, 99, 105, 101, 47, 99, 104, 97, 108, 108, 101, 110, 103, 101] }
/-- the digest that a challenge is made of. -/
def chD (h s : List Int) : List Int := tagged (bys tagCh) (enc (.lst [.byt h, .byt s]))
/-- the challenge. -/
def chN (q : Int) (h s : List Int) : Int := numv q (chD h s)
/-- the state behind a challenge. -/
def chL (q : Int) (h s : List Int) : List Int := abL h s (.int (chN q h s))
theorem chD_bytes (h s : List Int) : bytesB (chD h s) = true := sha_bytes _
theorem chN_lo {q : Int} (hq : 1 ≤ q) (h s : List Int) : 0 ≤ chN q h s ∧ chN q h s < q := numL_lo hq 16
theorem results_cell_tmp3 {P : Program} {fn : Func} {p q r : Tmp} {ty : TypeId} (h : fn.results = #[.cell p ty, .tmp q, .tmp r]) (tmps : Array Value) (w : World) (a : Addr) (v u x : Value)
    (hp : tmps.getD p undef = .pointer (some a)) (hq : tmps.getD q undef = u) (hr : tmps.getD r undef = x) (hl : (loadVar ty a).run P w = .ok v w) : (results fn tmps).run P w = .ok (.tuple #[v, u, x]) w := by
  have hp' : tmps[p]?.getD undef = .pointer (some a) := by simpa using hp
  have hq' : tmps[q]?.getD undef = u := by simpa using hq
  have hr' : tmps[r]?.getD undef = x := by simpa using hr
  simp [results, h, hp', hq', hr', asAddr, hl]
/-- the answer of a challenge. -/
def ChE (h : List Int) (c n e : Int) : Value := .tuple #[.agg (tcs h c), .int .i64 n, .int .i64 e]
set_option maxHeartbeats 3200000 in
theorem tchal_ok (h : List Int) (hl : Hid (h.length = 32)) (hb : Hid (bytesB h = true)) (c : Int) (hc0 : 0 ≤ c) (hc1 : c < 1000) (s : ByteArray) (hs : s.size ≤ 1000) (hr : Hid (labB (bys s) = true)) (q : Int) (hq1 : 2 ≤ q) (hq2 : q < 2305843009213693952) (w : World) (hv : Hid (VarsD w)) :
    Calls Tryz.prog 86 #[.agg (tcs h c), .string s, .int .i64 q] w fun e w' => e = .returned (ChE (chL q h (bys s)) (c + 1) (chN q h (bys s)) 0) ∧ Below w.heap.size w w' := by
  have hs0 : 1 ≤ s.size := by
    have h := hr.out
    rw [labB, bys_len] at h
    simp at h
    exact h.1.1
  obtain ⟨W, hW⟩ : ∃ W, (w.alloc (.cells (tcs h c) 85)).alloc (.cells #[.int .u8 0, .int .u8 0, .int .u8 0, .int .u8 0, .int .u8 0, .int .u8 0, .int .u8 0, .int .u8 0, .int .u8 0, .int .u8 0, .int .u8 0, .int .u8 0, .int .u8 0, .int .u8 0, .int .u8 0, .int .u8 0, .int .u8 0, .int .u8 0, .int .u8 0, .int .u8 0, .int .u8 0, .int .u8 0, .int .u8 0, .int .u8 0, .int .u8 0, .int .u8 0, .int .u8 0, .int .u8 0, .int .u8 0, .int .u8 0, .int .u8 0, .int .u8 0, .int .i64 0] 85) = W := ⟨_, rfl⟩
  have HBX : Hid (Below w.heap.size w W) := Lib.hid (by rw [← hW]; exact below_two (Below.refl _ _))
  have HT0 : Hid (TBlk W w.heap.size h c) := Lib.hid (by rw [← hW]; exact heap_alloc2_old _ _ _)
  have HR0 : Hid (TBlk W (w.heap.size + 1) (zer 32) 0) := Lib.hid (by rw [← hW, ztr]; exact heap_alloc2_new _ _ _)
  have HV := Lib.hid (hv.out.below HBX.out)
  have HW := Lib.hid hW
  have hcn : ¬ (c = 1000) := by omega
  have hqa : ¬ (q < 2) := by omega
  have hqb : ¬ (2305843009213693952 ≤ q) := by omega
  clear hW hv
  go_enter Tryz.func86, Tryz.ntmps86
  go_upto_region 1 with (fail)
  rw [HW.out]
  clear HW
  go_wp2_with ((with_reducible show wpList _ _ _ (⟨some 14, _, _, _, _, _⟩ :: _) _ _); refine wpList_load_row rfl 85 _ rfl w.heap.size rfl _ _ _ _ HT0.out Tryz.underlying85 rfl (tr_info hl.out) ?_)
  refine (tvalid_any h hl c hc0 (by omega) _).mono ?_
  rintro e w1 ⟨rfl, hb1⟩
  have HB1 := Lib.hid (below_ext HBX.out hb1)
  have HT1 := Lib.hid (HT0.out.below hb1)
  have HV1 := Lib.hid (HV.out.below hb1)
  have HR1 := Lib.hid (HR0.out.below hb1)
  clear hb1 HT0 HV HR0 HBX
  go_wp2_with fail
  refine (tlabel_any s hs true hr _).mono ?_
  rintro e w2 ⟨rfl, hb2⟩
  have HT2 := Lib.hid (HT1.out.below hb2)
  have HV2 := Lib.hid (HV1.out.below hb2)
  have HR2 := Lib.hid (HR1.out.below hb2)
  have HB2 := Lib.hid (below_ext HB1.out hb2)
  clear hb2 HT1 HV1 HR1 HB1
  have hcnt := HT2.out.count hl.out
  go_wp2_with ((with_reducible show wpList _ _ _ (⟨some 37, _, _, _, _, _⟩ :: _) _ _); refine wpList_load_row rfl 85 _ rfl w.heap.size rfl _ _ _ _ HT2.out Tryz.underlying85 rfl (tr_info hl.out) ?_)
  clear hcnt
  refine (hash0_any tagCh (by decide) (by decide) h hl hb c s hs0 hs _ HV2).mono ?_
  rintro e w4 ⟨rfl, hb4⟩
  have HT4 := Lib.hid (HT2.out.below hb4)
  have HR4 := Lib.hid (HR2.out.below hb4)
  have HV4 := Lib.hid (HV2.out.below hb4)
  have HB4 := Lib.hid (below_ext HB2.out hb4)
  obtain ⟨R, hR⟩ : ∃ R, tagged (bys tagCh) (enc (.lst [.byt h, .byt (bys s)])) = R := ⟨_, rfl⟩
  have hRl : R.length = 32 := by rw [← hR]; exact tagged_len _ _
  have HRB : Hid (bytesB R = true) := Lib.hid (by rw [← hR]; exact chD_bytes _ _)
  have HN : Kp (chD h (bys s) = R) := ⟨hR⟩
  have HRL := Lib.hid hRl
  rw [hR, show HashOk R = .tuple #[.agg (arr .u8 R), .int .i64 0] from rfl]
  clear hb4 HT2 HV2 HR2 HB2 hR hRl
  go_upto_region 8 with ((with_reducible show wpList _ _ _ (⟨none, _, _, _, _, _⟩ :: _) _ _); refine wpList_store_row rfl 54 _ _ rfl w4.heap.size (arr .u8 R) rfl rfl _ _ (heap_alloc_new _ _) (hash_info HRL.out) (arrs_sz (l := zer 32) rfl HRL.out) (arr_one _) ?_)
  rw [World.setRow_alloc_new]
  try simp only [Act.put]
  have HK5 : Hid (Blk .u8 54 (w4.alloc (.cells (arr .u8 R) 54)) w4.heap.size R) := Lib.hid (Blk.new _ _)
  have HT5 := Lib.hid (HT4.out.below (below_box0 w4 (.cells (arr .u8 R) 54)))
  have HR5 := Lib.hid (HR4.out.below (below_box0 w4 (.cells (arr .u8 R) 54)))
  have HV5 := Lib.hid (HV4.out.below (below_box0 w4 (.cells (arr .u8 R) 54)))
  have HB5 := Lib.hid (below_ext HB4.out (below_box0 w4 (.cells (arr .u8 R) 54)))
  obtain ⟨W5, hW5⟩ : ∃ u, w4.alloc (.cells (arr .u8 R) 54) = u := ⟨_, rfl⟩
  rw [hW5] at HK5 HT5 HR5 HB5 HV5 ⊢
  clear hW5 HT4 HR4 HV4 HB4
  go_wp2_with ((with_reducible show wpList _ _ _ (⟨some 47, _, _, _, _, _⟩ :: _) _ _); refine wpList_load_row rfl 54 _ rfl w4.heap.size rfl _ _ _ _ HK5.out Tryz.underlying54 rfl (hash_info HRL.out) ?_)
  refine (number_any R HRL HRB q (by omega) hq2 _).mono ?_
  rintro e w6 ⟨rfl, hb6⟩
  have HT6 := Lib.hid (HT5.out.below hb6)
  have HR6 := Lib.hid (HR5.out.below hb6)
  have HV6 := Lib.hid (HV5.out.below hb6)
  have HB6 := Lib.hid (below_ext HB5.out hb6)
  obtain ⟨n, hn⟩ : ∃ n, numv q R = n := ⟨_, rfl⟩
  have hn0 : 0 ≤ n ∧ n < q := by rw [← hn]; exact numL_lo (by omega) 16
  obtain ⟨hn1, hn2⟩ := hn0
  have HNN : Kp (chN q h (bys s) = n) := ⟨by rw [chN, HN.1]; exact hn⟩
  rw [hn]
  clear hb6 hn HT5 HR5 HV5 HB5 HK5
  go_wp2_with ((with_reducible show wpList _ _ _ (⟨some 57, _, _, _, _, _⟩ :: _) _ _); refine wpList_load_row rfl 85 _ rfl w.heap.size rfl _ _ _ _ HT6.out Tryz.underlying85 rfl (tr_info hl.out) ?_)
  refine (tabsorb_ok h hl hb c hc0 hc1 s hs hr (.int n) ⟨1, n, none, 0, 0, none, 0, 0⟩ _ HV6 (Lib.hid (.int n _ rfl rfl rfl rfl)) (Lib.hid ⟨by omega, by omega⟩) (Lib.hid (by rw [enc_int, List.length_cons, be8_len]; decide))).mono ?_
  rintro e w7 ⟨rfl, hb7⟩
  have HR7 := Lib.hid (HR6.out.below hb7)
  have HB7 := Lib.hid (below_ext HB6.out hb7)
  obtain ⟨G, hG⟩ : ∃ G, abL h (bys s) (.int n) = G := ⟨_, rfl⟩
  have HGL : Hid (G.length = 32) := Lib.hid (by rw [← hG]; exact abL_len _ _ _)
  have HNG : Kp (chL q h (bys s) = G) := ⟨by rw [chL, HNN.1]; exact hG⟩
  rw [hG, show TrE G (c + 1) 0 = .tuple #[.agg (tcs G (c + 1)), .int .i64 0] from rfl]
  clear hb7 hG HR6 HB6 HT6 HV6
  go_upto_region 14 with ((with_reducible show wpList _ _ _ (⟨none, _, _, _, _, _⟩ :: _) _ _); refine wpList_store_row rfl 85 _ _ rfl w7.heap.size (tcs G (c + 1)) rfl rfl _ _ (heap_alloc_new _ _) (tr_info HGL.out) (tcs_sz (h := zer 32) (c := 0) rfl HGL.out) (tcs_one _ _) ?_)
  rw [World.setRow_alloc_new]
  try simp only [Act.put]
  have HK8 : Hid (TBlk (w7.alloc (.cells (tcs G (c + 1)) 85)) w7.heap.size G (c + 1)) := Lib.hid (TBlk.new _ _ _)
  have HR8 := Lib.hid (HR7.out.below (below_box0 w7 (.cells (tcs G (c + 1)) 85)))
  have HB8 := Lib.hid (below_ext HB7.out (below_box0 w7 (.cells (tcs G (c + 1)) 85)))
  obtain ⟨W8, hW8⟩ : ∃ u, w7.alloc (.cells (tcs G (c + 1)) 85) = u := ⟨_, rfl⟩
  rw [hW8] at HK8 HR8 HB8 ⊢
  clear hW8 HR7 HB7
  go_wp2_with (first
    | ((with_reducible show wpList _ _ _ (⟨some 68, _, _, _, _, _⟩ :: _) _ _); refine wpList_load_row rfl 85 _ rfl w7.heap.size rfl _ _ _ _ HK8.out Tryz.underlying85 rfl (tr_info HGL.out) ?_)
    | ((with_reducible show wpList _ _ _ (⟨none, _, _, _, _, _⟩ :: _) _ _); refine wpList_store_row rfl 85 _ _ rfl (w.heap.size + 1) (tcs G (c + 1)) rfl rfl _ _ HR8.out (tr_info HGL.out) (tcs_sz rfl HGL.out) (tcs_one _ _) ?_))
  have HRR : Hid (TBlk (W8.setRow (w.heap.size + 1) (tcs G (c + 1))) (w.heap.size + 1) G (c + 1)) := Lib.hid HR8.out.setRow
  have HBF : Below w.heap.size w (W8.setRow (w.heap.size + 1) (tcs G (c + 1))) := below_setRow' HB8.out (by omega)
  exact bodyPost_ret (v := ChE G (c + 1) n 0) (results_cell_tmp3 (p := 6) (q := 7) (r := 8) (ty := 85) rfl _ _ ⟨w.heap.size + 1, 0, none⟩ _ _ _ rfl rfl rfl (run_loadVar_row _ _ _ _ _ _ _ HRR.out Tryz.underlying85 rfl (tr_info HGL.out))) rfl ⟨by rw [HNG.out, HNN.out], HBF⟩
end Go.Proofs.YtdlhodbiaoafiaaGreatDoor
namespace Go.Proofs.YtdlhodbiaoafiaaGreatDoor
open Go.RowKit SpM
set_option linter.unusedVariables false
set_option linter.unusedSimpArgs false
set_option maxRecDepth 100000
theorem grown_setRow (w : World) (a : Nat) (cs : Array Value) : w.grownBy (w.setRow a cs) (some a) :=
  ⟨rfl, rfl, rfl, by simp [World.setRow], fun k hk hne => setRow_other w a k cs (fun e => hne (by rw [e]))⟩
theorem OwnI.setRow {w : World} {base a : Nat} {v : Value} {cs : List Ic} {r : Array Value} (h : OwnI w base v cs) (ha : a < base) : OwnI (w.setRow a r) base v cs :=
  World.ownsRow.kept h (grown_setRow w a r) (Or.inr (h.no ha))
theorem Sk.setRow {K : IntKind} {w : World} {b a : Nat} {l : List Int} {r : Array Value} (h : Sk K w (some ⟨b, 0, none⟩) l) (hne : a ≠ b) : Sk K (w.setRow a r) (some ⟨b, 0, none⟩) l :=
  h.grown (grown_setRow w a r) (fun b' o' e _ e2 => by cases e; cases e2; exact hne rfl)
end Go.Proofs.YtdlhodbiaoafiaaGreatDoor
namespace Go.Proofs.YtdlhodbiaoafiaaGreatDoor
open Go.RowKit SpM
set_option linter.unusedVariables false
set_option linter.unusedSimpArgs false
set_option maxRecDepth 100000
theorem infoD : (Tryz.prog.info? 56).map (·.size) = some 33 := by kernel_rfl
theorem dr_info {h : List Int} {c : Int} (hl : h.length = 32) : (Tryz.prog.info? 56).map (·.size) = some (tcs h c).size := infoD.trans (congrArg some (tcs_size hl).symm)
/-- a block that holds a draw. -/
def DBlk (w : World) (b : Nat) (h : List Int) (c : Int) : Prop := w.heap[b]? = some (.cells (tcs h c) 56 (0, 0))
theorem DBlk.below {w w' : World} {b : Nat} {h : List Int} {c : Int} (hh : DBlk w b h c) (hb : Below w.heap.size w w') : DBlk w' b h c := (hb.block b (Array.getElem?_eq_some_iff.1 hh).1).trans hh
theorem DBlk.new (w : World) (h : List Int) (c : Int) : DBlk (w.alloc (.cells (tcs h c) 56)) w.heap.size h c := heap_alloc_new _ _
theorem DBlk.lt {w : World} {b : Nat} {h : List Int} {c : Int} (hh : DBlk w b h c) : b < w.heap.size := (Array.getElem?_eq_some_iff.1 hh).1
theorem DBlk.count {w : World} {b : Nat} {h : List Int} {c : Int} (hh : DBlk w b h c) (hl : h.length = 32) : w.cell? ⟨b, 32, none⟩ = some (.int .i64 c) := by
  rw [cell_blk hh, tcs, Array.getElem?_append_right (by rw [arr_size, hl]; exact Nat.le_refl _), arr_size, hl]
  rfl
theorem DBlk.sk {w : World} {b : Nat} {h : List Int} {c : Int} (hh : DBlk w b h c) : Sk .u8 w (some ⟨b, 0, none⟩) h := fun j hj => ⟨b, 0, rfl, by
  rw [Nat.zero_add, cell_blk hh, tcs, Array.getElem?_append_left (by rw [arr_size]; exact hj)]
  exact arr_get hj⟩
theorem DBlk.setRow {w : World} {b : Nat} {h h' : List Int} {c c' : Int} (hh : DBlk w b h c) : DBlk (w.setRow b (tcs h' c')) b h' c' := setRow_heap w b _ _ _ _ hh
/-- which sources are valid. -/
def drB (c : Int) : Bool := decide (0 ≤ c) && decide (c ≤ 1099511627776)
theorem dvalid_any (h : List Int) (hl : Hid (h.length = 32)) (c : Int) (r : Bool) (hr : Hid (drB c = r)) (w : World) :
    Calls Tryz.prog 33 #[.agg (tcs h c)] w fun e w' => e = .returned (.bool r) ∧ Below w.heap.size w w' := by
  have hc := (DBlk.new w h c).count hl.out
  by_cases h0 : 0 ≤ c
  · have d1 : decide ((0 : Int) ≤ c) = true := by simp [h0]
    obtain ⟨t, ht⟩ : ∃ t, decide (c ≤ 1099511627776) = t := ⟨_, rfl⟩
    obtain rfl : t = r := by rw [← hr.out, drB, d1, ht]; rfl
    clear hr
    go_enter Tryz.func33, Tryz.ntmps33
    go_wp2
    go_ret
    exact ⟨by first | rfl | (rw [ht]), below_box0 _ _⟩
  · have d1 : decide ((0 : Int) ≤ c) = false := by simp; omega
    obtain rfl : r = false := by rw [← hr.out, drB, d1]; rfl
    clear hr
    go_enter Tryz.func33, Tryz.ntmps33
    go_wp2
    go_ret
    exact ⟨rfl, below_box0 _ _⟩
theorem dcheck_ok (h : List Int) (hl : Hid (h.length = 32)) (c : Int) (hv : Hid (drB c = true)) (n lo hi : Int) (h1 : lo ≤ n) (h2 : n ≤ hi) (w : World) :
    Calls Tryz.prog 91 #[.agg (tcs h c), .int .i64 n, .int .i64 lo, .int .i64 hi] w fun e w' => e = .returned (.int .i64 0) ∧ Below w.heap.size w w' := by
  have HT0 : Hid (DBlk (w.alloc (.cells (tcs h c) 56)) w.heap.size h c) := Lib.hid (DBlk.new _ _ _)
  have hb0 := below_box0 w (.cells (tcs h c) 56)
  obtain ⟨W, hW⟩ : ∃ W, w.alloc (.cells (tcs h c) 56) = W := ⟨_, rfl⟩
  rw [hW] at HT0 hb0
  have HB0 := Lib.hid hb0
  have HW := Lib.hid hW
  have d1 : decide (n < lo) = false := by simp; omega
  have d2 : decide (hi < n) = false := by simp; omega
  clear hW hb0
  go_enter Tryz.func91, Tryz.ntmps91
  go_upto_region 1 with (fail)
  rw [HW.out]
  clear HW
  go_wp2_with ((with_reducible show wpList _ _ _ (⟨some 10, _, _, _, _, _⟩ :: _) _ _); refine wpList_load_row rfl 56 _ rfl w.heap.size rfl _ _ _ _ HT0.out Tryz.underlying56 rfl (dr_info hl.out) ?_)
  refine (dvalid_any h hl c true hv _).mono ?_
  rintro e w1 ⟨rfl, hb1⟩
  have hbF := below_ext HB0.out hb1
  go_wp2
  go_ret
  exact ⟨rfl, hbF⟩
set_option maxHeartbeats 6400000 in
theorem dposition_any (h : List Int) (hl : Hid (h.length = 32)) (c : Int) (hc0 : 0 ≤ c) (hc1 : c ≤ 1099511627776) (w : World) :
    Calls Tryz.prog 160 #[.agg (tcs h c)] w (KOut .u8 5 (h ++ be8 c) w) := by
  obtain ⟨i1, hi1, hy0, hy1, hy2⟩ := info_parts byteInfo
  have HT0 : Hid (DBlk (w.alloc (.cells (tcs h c) 56)) w.heap.size h c) := Lib.hid (DBlk.new _ _ _)
  have hb0 := below_box0 w (.cells (tcs h c) 56)
  have HSZ : Hid ((w.alloc (.cells (tcs h c) 56)).heap.size = w.heap.size + 1) := Lib.hid (by simp)
  obtain ⟨W, hW⟩ : ∃ W, w.alloc (.cells (tcs h c) 56) = W := ⟨_, rfl⟩
  rw [hW] at HT0 hb0 HSZ
  have HB0 := Lib.hid hb0
  have HW := Lib.hid hW
  clear hW hb0
  go_enter Tryz.func160, Tryz.ntmps160
  go_upto_region 1 with (fail)
  rw [HW.out]
  clear HW
  have HT1 := Lib.hid (HT0.out.below (below_box0 W (.cells #[] 5)))
  have hrow : (W.alloc (.cells #[] 5)).ownsRow W.heap.size 5 1 (.slice (some ⟨W.heap.size, 0, none⟩) 0 0) 0 [] := ⟨rfl, Or.inr ⟨W.heap.size, 0, #[], rfl, Nat.le_refl _, heap_alloc_new _ _, Nat.le_refl _, by decide, rfl, rfl⟩⟩
  have b1 : 0 + 32 ≤ maxLen := by unfold maxLen; omega
  have b2 : (0 + 32) * 1 ≤ 140737488355328 := by omega
  have b3 : W.heap.size ≤ (W.alloc (.cells #[] 5)).heap.size := by simp
  have hlen : (h.map (Value.int .u8)).length = 32 * 1 := by simp [hl.out]
  go_upto_region 2 with (at_builtin; refine wpList_append_lies rfl _ _ 114 rfl W.heap.size 5 i1 (.int .u8 0) 1 1 Tryz.underlying114 hi1 hy0 hy1 hy2 rfl (by decide) (.slice (some ⟨W.heap.size, 0, none⟩) 0 0) _ _ rfl hrow ⟨w.heap.size, 0, none⟩ 32 32 (h.map (.int .u8)) rfl hlen HT1.out.sk.news (ints_oneCell .u8 _) (by decide) b1 b2 b3 _ rfl ?_; intro g1 cap1 w1 hown1 hgrow1 hat1 hlt1)
  have HOH : Hid (OwnK .u8 5 w1 W.heap.size (.slice (some ⟨g1, 0, none⟩) 32 cap1) (h ++ (be8 c).take 0)) := Lib.hid (by unfold OwnK; rw [List.take_zero, List.append_nil, hl.out]; simpa using hown1)
  have HB1 : Hid (Below W.heap.size W w1) := Lib.hid (((Below.refl W.heap.size W).alloc (Nat.le_refl _) (.cells #[] 5)).grown hgrow1 (by simp) (fun j hj => by cases hj; exact Nat.le_refl _))
  clear hown1 hgrow1 hat1 hlt1 hrow b1 b2 b3 hlen HT1
  go_wp2_with fail
  go_loopw [3, 4] (fun p i u => ∃ k : Nat, k ≤ 8 ∧ i = .int .i64 (56 - 8 * (k : Int)) ∧ Hid (OwnK .u8 5 u W.heap.size p (h ++ (be8 c).take k)) ∧ Hid (Below W.heap.size W u)) (fun _ i _ => (intOf i + 8).toNat)
  case atStart => exact ⟨0, by omega, by simp, HOH, HB1⟩
  case round =>
    obtain ⟨k, hk, rfl, HO, HBr⟩ := hrel
    by_cases hlt : k < 8
    · have d1 : decide ((0 : Int) ≤ 56 - 8 * (k : Int)) = true := by simp; omega
      obtain ⟨q, hq⟩ : ∃ q, c / 2 ^ (56 - 8 * k) = q := ⟨_, rfl⟩
      have HTK : Hid ((be8 c).take (k + 1) = (be8 c).take k ++ [q % 256]) := Lib.hid (by
        rw [take_one (show k < (be8 c).length by rw [be8_len]; exact hlt)]
        have h2 := bes_get (s := 8) (Or.inr rfl) c k hlt
        rw [show bes 8 c = be8 c from rfl] at h2
        rw [h2, ← hq, show 8 * (8 - 1 - k) = 56 - 8 * k by omega])
      have HLN : Hid ((h ++ (be8 c).take k).length = 32 + k) := Lib.hid (by rw [List.length_append, List.length_take, be8_len, hl.out]; omega)
      have j0 : (0 : Int) ≤ 56 - 8 * (k : Int) := by omega
      have j1 : (56 - 8 * (k : Int)).toNat = 56 - 8 * k := by omega
      have hown := HO.out.row HLN.out
      have hbs := HBr.out.size
      have hcnt := (HT0.out.below HBr.out).count hl.out
      have b1 : 32 + k + 1 ≤ maxLen := by unfold maxLen; omega
      have b2 : (32 + k + 1) * 1 ≤ 140737488355328 := by omega
      have b3 : W.heap.size ≤ (wr.alloc (.cells #[.int .u8 (q % 256)] 5)).heap.size := by simp; omega
      go_wp2_with (at_builtin; refine wpList_append_lies rfl _ _ 114 rfl W.heap.size 5 i1 (.int .u8 0) 1 1 Tryz.underlying114 hi1 hy0 hy1 hy2 rfl (by decide) u3 _ _ rfl (hown.alloc _) ⟨wr.heap.size, 0, none⟩ 1 1 [.int .u8 (q % 256)] rfl rfl (World.news_of_block (cs := #[.int .u8 (q % 256)]) (t := 5) (fr := (0, 0)) (heap_alloc_new wr _)) (by simp [Value.oneCell']) (by decide) b1 b2 b3 _ rfl ?_; intro gg cap wz hown1 hgrow hat hlt2)
      have HO2 : Hid (OwnK .u8 5 wz W.heap.size (.slice (some ⟨gg, 0, none⟩) (32 + k + 1) cap) (h ++ (be8 c).take (k + 1))) := Lib.hid (by
        rw [HTK.out, ← List.append_assoc]
        exact OwnK.app (ys := [q % 256]) HLN.out.symm rfl hown1)
      have HB2 : Hid (Below W.heap.size W wz) := Lib.hid ((HBr.out.alloc hbs (.cells #[.int .u8 (q % 256)] 5)).grown hgrow (by simp; omega) (fun j hj => (World.ownsRow.lt hown j hj).1))
      clear hown1 hgrow hown hat hlt2 b1 b2 b3 hcnt
      go_wp2
      go_roundw
      case rel => exact ⟨k + 1, by omega, by go_num, HO2, HB2⟩
      case measure => simp [intOf]; omega
    · obtain rfl : k = 8 := by omega
      have HF : Hid (OwnK .u8 5 wr W.heap.size u3 (h ++ be8 c)) := Lib.hid (by
        have h2 := HO.out
        rwa [List.take_of_length_le (by rw [be8_len]; exact Nat.le_refl _)] at h2)
      have hbF := below_ext HB0.out HBr.out
      have hz := HB0.out.size
      clear HO
      go_wp2
      go_ret
      exact ⟨_, rfl, HF.out.mono hz, hbF⟩
end Go.Proofs.YtdlhodbiaoafiaaGreatDoor
namespace Go.Proofs.YtdlhodbiaoafiaaGreatDoor
open Go.ChangeShapes Go.WideShapes Go.ChangeAt Go.RowKit SpM
set_option linter.unusedVariables false
/-- a draw for the witness. -/
def zDraw : Value := .agg (List.replicate 32 (Value.int .u8 0) ++ [Value.int .i64 0]).toArray
def zDrawD {H : Type} : DataW H := .agg [.agg (List.replicate 32 (.lit (Lit.int .u8 0))), .lit (Lit.int .i64 0)]
theorem cells_u8 {cl : List Value} : ∀ (k : Nat), (∀ i, i < k → ∃ z : Int, (cl.drop i).take 1 = [.int .u8 z] ∧ 0 ≤ z ∧ z < 256) → ∃ h : List Int, h.length = k ∧ cl.take k = h.map (.int .u8) ∧ bytesB h = true
  | 0, _ => ⟨[], rfl, by simp, rfl⟩
  | k + 1, hf => by
    obtain ⟨h, h1, h2, h3⟩ := cells_u8 k (fun i hi => hf i (by omega))
    obtain ⟨z, hz, z0, z1⟩ := hf k (by omega)
    refine ⟨h ++ [z], by simp [h1], by rw [List.take_add, h2, hz, List.map_append]; rfl, ?_⟩
    rw [bytesB_app, h3]
    simp [bytesB, z0, z1]
section
variable {H : Type} {enc : TypeId × Value → H} {w : World} {base : Nat} {held : Bool}
theorem cellsDraw : Tryz.prog.cellsOf 56 = 33 := by kernel_rfl
theorem cellsHash : Tryz.prog.cellsOf 54 = 32 := by kernel_rfl
set_option maxRecDepth 100000 in
theorem open_draw {r : Reach} {b0 : Nat} {v : Value} {d : DataW H} {ps : List MemPlace} (hval : Value.okWide Tryz.prog w r b0 56 v) (hd : DataW.Trod enc Tryz.prog w base (fun _ => true) held 56 v d ps) :
    ∃ (h : List Int) (c : Int), v = .agg (tcs h c) ∧ h.length = 32 ∧ bytesB h = true := by
  obtain ⟨cs, rfl, hsz⟩ := okWide_struct Tryz.underlying56 hval
  obtain ⟨n, h⟩ := hd
  obtain ⟨xs, m, rfl, _, hl, hxl, hf⟩ := DataW.trod_struct Tryz.underlying56 h
  rw [cellsDraw] at hl
  obtain ⟨cl⟩ := cs
  simp only [Value.cells] at hl hf
  have f0 : DataW.trod enc Tryz.prog w base (fun _ => true) held m 54 ((cl.drop 0).take (Tryz.prog.cellsOf 54)) = xs[0]? := hf 0 _ rfl
  have f1 : DataW.trod enc Tryz.prog w base (fun _ => true) held m 3 ((cl.drop 32).take (Tryz.prog.cellsOf 3)) = xs[1]? := hf 1 _ rfl
  rw [cellsHash, List.drop_zero] at f0
  rw [cellsInt] at f1
  have hl2 : xs.length = 2 := hxl
  match xs, hl2 with
  | [x0, x1], _ =>
    obtain ⟨c, hc, _, wc⟩ := DataW.trod_int Tryz.underlying3 f1
    obtain ⟨ys, m', _, _, _, hyl, hfy⟩ := DataW.trod_array Tryz.underlying54 f0
    obtain ⟨hh, h1, h2, h3⟩ := cells_u8 (cl := cl.take 32) 32 (fun i hi => by
      have fi := hfy i hi
      rw [cellsU8, Nat.mul_one, List.getElem?_eq_getElem (by rw [hyl]; exact hi)] at fi
      obtain ⟨z, hz, _, wz⟩ := DataW.trod_int Tryz.underlying5 fi
      refine ⟨z, hz, ?_⟩
      simp [Lit.wf, IntKind.min, IntKind.max, IntKind.signed, IntKind.bits] at wz
      omega)
    refine ⟨hh, c, ?_, h1, h3⟩
    rw [List.take_take, Nat.min_self] at h2
    have e : cl = hh.map (.int .u8) ++ [.int .i64 c] := by
      rw [← h2, ← hc, ← List.take_append_drop 32 cl]
      congr 1
      · simp [List.take_append_drop]
      · rw [List.take_append_drop, List.take_of_length_le (by rw [List.length_drop, hl]; exact Nat.le_refl _)]
    rw [e]
    congr 1
    apply Array.ext'
    simp [tcs, arr]
end
end Go.Proofs.YtdlhodbiaoafiaaGreatDoor
namespace Go.Proofs.YtdlhodbiaoafiaaGreatDoor
open Go.RowKit SpM
set_option linter.unusedVariables false
set_option linter.unusedSimpArgs false
set_option maxRecDepth 100000
/-- the number of some bytes, as the program joins them. -/
def fstep (v x : Int) : Int := bits BinOp.or IntKind.u64 (IntKind.u64.wrap (v * 256)) (IntKind.u64.wrap x)
def fstN (l : List Int) : Int := l.foldl fstep 0
def fst8 (h : List Int) : Int := fstN (h.take 8)
theorem fstN_step {h : List Int} {k : Nat} (hk : k < h.length) : fstN (h.take (k + 1)) = fstep (fstN (h.take k)) (h.getD k 0) := by
  rw [take_one hk, fstN, List.foldl_append]; rfl
set_option maxHeartbeats 3200000 in
theorem dfirst_any (h : List Int) (hl : Hid (h.length = 32)) (hb : Hid (bytesB h = true)) (w : World) :
    Calls Tryz.prog 129 #[.agg (arr .u8 h)] w fun e w' => e = .returned (.int .u64 (fst8 h)) ∧ Below w.heap.size w w' := by
  have HT0 : Hid (Blk .u8 54 (w.alloc (.cells (arr .u8 h) 54)) w.heap.size h) := Lib.hid (Blk.new _ _)
  have hb0 := below_box0 w (.cells (arr .u8 h) 54)
  obtain ⟨W, hW⟩ : ∃ W, w.alloc (.cells (arr .u8 h) 54) = W := ⟨_, rfl⟩
  rw [hW] at HT0 hb0
  have HB0 := Lib.hid hb0
  have HW := Lib.hid hW
  clear hW hb0
  go_enter Tryz.func129, Tryz.ntmps129
  go_wp2_with fail
  rw [HW.out]
  clear HW
  go_loopw [3, 8] (fun x i u => ∃ k : Nat, k ≤ 8 ∧ i = .int .i64 k ∧ x = .int .u64 (fstN (h.take k)) ∧ u = W) (fun _ i _ => 8 - (intOf i).toNat)
  case atStart => exact ⟨0, by omega, rfl, rfl, rfl⟩
  case round =>
    obtain ⟨k, hk, rfl, rfl, rfl⟩ := hrel
    by_cases hlt : k < 8
    · have hkl : k < h.length := by rw [hl.out]; omega
      have hc := HT0.out.cell hkl
      obtain ⟨x, hx⟩ : ∃ x, h.getD k 0 = x := ⟨_, rfl⟩
      rw [hx] at hc
      obtain ⟨v, hv⟩ : ∃ v, fstN (h.take k) = v := ⟨_, rfl⟩
      have HST : Hid (fstN (h.take (k + 1)) = fstep v x) := Lib.hid (by rw [fstN_step hkl, hx, hv])
      rw [hv]
      clear hx hv hkl
      go_wp2
      go_roundw
      case rel => exact ⟨k + 1, by omega, by go_num, by rw [HST.out]; rfl, trivial⟩
      case measure => simp [intOf]; omega
    · obtain rfl : k = 8 := by omega
      clear hlt
      obtain ⟨v, hv⟩ : ∃ v, fstN (h.take 8) = v := ⟨_, rfl⟩
      have HV : Hid (fst8 h = v) := Lib.hid hv
      rw [hv]
      clear hv
      go_wp2
      go_ret
      exact ⟨by rw [HV.out]; rfl, HB0.out⟩
end Go.Proofs.YtdlhodbiaoafiaaGreatDoor
namespace Go.Proofs.YtdlhodbiaoafiaaGreatDoor
open Go.RowKit SpM
set_option linter.unusedVariables false
set_option linter.unusedSimpArgs false
set_option maxRecDepth 100000
/-- the cells of a source of draws. -/
def scs (h : List Int) (c : Int) (f : Bool) : Array Value := arr .u8 h ++ #[.int .i64 c, .bool f]
def SBlk (w : World) (b : Nat) (h : List Int) (c : Int) (f : Bool) : Prop := w.heap[b]? = some (.cells (scs h c f) 118 (0, 0))
variable {w : World} {b : Nat} {h : List Int} {c : Int} {f : Bool}
theorem SBlk.lt (hh : SBlk w b h c f) : b < w.heap.size := (Array.getElem?_eq_some_iff.1 hh).1
theorem SBlk.below {w' : World} (hh : SBlk w b h c f) (hb : Below w.heap.size w w') : SBlk w' b h c f := (hb.block b hh.lt).trans hh
theorem scs_at32 (hl : h.length = 32) : (scs h c f)[32]? = some (.int .i64 c) := by
  rw [scs, Array.getElem?_append_right (by rw [arr_size, hl]; exact Nat.le_refl _), arr_size, hl]; rfl
theorem scs_at33 (hl : h.length = 32) : (scs h c f)[33]? = some (.bool f) := by
  rw [scs, Array.getElem?_append_right (by rw [arr_size, hl]; decide), arr_size, hl]; rfl
theorem SBlk.count (hh : SBlk w b h c f) (hl : h.length = 32) : Own w ⟨b, 32, none⟩ (.int .i64 c) := ⟨(cell_blk hh 32).trans (scs_at32 hl), frozen_blk hh 32⟩
theorem SBlk.full (hh : SBlk w b h c f) (hl : h.length = 32) : Own w ⟨b, 33, none⟩ (.bool f) := ⟨(cell_blk hh 33).trans (scs_at33 hl), frozen_blk hh 33⟩
theorem scs_set32 (hl : h.length = 32) (x : Int) : (scs h c f).setIfInBounds 32 (.int .i64 x) = scs h x f := by
  apply Array.ext'
  simp [scs, arr, List.set_append, hl]
theorem scs_set33 (hl : h.length = 32) (x : Bool) : (scs h c f).setIfInBounds 33 (.bool x) = scs h c x := by
  apply Array.ext'
  simp [scs, arr, List.set_append, hl]
theorem SBlk.set32 (hh : SBlk w b h c f) (hl : h.length = 32) (x : Int) : SBlk (w.setCell ⟨b, 32, none⟩ (.int .i64 x)) b h x f := by
  unfold SBlk
  rw [heap_setCell_same w b 32 _ _ _ hh, scs_set32 hl]
theorem SBlk.set33 (hh : SBlk w b h c f) (hl : h.length = 32) (x : Bool) : SBlk (w.setCell ⟨b, 33, none⟩ (.bool x)) b h c x := by
  unfold SBlk
  rw [heap_setCell_same w b 33 _ _ _ hh, scs_set33 hl]
theorem SBlk.range (hh : SBlk w b h c f) (hl : h.length = 32) : w.rangeAt b 0 (tcs h c).toList := fun j v hj => by
  have hlt : j < 33 := by
    have h2 := (List.getElem?_eq_some_iff.1 hj).1
    rw [Array.length_toList, tcs_size hl] at h2
    exact h2
  rw [Nat.zero_add, cell_blk hh, ← hj, Array.getElem?_toList]
  by_cases h3 : j < 32
  · rw [scs, tcs, Array.getElem?_append_left (by rw [arr_size, hl]; exact h3), Array.getElem?_append_left (by rw [arr_size, hl]; exact h3)]
  · obtain rfl : j = 32 := by omega
    rw [scs_at32 hl, tcs, Array.getElem?_append_right (by rw [arr_size, hl]; exact Nat.le_refl _), arr_size, hl]
    rfl
theorem drl_info (hl : h.length = 32) : (Tryz.prog.info? 56).map (·.size) = some (tcs h c).toList.length := (dr_info (c := c) hl).trans (by simp)
theorem gb_below {w w' : World} (h : Below w.heap.size w w') (r : Option Nat) : w.grownBy w' r := ⟨h.os, h.tape, h.output, h.size, fun k hk _ => h.block k hk⟩
theorem gb_trans {w w1 w2 : World} {r : Option Nat} (h1 : w.grownBy w1 r) (h2 : w1.grownBy w2 r) : w.grownBy w2 r :=
  ⟨h2.os.trans h1.os, h2.tape.trans h1.tape, h2.output.trans h1.output, Nat.le_trans h1.size h2.size, fun k hk hne => (h2.block k (Nat.lt_of_lt_of_le hk h1.size) hne).trans (h1.block k hk hne)⟩
theorem gb_setCell {w : World} (b j : Nat) (v : Value) : w.grownBy (w.setCell ⟨b, j, none⟩ v) (some b) := grown_set2 w b j v
theorem gb_toBelow {w w' : World} {b B : Nat} (h : w.grownBy w' (some b)) (hB : B ≤ b) (hs : B ≤ w.heap.size) : Below B w w' := (Below.refl B w).grown h hs (fun j hj => by cases hj; exact hB)
/-- changes of the call's own new block are none of the old world's. -/
theorem gb_setRow_new {w w1 : World} {r : Option Nat} (h : w.grownBy w1 r) (a : Nat) (ha : w.heap.size ≤ a) (cs : Array Value) : w.grownBy (w1.setRow a cs) r :=
  ⟨h.os, h.tape, h.output, by rw [setRow_size]; exact h.size, fun k hk hne => (setRow_other w1 a k cs (by omega)).trans (h.block k hk hne)⟩
theorem gb_alloc_new {w w1 : World} {r : Option Nat} (h : w.grownBy w1 r) (o : Obj) : w.grownBy (w1.alloc o) r := gb_trans h (gb_below (below_box0 _ _) r)
/-- the hash of a block of draws. -/
def blkL (h : List Int) (c : Int) : List Int := sha (h ++ be8 c)
theorem blkL_len (h : List Int) (c : Int) : (blkL h c).length = 32 := sha_len _
theorem blkL_bytes (h : List Int) (c : Int) : bytesB (blkL h c) = true := sha_bytes _
set_option maxHeartbeats 3200000 in
theorem dblock_full (h : List Int) (hl : Hid (h.length = 32)) (b : Nat) (f0 : Bool) (w : World) (hS : Hid (SBlk w b h 1099511627776 f0)) :
    Calls Tryz.prog 128 #[.pointer (some ⟨b, 0, none⟩)] w fun e w' => e = .returned (.agg (arr .u8 (zer 32))) ∧ SBlk w' b h 1099511627776 true ∧ w.grownBy w' (some b) := by
  obtain ⟨W, hW⟩ : ∃ W, w.alloc (.cells #[.int .u8 0, .int .u8 0, .int .u8 0, .int .u8 0, .int .u8 0, .int .u8 0, .int .u8 0, .int .u8 0, .int .u8 0, .int .u8 0, .int .u8 0, .int .u8 0, .int .u8 0, .int .u8 0, .int .u8 0, .int .u8 0, .int .u8 0, .int .u8 0, .int .u8 0, .int .u8 0, .int .u8 0, .int .u8 0, .int .u8 0, .int .u8 0, .int .u8 0, .int .u8 0, .int .u8 0, .int .u8 0, .int .u8 0, .int .u8 0, .int .u8 0, .int .u8 0] 54) = W := ⟨_, rfl⟩
  have HBX : Hid (Below w.heap.size w W) := Lib.hid (by rw [← hW]; exact below_box0 _ _)
  have HR0 : Hid (Blk .u8 54 W w.heap.size (zer 32)) := Lib.hid (by rw [← hW, zarrh]; exact heap_alloc_new _ _)
  have HS := Lib.hid (hS.out.below HBX.out)
  have HLT : Hid (b < w.heap.size) := Lib.hid hS.out.lt
  have HW := Lib.hid hW
  clear hW
  obtain ⟨c1, c2⟩ := HS.out.count hl.out
  obtain ⟨f1, f2⟩ := HS.out.full hl.out
  have HS2 := Lib.hid (HS.out.set33 hl.out true)
  have HR2 : Hid (Blk .u8 54 (W.setCell ⟨b, 33, none⟩ (.bool true)) w.heap.size (zer 32)) := Lib.hid (HR0.out.set_ne (by have := HLT.out; omega))
  go_enter Tryz.func128, Tryz.ntmps128
  go_upto_region 1 with (fail)
  rw [HW.out]
  clear HW
  go_wp2_with ((with_reducible show wpList _ _ _ (⟨none, _, _, _, _, _⟩ :: _) _ _); refine wpList_store_row rfl 54 _ _ rfl w.heap.size (arr .u8 (zer 32)) rfl rfl _ _ HR2.out (hash_info rfl) (arrs_sz (l := zer 32) rfl rfl) (arr_one _) ?_)
  have HRR : Hid (Blk .u8 54 ((W.setCell ⟨b, 33, none⟩ (.bool true)).setRow w.heap.size (arr .u8 (zer 32))) w.heap.size (zer 32)) := Lib.hid HR2.out.setRow
  have hSF : SBlk ((W.setCell ⟨b, 33, none⟩ (.bool true)).setRow w.heap.size (arr .u8 (zer 32))) b h 1099511627776 true := (setRow_other _ _ b _ (by have := HLT.out; omega)).trans HS2.out
  have hGF : w.grownBy ((W.setCell ⟨b, 33, none⟩ (.bool true)).setRow w.heap.size (arr .u8 (zer 32))) (some b) := gb_setRow_new (gb_trans (gb_below HBX.out _) (gb_setCell b 33 _)) _ (Nat.le_refl _) _
  exact bodyPost_ret (v := .agg (arr .u8 (zer 32))) (results_cell1 (p := 2) (ty := 54) rfl _ _ ⟨w.heap.size, 0, none⟩ _ rfl (run_loadVar_row _ _ _ _ _ _ _ HRR.out Tryz.underlying54 rfl (hash_info rfl))) rfl ⟨rfl, hSF, hGF⟩
set_option maxHeartbeats 6400000 in
theorem dblock_ok (h : List Int) (hl : Hid (h.length = 32)) (hb : Hid (bytesB h = true)) (c : Int) (hc0 : 0 ≤ c) (hc1 : c < 1099511627776) (b : Nat) (w : World) (hv : Hid (VarsD w)) (hS : Hid (SBlk w b h c false)) :
    Calls Tryz.prog 128 #[.pointer (some ⟨b, 0, none⟩)] w fun e w' => e = .returned (.agg (arr .u8 (blkL h c))) ∧ SBlk w' b h (c + 1) false ∧ w.grownBy w' (some b) := by
  obtain ⟨W, hW⟩ : ∃ W, w.alloc (.cells #[.int .u8 0, .int .u8 0, .int .u8 0, .int .u8 0, .int .u8 0, .int .u8 0, .int .u8 0, .int .u8 0, .int .u8 0, .int .u8 0, .int .u8 0, .int .u8 0, .int .u8 0, .int .u8 0, .int .u8 0, .int .u8 0, .int .u8 0, .int .u8 0, .int .u8 0, .int .u8 0, .int .u8 0, .int .u8 0, .int .u8 0, .int .u8 0, .int .u8 0, .int .u8 0, .int .u8 0, .int .u8 0, .int .u8 0, .int .u8 0, .int .u8 0, .int .u8 0] 54) = W := ⟨_, rfl⟩
  have HBX : Hid (Below w.heap.size w W) := Lib.hid (by rw [← hW]; exact below_box0 _ _)
  have HR0 : Hid (Blk .u8 54 W w.heap.size (zer 32)) := Lib.hid (by rw [← hW, zarrh]; exact heap_alloc_new _ _)
  have HS := Lib.hid (hS.out.below HBX.out)
  have HV := Lib.hid (hv.out.below HBX.out)
  have HLT : Hid (b < w.heap.size) := Lib.hid hS.out.lt
  have HW := Lib.hid hW
  have hcn : ¬ (c = 1099511627776) := by omega
  have hwr : IntKind.i64.wrap (c + 1) = c + 1 := IntWalk.i64_in _ (by omega)
  clear hW
  obtain ⟨c1, c2⟩ := HS.out.count hl.out
  go_enter Tryz.func128, Tryz.ntmps128
  go_upto_region 1 with (fail)
  rw [HW.out]
  clear HW
  go_wp2_with ((with_reducible show wpList _ _ _ (⟨some 17, _, _, _, _, _⟩ :: _) _ _); refine wpList_load_mid rfl 56 _ rfl b 0 rfl (tcs h c).toList _ (HS.out.range hl.out) Tryz.underlying56 rfl (drl_info hl.out) ?_)
  clear c1 c2
  refine (dposition_any h hl c hc0 (by omega) _).mono ?_
  rintro e w1 ⟨v1, rfl, ho1, hb1⟩
  have HS1 := Lib.hid (HS.out.below hb1)
  have HR1 := Lib.hid (HR0.out.below hb1)
  have HV1 := Lib.hid (HV.out.below hb1)
  have HB1 := Lib.hid (below_ext HBX.out hb1)
  obtain ⟨E, hE⟩ : ∃ E, h ++ be8 c = E := ⟨_, rfl⟩
  have HEL : Hid (E.length = 40) := Lib.hid (by rw [← hE, List.length_append, hl.out, be8_len])
  have HEB : Hid (bytesB E = true) := Lib.hid (by rw [← hE, bytesB_app, hb.out, be8_bytes]; rfl)
  rw [hE] at ho1
  obtain ⟨g1, cap1, e1, hg1, -, -, hsk1⟩ := ho1.cells (by rw [HEL.out]; decide)
  rw [HEL.out] at e1
  subst e1
  have HSK := Lib.hid hsk1
  have HBE : Kp (blkL h c = sha E) := ⟨by rw [blkL, hE]⟩
  clear hb1 ho1 hE hsk1 hg1
  go_wp2_with fail
  refine (sum_any g1 0 cap1 E 40 HEL (by omega) HEB _ HSK HV1).mono ?_
  rintro e w2 ⟨rfl, hb2⟩
  obtain ⟨R, hR⟩ : ∃ R, sha E = R := ⟨_, rfl⟩
  have HRL : Hid (R.length = 32) := Lib.hid (by rw [← hR]; exact sha_len _)
  have HNR : Kp (blkL h c = R) := ⟨by rw [HBE.1, hR]⟩
  rw [hR]
  have HS2 := Lib.hid (HS1.out.below hb2)
  have HR2 := Lib.hid (HR1.out.below hb2)
  have HB2 := Lib.hid (below_ext HB1.out hb2)
  clear hb2 hR HSK
  go_upto_region 5 with ((with_reducible show wpList _ _ _ (⟨none, _, _, _, _, _⟩ :: _) _ _); refine wpList_store_row rfl 54 _ _ rfl w2.heap.size (arr .u8 R) rfl rfl _ _ (heap_alloc_new _ _) (hash_info HRL.out) (arrs_sz (l := zer 32) rfl HRL.out) (arr_one _) ?_)
  rw [World.setRow_alloc_new]
  try simp only [Act.put]
  have HK3 : Hid (Blk .u8 54 (w2.alloc (.cells (arr .u8 R) 54)) w2.heap.size R) := Lib.hid (Blk.new _ _)
  have HS3 := Lib.hid (HS2.out.below (below_box0 w2 (.cells (arr .u8 R) 54)))
  have HR3 := Lib.hid (HR2.out.below (below_box0 w2 (.cells (arr .u8 R) 54)))
  have HB3 := Lib.hid (below_ext HB2.out (below_box0 w2 (.cells (arr .u8 R) 54)))
  have HLT2 : Hid (b < w2.heap.size) := Lib.hid HS2.out.lt
  obtain ⟨W3, hW3⟩ : ∃ u, w2.alloc (.cells (arr .u8 R) 54) = u := ⟨_, rfl⟩
  rw [hW3] at HK3 HS3 HR3 HB3 ⊢
  clear hW3 HS2 HR2 HB2
  obtain ⟨c1, c2⟩ := HS3.out.count hl.out
  have HS4 := Lib.hid (HS3.out.set32 hl.out (c + 1))
  have HR4 : Hid (Blk .u8 54 (W3.setCell ⟨b, 32, none⟩ (.int .i64 (c + 1))) w.heap.size (zer 32)) := Lib.hid (HR3.out.set_ne (by have := HLT.out; omega))
  have HK4 : Hid (Blk .u8 54 (W3.setCell ⟨b, 32, none⟩ (.int .i64 (c + 1))) w2.heap.size R) := Lib.hid (HK3.out.set_ne (by have := HLT2.out; omega))
  go_wp2_with (first
    | ((with_reducible show wpList _ _ _ (⟨some 29, _, _, _, _, _⟩ :: _) _ _); refine wpList_load_row rfl 54 _ rfl w2.heap.size rfl _ _ _ _ HK4.out Tryz.underlying54 rfl (hash_info HRL.out) ?_)
    | ((with_reducible show wpList _ _ _ (⟨none, 28, _, _, _, _⟩ :: _) _ _); fail)
    | (refine wpList_store_row rfl 54 _ _ rfl w.heap.size (arr .u8 R) rfl rfl _ _ HR4.out (hash_info HRL.out) (arrs_sz (l := zer 32) rfl HRL.out) (arr_one _) ?_))
  have HRR : Hid (Blk .u8 54 ((W3.setCell ⟨b, 32, none⟩ (.int .i64 (c + 1))).setRow w.heap.size (arr .u8 R)) w.heap.size R) := Lib.hid HR4.out.setRow
  have hSF : SBlk ((W3.setCell ⟨b, 32, none⟩ (.int .i64 (c + 1))).setRow w.heap.size (arr .u8 R)) b h (c + 1) false := (setRow_other _ _ b _ (by have := HLT.out; omega)).trans HS4.out
  have hGF : w.grownBy ((W3.setCell ⟨b, 32, none⟩ (.int .i64 (c + 1))).setRow w.heap.size (arr .u8 R)) (some b) := gb_setRow_new (gb_trans (gb_below HB3.out _) (gb_setCell b 32 _)) _ (Nat.le_refl _) _
  exact bodyPost_ret (v := .agg (arr .u8 R)) (results_cell1 (p := 2) (ty := 54) rfl _ _ ⟨w.heap.size, 0, none⟩ _ rfl (run_loadVar_row _ _ _ _ _ _ _ HRR.out Tryz.underlying54 rfl (hash_info HRL.out))) rfl ⟨by rw [HNR.1], hSF, hGF⟩
theorem builtD : Tryz.prog.built 56 [] = some (tcs (zer 32) 0) := by kernel_rfl
/-- a draw and an error. -/
def DrE (h : List Int) (c e : Int) : Value := .tuple #[.agg (tcs h c), .int .i64 e]
set_option maxHeartbeats 3200000 in
theorem dresult_any (h : List Int) (hl : Hid (h.length = 32)) (c : Int) (f : Bool) (b : Nat) (w : World) (hS : Hid (SBlk w b h c f)) :
    Calls Tryz.prog 93 #[.pointer (some ⟨b, 0, none⟩)] w fun e w' => e = .returned (if f = true then DrE (zer 32) 0 5 else DrE h c 0) ∧ Below w.heap.size w w' := by
  obtain ⟨W, hW⟩ : ∃ W, w.alloc (.cells #[.int .u8 0, .int .u8 0, .int .u8 0, .int .u8 0, .int .u8 0, .int .u8 0, .int .u8 0, .int .u8 0, .int .u8 0, .int .u8 0, .int .u8 0, .int .u8 0, .int .u8 0, .int .u8 0, .int .u8 0, .int .u8 0, .int .u8 0, .int .u8 0, .int .u8 0, .int .u8 0, .int .u8 0, .int .u8 0, .int .u8 0, .int .u8 0, .int .u8 0, .int .u8 0, .int .u8 0, .int .u8 0, .int .u8 0, .int .u8 0, .int .u8 0, .int .u8 0, .int .i64 0] 56) = W := ⟨_, rfl⟩
  have HBX : Hid (Below w.heap.size w W) := Lib.hid (by rw [← hW]; exact below_box0 _ _)
  have HR0 : Hid (DBlk W w.heap.size (zer 32) 0) := Lib.hid (by rw [← hW, ztr]; exact heap_alloc_new _ _)
  have HS := Lib.hid (hS.out.below HBX.out)
  have HW := Lib.hid hW
  clear hW
  obtain ⟨f1, f2⟩ := HS.out.full hl.out
  cases f with
  | true =>
    rw [if_pos rfl]
    go_enter Tryz.func93, Tryz.ntmps93
    go_upto_region 1 with (fail)
    rw [HW.out]
    clear HW
    go_wp2_with (first
      | ((with_reducible show wpList _ _ _ (⟨some 8, _, _, _, _, _⟩ :: _) _ _); refine wpList_built rfl 56 _ rfl _ builtD ?_)
      | ((with_reducible show wpList _ _ _ (⟨none, _, _, _, _, _⟩ :: _) _ _); refine wpList_store_row rfl 56 _ _ rfl w.heap.size (tcs (zer 32) 0) rfl rfl _ _ HR0.out (dr_info rfl) rfl (tcs_one _ _) ?_))
    have HRR : Hid (DBlk (W.setRow w.heap.size (tcs (zer 32) 0)) w.heap.size (zer 32) 0) := Lib.hid HR0.out.setRow
    exact bodyPost_ret (v := DrE (zer 32) 0 5) (results_cell_tmp2 (p := 2) (q := 3) (ty := 56) rfl _ _ ⟨w.heap.size, 0, none⟩ _ _ rfl rfl (run_loadVar_row _ _ _ _ _ _ _ HRR.out Tryz.underlying56 rfl (dr_info rfl))) rfl ⟨rfl, below_setRow' HBX.out (Nat.le_refl _)⟩
  | false =>
    rw [if_neg (by decide)]
    go_enter Tryz.func93, Tryz.ntmps93
    go_upto_region 1 with (fail)
    rw [HW.out]
    clear HW
    go_wp2_with (first
      | ((with_reducible show wpList _ _ _ (⟨some 12, _, _, _, _, _⟩ :: _) _ _); refine wpList_load_mid rfl 56 _ rfl b 0 rfl (tcs h c).toList _ (HS.out.range hl.out) Tryz.underlying56 rfl (drl_info hl.out) ?_)
      | ((with_reducible show wpList _ _ _ (⟨none, _, _, _, _, _⟩ :: _) _ _); refine wpList_store_row rfl 56 _ _ rfl w.heap.size (tcs h c) rfl rfl _ _ HR0.out (dr_info hl.out) (tcs_sz rfl hl.out) (tcs_one _ _) ?_))
    have HRR : Hid (DBlk (W.setRow w.heap.size (tcs h c)) w.heap.size h c) := Lib.hid HR0.out.setRow
    exact bodyPost_ret (v := DrE h c 0) (results_cell_tmp2 (p := 2) (q := 3) (ty := 56) rfl _ _ ⟨w.heap.size, 0, none⟩ _ _ rfl rfl (run_loadVar_row _ _ _ _ _ _ _ HRR.out Tryz.underlying56 rfl (dr_info hl.out))) rfl ⟨rfl, below_setRow' HBX.out (Nat.le_refl _)⟩
end Go.Proofs.YtdlhodbiaoafiaaGreatDoor
namespace Go.Proofs.YtdlhodbiaoafiaaGreatDoor
open Go.RowKit SpM
set_option linter.unusedVariables false
set_option linter.unusedSimpArgs false
set_option maxRecDepth 100000
/-- the mask of a bound. -/
def maskD (q : Int) : Int := IntKind.u64.wrap (IntKind.u64.wrap (2 ^ min (Lib.bitLen (q - 1).toNat) 64) - 1)
/-- the number that a source yields: the number, the counter, and whether the source is used up. -/
def numD (h : List Int) (q m : Int) : Nat → Int → Int → Int × Int × Bool
  | 0, c, x => (x.tmod q, c, false)
  | k + 1, c, x => if c = 1099511627776 then (0, c, true) else if bits BinOp.and IntKind.u64 (fst8 (blkL h c)) m < q then (bits BinOp.and IntKind.u64 (fst8 (blkL h c)) m, c + 1, false) else numD h q m k (c + 1) (bits BinOp.and IntKind.u64 (fst8 (blkL h c)) m)
theorem numD_lo {h : List Int} {q m : Int} (hq : 1 ≤ q) : ∀ (k : Nat) (c x : Int), 0 ≤ x → 0 ≤ (numD h q m k c x).1 ∧ (numD h q m k c x).1 < q
  | 0, c, x, hx => by
    simp only [numD]
    rw [Int.tmod_eq_emod_of_nonneg hx]
    exact ⟨Int.emod_nonneg _ (by omega), Int.emod_lt_of_pos _ (by omega)⟩
  | k + 1, c, x, hx => by
    have hb := bits_lo_u64 BinOp.and (fst8 (blkL h c)) m
    simp only [numD]
    by_cases hc : c = 1099511627776
    · rw [if_pos hc]; exact ⟨Int.le_refl _, by show (0 : Int) < q; omega⟩
    · rw [if_neg hc]
      by_cases hy : bits BinOp.and IntKind.u64 (fst8 (blkL h c)) m < q
      · rw [if_pos hy]; exact ⟨hb, hy⟩
      · rw [if_neg hy]; exact numD_lo hq k _ _ hb
theorem numD_cnt {h : List Int} {q m : Int} : ∀ (k : Nat) (c x : Int), c ≤ 1099511627776 → c ≤ (numD h q m k c x).2.1 ∧ (numD h q m k c x).2.1 ≤ 1099511627776
  | 0, c, x, hc => ⟨Int.le_refl _, hc⟩
  | k + 1, c, x, hc => by
    simp only [numD]
    by_cases he : c = 1099511627776
    · rw [if_pos he]; exact ⟨Int.le_refl _, hc⟩
    · rw [if_neg he]
      by_cases hy : bits BinOp.and IntKind.u64 (fst8 (blkL h c)) m < q
      · rw [if_pos hy]; exact ⟨by show c ≤ c + 1; omega, by show c + 1 ≤ 1099511627776; omega⟩
      · rw [if_neg hy]
        have h2 := numD_cnt (h := h) (q := q) (m := m) k (c + 1) (bits BinOp.and IntKind.u64 (fst8 (blkL h c)) m) (by omega)
        exact ⟨by omega, h2.2⟩
set_option maxHeartbeats 6400000 in
theorem dnumber_any (h : List Int) (hl : Hid (h.length = 32)) (hb : Hid (bytesB h = true)) (q : Int) (hq1 : 1 ≤ q) (hq2 : q < 2305843009213693952) (c : Int) (hc0 : 0 ≤ c) (hc1 : c ≤ 1099511627776) (b : Nat) (w0 : World) (hv : Hid (VarsD w0)) (w : World) (hB0 : Hid (Below w0.heap.size w0 w)) (hB : w0.heap.size ≤ b) (f0 : Bool) (hf0 : f0 = true → c = 1099511627776) (hS : Hid (SBlk w b h c f0)) (n c2 : Int) (f : Bool) (hN : Kp (numD h q (maskD q) 256 c 0 = (n, c2, f))) :
    Calls Tryz.prog 92 #[.pointer (some ⟨b, 0, none⟩), .int .i64 q] w fun e w' => e = .returned (.int .i64 n) ∧ SBlk w' b h c2 f ∧ w.grownBy w' (some b) := by
  have q0 : IntKind.i64.wrap (q - 1) = q - 1 := IntWalk.i64_in _ (by omega)
  have q2 : IntKind.u64.wrap (q - 1) = q - 1 := by simp [IntKind.wrap, IntKind.bits, IntKind.signed]; omega
  have q3 : IntKind.u64.wrap q = q := by simp [IntKind.wrap, IntKind.bits, IntKind.signed]; omega
  go_enter Tryz.func92, Tryz.ntmps92
  go_wp2_with fail
  refine (Tryz.bits_Len64 (q - 1) _ (by omega) (by omega)).mono ?_
  rintro e w1 ⟨rfl, rfl⟩
  obtain ⟨ln, hln⟩ : ∃ n, Lib.bitLen (q - 1).toNat = n := ⟨_, rfl⟩
  obtain ⟨m1, hm1⟩ : ∃ m, IntKind.u64.wrap (2 ^ min ln 64) = m := ⟨_, rfl⟩
  obtain ⟨m, hm⟩ : ∃ m, IntKind.u64.wrap (m1 - 1) = m := ⟨_, rfl⟩
  have HN : Kp (numD h q m 256 c 0 = (n, c2, f)) := ⟨by rw [← hN.1, maskD, hln, hm1, hm]⟩
  rw [hln]
  go_wp2
  clear hln hm hm1 hN
  go_loopw [6, 14] (fun x i u => ∃ (k : Nat) (y cc : Int) (ff : Bool), k ≤ 256 ∧ i = .int .i64 k ∧ x = .int .u64 y ∧ Hid (0 ≤ y) ∧ Hid (0 ≤ cc ∧ cc ≤ 1099511627776) ∧ Kp (numD h q m (256 - k) cc y = (n, c2, f)) ∧ Hid (SBlk u b h cc ff) ∧ Hid ((ff = true → cc = 1099511627776) ∧ (0 < k → ff = false)) ∧ Hid (w1.grownBy u (some b))) (fun _ i _ => 256 - (intOf i).toNat)
  case atStart => exact ⟨0, 0, c, f0, by omega, rfl, rfl, Lib.hid (Int.le_refl _), Lib.hid ⟨hc0, hc1⟩, HN, hS, Lib.hid ⟨hf0, fun h0 => absurd h0 (Nat.lt_irrefl _)⟩, Lib.hid (gb_below (Below.refl _ _) _)⟩
  case round =>
    obtain ⟨k, y, cc, ff, hk, rfl, rfl, HY, HC, HNK, HSr, HFF, HGr⟩ := hrel
    obtain ⟨hcc0, hcc1⟩ := HC.out
    by_cases hlt : k < 256
    · have e256 : 256 - k = (256 - (k + 1)) + 1 := by omega
      by_cases hcf : cc = 1099511627776
      · subst hcf
        have HE : Kp ((0, 1099511627776, true) = (n, c2, f)) := ⟨by rw [← HNK.1, e256, numD, if_pos rfl]⟩
        go_wp2_with fail
        refine (dblock_full h hl b ff _ HSr).mono ?_
        rintro e w2 ⟨rfl, hS2, hG2⟩
        have HS2 := Lib.hid hS2
        have HG2 := Lib.hid (gb_trans HGr.out hG2)
        clear hS2 hG2
        go_upto_region 6 with ((with_reducible show wpList _ _ _ (⟨none, _, _, _, _, _⟩ :: _) _ _); refine wpList_store_row rfl 54 _ _ rfl w2.heap.size (arr .u8 (zer 32)) rfl rfl _ _ (heap_alloc_new _ _) (hash_info rfl) (arrs_sz (l := zer 32) rfl rfl) (arr_one _) ?_)
        rw [World.setRow_alloc_new]
        try simp only [Act.put]
        have HS3 := Lib.hid (HS2.out.below (below_box0 w2 (.cells (arr .u8 (zer 32)) 54)))
        have HG3 := Lib.hid (gb_alloc_new HG2.out (.cells (arr .u8 (zer 32)) 54))
        obtain ⟨W3, hW3⟩ : ∃ u, w2.alloc (.cells (arr .u8 (zer 32)) 54) = u := ⟨_, rfl⟩
        rw [hW3] at HS3 HG3 ⊢
        clear hW3
        obtain ⟨f1, f2⟩ := HS3.out.full hl.out
        have he1 : n = 0 := by have h2 := HE.1; simp only [Prod.mk.injEq] at h2; exact h2.1.symm
        have he2 : c2 = 1099511627776 := by have h2 := HE.1; simp only [Prod.mk.injEq] at h2; exact h2.2.1.symm
        have he3 : f = true := by have h2 := HE.1; simp only [Prod.mk.injEq] at h2; exact h2.2.2.symm
        go_wp2
        go_ret
        exact ⟨by rw [he1]; rfl, by rw [he2, he3]; exact HS3.out, HG3.out⟩
      · have hcl : cc < 1099511627776 := by omega
        have hff : ff = false := by
          cases hq : ff with
          | false => rfl
          | true => exact absurd (HFF.out.1 hq) hcf
        subst hff
        have HVr := Lib.hid (hv.out.below (hB0.out.trans (gb_toBelow HGr.out hB hB0.out.size)))
        go_wp2_with fail
        refine (dblock_ok h hl hb cc hcc0 hcl b _ HVr HSr).mono ?_
        rintro e w2 ⟨rfl, hS2, hG2⟩
        obtain ⟨R, hR⟩ : ∃ R, blkL h cc = R := ⟨_, rfl⟩
        have HRL : Hid (R.length = 32) := Lib.hid (by rw [← hR]; exact blkL_len _ _)
        have HRB : Hid (bytesB R = true) := Lib.hid (by rw [← hR]; exact blkL_bytes _ _)
        have HNK2 : Kp ((if bits BinOp.and IntKind.u64 (fst8 R) m < q then (bits BinOp.and IntKind.u64 (fst8 R) m, cc + 1, false) else numD h q m (256 - (k + 1)) (cc + 1) (bits BinOp.and IntKind.u64 (fst8 R) m)) = (n, c2, f)) := ⟨by rw [← HNK.1, e256, numD, if_neg hcf, hR]⟩
        rw [hR]
        have HS2 := Lib.hid hS2
        have HG2 := Lib.hid (gb_trans HGr.out hG2)
        clear hS2 hG2 hR HNK e256
        go_upto_region 6 with ((with_reducible show wpList _ _ _ (⟨none, _, _, _, _, _⟩ :: _) _ _); refine wpList_store_row rfl 54 _ _ rfl w2.heap.size (arr .u8 R) rfl rfl _ _ (heap_alloc_new _ _) (hash_info HRL.out) (arrs_sz (l := zer 32) rfl HRL.out) (arr_one _) ?_)
        rw [World.setRow_alloc_new]
        try simp only [Act.put]
        have HK3 : Hid (Blk .u8 54 (w2.alloc (.cells (arr .u8 R) 54)) w2.heap.size R) := Lib.hid (Blk.new _ _)
        have HS3 := Lib.hid (HS2.out.below (below_box0 w2 (.cells (arr .u8 R) 54)))
        have HG3 := Lib.hid (gb_alloc_new HG2.out (.cells (arr .u8 R) 54))
        obtain ⟨W3, hW3⟩ : ∃ u, w2.alloc (.cells (arr .u8 R) 54) = u := ⟨_, rfl⟩
        rw [hW3] at HS3 HG3 HK3 ⊢
        clear hW3
        obtain ⟨f1, f2⟩ := HS3.out.full hl.out
        go_wp2_with ((with_reducible show wpList _ _ _ (⟨some 22, _, _, _, _, _⟩ :: _) _ _); refine wpList_load_row rfl 54 _ rfl w2.heap.size rfl _ _ _ _ HK3.out Tryz.underlying54 rfl (hash_info HRL.out) ?_)
        clear f1 f2
        refine (dfirst_any R HRL HRB _).mono ?_
        rintro e w4 ⟨rfl, hb4⟩
        have HS4 := Lib.hid (HS3.out.below hb4)
        have HG4 := Lib.hid (gb_trans HG3.out (gb_below hb4 _))
        have hz0 := bits_lo_u64 BinOp.and (fst8 R) m
        obtain ⟨z, hz⟩ : ∃ z, bits BinOp.and IntKind.u64 (fst8 R) m = z := ⟨_, rfl⟩
        rw [hz] at hz0 HNK2
        obtain ⟨fr, hfr⟩ : ∃ z, fst8 R = z := ⟨_, rfl⟩
        rw [hfr] at hz ⊢
        clear hb4 hfr
        by_cases hzq : z < q
        · have HE : Kp ((z, cc + 1, false) = (n, c2, f)) := ⟨by rw [← HNK2.1, if_pos hzq]⟩
          have d1 : decide (z < q) = true := by simp [hzq]
          have z1 : IntKind.i64.wrap z = z := IntWalk.i64_in _ (by omega)
          have he1 : n = z := by have h2 := HE.1; simp only [Prod.mk.injEq] at h2; exact h2.1.symm
          have he2 : c2 = cc + 1 := by have h2 := HE.1; simp only [Prod.mk.injEq] at h2; exact h2.2.1.symm
          have he3 : f = false := by have h2 := HE.1; simp only [Prod.mk.injEq] at h2; exact h2.2.2.symm
          have HE1 := Lib.hid he1
          have HE2 := Lib.hid he2
          have HE3 := Lib.hid he3
          clear HNK2 he1 he2 he3
          go_wp2
          go_ret
          exact ⟨by rw [HE1.out]; rfl, by rw [HE2.out, HE3.out]; exact HS4.out, HG4.out⟩
        · have HE : Kp (numD h q m (256 - (k + 1)) (cc + 1) z = (n, c2, f)) := ⟨by rw [← HNK2.1, if_neg hzq]⟩
          have d1 : decide (z < q) = false := by simp; omega
          have HZ0 := Lib.hid hz0
          have HC2 : Hid (0 ≤ cc + 1 ∧ cc + 1 ≤ 1099511627776) := Lib.hid (by omega)
          clear HNK2
          go_wp2
          go_roundw
          case rel => exact ⟨k + 1, z, cc + 1, false, by omega, by go_num, rfl, HZ0, HC2, HE, HS4, Lib.hid ⟨(fun h0 => absurd h0 (by decide)), (fun _ => rfl)⟩, HG4⟩
          case measure => simp [intOf]; omega
    · obtain rfl : k = 256 := by omega
      obtain rfl : ff = false := HFF.out.2 (by omega)
      have hy := HY.out
      have HE : Kp ((y.tmod q, cc, false) = (n, c2, f)) := ⟨by rw [← HNK.1]; rfl⟩
      obtain ⟨z, hz⟩ : ∃ z, y.tmod q = z := ⟨_, rfl⟩
      have hz0 : 0 ≤ z ∧ z < q := by
        rw [← hz, Int.tmod_eq_emod_of_nonneg hy]
        exact ⟨Int.emod_nonneg _ (by omega), Int.emod_lt_of_pos _ (by omega)⟩
      have z1 : IntKind.i64.wrap z = z := IntWalk.i64_in _ (by omega)
      have qz : ((q : Int) == 0) = false := by simp; omega
      have qz2 : ¬ (q = 0) := by omega
      have he1 : n = z := by have h2 := HE.1; simp only [Prod.mk.injEq] at h2; rw [← hz]; exact h2.1.symm
      have he2 : c2 = cc := by have h2 := HE.1; simp only [Prod.mk.injEq] at h2; exact h2.2.1.symm
      have he3 : f = false := by have h2 := HE.1; simp only [Prod.mk.injEq] at h2; exact h2.2.2.symm
      have HE1 := Lib.hid he1
      have HE2 := Lib.hid he2
      have HE3 := Lib.hid he3
      clear HE he1 he2 he3 hlt HNK
      go_wp2
      go_ret
      exact ⟨by rw [HE1.out]; rfl, by rw [HE2.out, HE3.out]; exact HSr.out, HGr.out⟩
end Go.Proofs.YtdlhodbiaoafiaaGreatDoor
