/- Contracts and lemmas: EncC, EncD, EncE, EncF, EncG, TrA, RdgB, RdgC, RdgD, RdgE, DigG, TrB. -/
import Derived.Deep.AppendLies
import Derived.Laws.AppendOwnNone
import Derived.Test.YtchcllcbknfikaaGreatDoorTv3
set_option linter.unusedVariables false
set_option linter.unusedSimpArgs false
set_option maxRecDepth 100000
set_option maxHeartbeats 25600000
namespace Go.Proofs.YtchcllcbknfikaaGreatDoor
open Go.RowKit rQ
theorem zY (n : Int) (hn1 : -9223372036854775808 ≤ n) (hn2 : n < 9223372036854775808) (B : Option Addr) (cb : Nat) (L : Option Addr) (cl : Nat) (w : World) (base : Nat) (v : Value) (xs : List Int) (ho : Hid (aQ .u8 5 w base v xs)) (hbase : base ≤ w.heap.size) (hlen : xs.length + 9 ≤ 16384) :
  Calls Tryz.prog 209 #[v, .agg #[.int .i64 1, .int .i64 n, .slice B 0 cb, .slice L 0 cl]] w (rA base v xs (enc (.int n)) w) := by
 obtain ⟨i0, hi, hz0, hz1, hz2⟩ := info_parts dO
 obtain ⟨A, cp, rfl, -, -, -⟩ := ho.out.sk
 obtain ⟨N, hN⟩ : ∃ n, xs.length = n := ⟨_, rfl⟩
 rw [hN] at hlen ho ⊢
 have HN := aa hN
 have hlt : (Value.slice A N cp).ownBlock ≠ some w.heap.size := fun e => by have := (ho.out.lt _ e).2; omega
 obtain ⟨W, hW⟩ : ∃ W, w.alloc (.cells #[.int .i64 1, .int .i64 n, .slice B 0 cb, .slice L 0 cl] 117) = W := ⟨_, rfl⟩
 have hF : Four W w.heap.size 0 ⟨1, n, B, 0, cb, L, 0, cl⟩ := by rw [← hW]; exact gJ w ⟨1, n, B, 0, cb, L, 0, cl⟩
 have xY : Hid (App base w (.slice A N cp) xs [] W (.slice A N cp)) := aa (by rw [← hW]; exact App.alloc ho.out _)
 have hbW : base ≤ W.heap.size := by rw [← hW]; simp; omega
 have EI : Hid (W.heap.size = w.heap.size + 1) := aa (by rw [← hW]; simp)
 obtain ⟨c0, c1, c2, c3⟩ := hF.get
 have HC := aa hF
 have hown := xY.out.1.row (n := N) (by rw [List.append_nil, HN.out])
 rw [List.append_nil] at hown
 have HW := aa hW
 clear hN hF hW
 go_in
 go_upto_region 3 with (fail)
 rw [HW.out]
 go_upto_region 4 with (at_builtin; refine wpList_append_lies rfl _ _ 114 rfl base 5 i0 (.int .u8 0) 1 1 Tryz.underlying114 hi hz0 hz1 hz2 rfl (by decide) _ _ _ rfl (hown.alloc _) ⟨W.heap.size, 0, none⟩ 1 1 [.int .u8 1] rfl rfl (cell_one_new _ _ _) (ints_oneCell .u8 [1]) (by decide) (by unfold maxLen; omega) (by omega) (by simp; omega) _ rfl ?_; intro g cap w2 hown2 hgrow2 vN hlt2)
 have HA1 := App.of_lies (v := .slice A N cp) (xs := xs) (ys := [1]) HN.out rfl rfl hown2 hgrow2 vN
 have HA2 : Hid (App base w (.slice A N cp) xs [1] w2 (.slice (some ⟨g, 0, none⟩) (N + 1) cap)) := aa (xY.out.pre (((App.alloc (by have h := xY.out.1; rwa [List.append_nil] at h) _)).pre HA1))
 have hb2 : base ≤ w2.heap.size := Nat.le_trans hbase HA2.out.2.1.size
 have e0 := HA1.cell (cell_below c0 (af _ _)) hlt
 have e1 := HA1.cell (cell_below c1 (af _ _)) hlt
 have e2 := HA1.cell (cell_below c2 (af _ _)) hlt
 have e3 := HA1.cell (cell_below c3 (af _ _)) hlt
 rw [Nat.zero_add] at e1 e2 e3
 have hne2 : (Value.slice (some ⟨g, 0, none⟩) (N + 1) cap).ownBlock ≠ some w.heap.size := fun e => by
  rcases HA1.2.2 with e5 | e5
  · exact hlt (e5 ▸ e)
  · have h5 := e5 _ e; simp at h5; have := EI.out; omega
 clear c0 c1 c2 c3 hown hown2 hgrow2 vN HA1 HC HW
 go_wp2_with fail
 refine (qV base _ (xs ++ [1]) (N + 1) _ 8 (Or.inr rfl) (aa (by rw [List.length_append, HN.out]; rfl)) (by omega) _ (aa HA2.out.1) hb2).mono ?_
 rintro e w3 ⟨v3, rfl, Jz⟩
 have HF : Hid (App base w (.slice A N cp) xs (enc (.int n)) w3 v3) := aa (HA2.out.trans Jz)
 clear Jz HA2
 go_wp2
 go_ret
 exact ⟨_, rfl, HF.out⟩
theorem zZ (l : List Int) (n : Nat) (hn : Hid (l.length = n)) (hn0 : 0 < n) (b o : Nat) (cb : Nat) (L : Option Addr) (cl : Nat) (w0 w : World) (base : Nat) (v : Value) (xs : List Int) (hs : Hid (Sk .u8 w0 (some ⟨b, o, none⟩) l)) (hw0 : Hid (Below w0.heap.size w0 w)) (Pn : w0.heap.size ≤ base) (ho : Hid (aQ .u8 5 w base v xs)) (hbase : base ≤ w.heap.size) (hlen : xs.length + (n + 5) ≤ 16384) :
  Calls Tryz.prog 209 #[v, .agg #[.int .i64 2, .int .i64 0, .slice (some ⟨b, o, none⟩) n cb, .slice L 0 cl]] w (rA base v xs (enc (.byt l)) w) := by
 obtain ⟨i0, hi, hz0, hz1, hz2⟩ := info_parts dO
 obtain ⟨A, cp, rfl, -, -, -⟩ := ho.out.sk
 obtain ⟨N, hN⟩ : ∃ n, xs.length = n := ⟨_, rfl⟩
 rw [hN] at hlen ho ⊢
 have HN := aa hN
 have hlt : (Value.slice A N cp).ownBlock ≠ some w.heap.size := fun e => by have := (ho.out.lt _ e).2; omega
 obtain ⟨W, hW⟩ : ∃ W, w.alloc (.cells #[.int .i64 2, .int .i64 0, .slice (some ⟨b, o, none⟩) n cb, .slice L 0 cl] 117) = W := ⟨_, rfl⟩
 have hF : Four W w.heap.size 0 ⟨2, 0, some ⟨b, o, none⟩, n, cb, L, 0, cl⟩ := by rw [← hW]; exact gJ w ⟨2, 0, some ⟨b, o, none⟩, n, cb, L, 0, cl⟩
 have xY : Hid (App base w (.slice A N cp) xs [] W (.slice A N cp)) := aa (by rw [← hW]; exact App.alloc ho.out _)
 have hbW : base ≤ W.heap.size := by rw [← hW]; simp; omega
 have EI : Hid (W.heap.size = w.heap.size + 1) := aa (by rw [← hW]; simp)
 obtain ⟨c0, c1, c2, c3⟩ := hF.get
 have HC := aa hF
 have hown := xY.out.1.row (n := N) (by rw [List.append_nil, HN.out])
 rw [List.append_nil] at hown
 have HW := aa hW
 clear hN hF hW
 go_in
 go_upto_region 3 with (fail)
 rw [HW.out]
 go_upto_region 4 with (at_builtin; refine wpList_append_lies rfl _ _ 114 rfl base 5 i0 (.int .u8 0) 1 1 Tryz.underlying114 hi hz0 hz1 hz2 rfl (by decide) _ _ _ rfl (hown.alloc _) ⟨W.heap.size, 0, none⟩ 1 1 [.int .u8 2] rfl rfl (cell_one_new _ _ _) (ints_oneCell .u8 [2]) (by decide) (by unfold maxLen; omega) (by omega) (by simp; omega) _ rfl ?_; intro g cap w2 hown2 hgrow2 vN hlt2)
 have HA1 := App.of_lies (v := .slice A N cp) (xs := xs) (ys := [2]) HN.out rfl rfl hown2 hgrow2 vN
 have HA2 : Hid (App base w (.slice A N cp) xs [2] w2 (.slice (some ⟨g, 0, none⟩) (N + 1) cap)) := aa (xY.out.pre (((App.alloc (by have h := xY.out.1; rwa [List.append_nil] at h) _)).pre HA1))
 have hb2 : base ≤ w2.heap.size := Nat.le_trans hbase HA2.out.2.1.size
 have e0 := HA1.cell (cell_below c0 (af _ _)) hlt
 have e1 := HA1.cell (cell_below c1 (af _ _)) hlt
 have e2 := HA1.cell (cell_below c2 (af _ _)) hlt
 have e3 := HA1.cell (cell_below c3 (af _ _)) hlt
 rw [Nat.zero_add] at e1 e2 e3
 have hne2 : (Value.slice (some ⟨g, 0, none⟩) (N + 1) cap).ownBlock ≠ some w.heap.size := fun e => by
  rcases HA1.2.2 with e5 | e5
  · exact hlt (e5 ▸ e)
  · have h5 := e5 _ e; simp at h5; have := EI.out; omega
 clear c0 c1 c2 c3 hown hown2 hgrow2 vN HA1 HC HW
 have u1 : IntKind.u64.wrap (n : Int) = (n : Int) := by simp [IntKind.wrap, IntKind.bits, IntKind.signed]; omega
 go_wp2_with fail
 have HE2 := aa e2
 clear e0 e1 e2 e3
 refine bD (S := fun w' => w'.cell? ⟨w.heap.size, 2, none⟩ = some (.slice (some ⟨b, o, none⟩) n cb)) (E := [8, 9]) (by kernel_rfl) (cell_below HE2.out (Below.refl _ _).drew) (fun hHeld => ?_)
 refine bN 0 ?_
 refine bN 1 ?_
 refine bN 2 ?_
 refine bN 3 ?_
 refine bN 4 ?_
 refine bN 6 ?_
 refine bN 7 ?_
 refine bW 5 fun K hK => ?_
 go_simp
 refine (qV base _ (xs ++ [2]) (N + 1) n 4 (Or.inl rfl) (aa (by rw [List.length_append, HN.out]; rfl)) (by omega) _ (aa (HA2.out.1.keep (Below.refl _ _).drew)) hb2).mono ?_
 rintro e w3 ⟨v3, rfl, Jz⟩
 have IG : Hid (App base w (.slice A N cp) xs (2 :: p9 4 n) w3 v3) := aa (HA2.out.trans ((App.calm HA2.out.1 (Below.refl _ _).drew).pre Jz))
 have hsb := hs.out.below (IG.out.below ho.out hw0.out Pn hw0.out.size)
 have hb3 : base ≤ w3.heap.size := Nat.le_trans hbase IG.out.2.1.size
 have hl3 : (xs ++ 2 :: p9 4 (n : Int)).length = N + 1 + 4 := by rw [List.length_append, HN.out, List.length_cons, iN (Or.inl rfl)]
 have hrow3 := IG.out.1.row hl3
 refine hK.out _ _ ?_ (fun hHeld => ?_)
 · exact Jz.cell (cell_below HE2.out (Below.refl _ _).drew) hne2
 clear hK K
 try simp only [qq]
 refine mR 8 fun K hK => ?_
 refine step_append_lies _ (by rfl) _ _ _ (by rfl) base 5 i0 _ 1 1 Tryz.underlying114 hi hz0 hz1 hz2 rfl (by omega) v3 (N + 1 + 4) ((xs ++ 2 :: p9 4 (n : Int)).map (.int .u8)) (by rfl) hrow3 ⟨b, o, none⟩ n cb (l.map (.int .u8)) (by rfl) (by simp [hn.out]) hsb.news (ints_oneCell .u8 _) hn0 (by unfold maxLen; omega) (by omega) hb3 w3.heap.size rfl ?_
 intro g4 cap4 w4 sD pM V9 Zy
 have YX := App.of_lies (v := v3) (xs := xs ++ 2 :: p9 4 (n : Int)) (ys := l) hl3 hn.out rfl sD pM V9
 refine hK.out _ _ ?_
 clear hK K
 try simp only [qq]
 refine mR 9 fun K hK => ?_
 go_simp
 refine hK.out _ _ ?_
 clear hK K
 try simp only [qq]
 refine gz ?_
 have HF : Hid (App base w (.slice A N cp) xs (enc (.byt l)) w4 (.slice (some ⟨g4, 0, none⟩) (N + 1 + 4 + n) cap4)) := aa (by
  rw [h_, hn.out]
  exact IG.out.trans YX)
 clear YX IG HA2 HE2
 go_wp2
 go_ret
 exact ⟨_, rfl, HF.out⟩
theorem IK (l : List It) (n : Nat) (hn : Hid (l.length = n)) (hn1 : n ≤ 1000) (f : Nat → Ic) (B : Option Addr) (cb : Nat) (L : Option Addr) (cl : Nat) (w0 w : World) (base : Nat) (v : Value) (xs : List Int)
  (h5 : Hid (∀ k, k < l.length → ∃ b o, L = some ⟨b, o, none⟩ ∧ Four w0 b (o + k * 4) (f k))) (h6 : Hid (∀ k, k < l.length → nO w0 (l.getD k default) (f k))) (hw0 : Hid (Below w0.heap.size w0 w)) (Pn : w0.heap.size ≤ base) (ho : Hid (aQ .u8 5 w base v xs)) (hbase : base ≤ w.heap.size)
  (hsm : Hid (xs.length + (enc (.lst l)).length ≤ 16384))
  (ih : ∀ (k : Nat), k < l.length → ∀ (w : World) (v : Value) (ys : List Int), Below w0.heap.size w0 w → aQ .u8 5 w base v ys → base ≤ w.heap.size → ys.length + (enc (l.getD k default)).length ≤ 16384 → Calls Tryz.prog 209 #[v, (f k).val] w (rA base v ys (enc (l.getD k default)) w)) :
  Calls Tryz.prog 209 #[v, .agg #[.int .i64 3, .int .i64 0, .slice B 0 cb, .slice L n cl]] w (rA base v xs (enc (.lst l)) w) := by
 have hlen : xs.length + 5 ≤ 16384 := by have h := hsm.out; rw [eH, List.length_cons, List.length_append, dV] at h; omega
 have NF := aa ih
 clear ih
 obtain ⟨i0, hi, hz0, hz1, hz2⟩ := info_parts dO
 obtain ⟨A, cp, rfl, -, -, -⟩ := ho.out.sk
 obtain ⟨N, hN⟩ : ∃ n, xs.length = n := ⟨_, rfl⟩
 rw [hN] at hlen ho ⊢
 have HN := aa hN
 have hlt : (Value.slice A N cp).ownBlock ≠ some w.heap.size := fun e => by have := (ho.out.lt _ e).2; omega
 obtain ⟨W, hW⟩ : ∃ W, w.alloc (.cells #[.int .i64 3, .int .i64 0, .slice B 0 cb, .slice L n cl] 117) = W := ⟨_, rfl⟩
 have hF : Four W w.heap.size 0 ⟨3, 0, B, 0, cb, L, n, cl⟩ := by rw [← hW]; exact gJ w ⟨3, 0, B, 0, cb, L, n, cl⟩
 have xY : Hid (App base w (.slice A N cp) xs [] W (.slice A N cp)) := aa (by rw [← hW]; exact App.alloc ho.out _)
 have hbW : base ≤ W.heap.size := by rw [← hW]; simp; omega
 have EI : Hid (W.heap.size = w.heap.size + 1) := aa (by rw [← hW]; simp)
 obtain ⟨c0, c1, c2, c3⟩ := hF.get
 have HC := aa hF
 have hown := xY.out.1.row (n := N) (by rw [List.append_nil, HN.out])
 rw [List.append_nil] at hown
 have HW := aa hW
 clear hN hF hW
 go_in
 go_upto_region 3 with (fail)
 rw [HW.out]
 go_upto_region 4 with (at_builtin; refine wpList_append_lies rfl _ _ 114 rfl base 5 i0 (.int .u8 0) 1 1 Tryz.underlying114 hi hz0 hz1 hz2 rfl (by decide) _ _ _ rfl (hown.alloc _) ⟨W.heap.size, 0, none⟩ 1 1 [.int .u8 3] rfl rfl (cell_one_new _ _ _) (ints_oneCell .u8 [3]) (by decide) (by unfold maxLen; omega) (by omega) (by simp; omega) _ rfl ?_; intro g cap w2 hown2 hgrow2 vN hlt2)
 have HA1 := App.of_lies (v := .slice A N cp) (xs := xs) (ys := [3]) HN.out rfl rfl hown2 hgrow2 vN
 have HA2 : Hid (App base w (.slice A N cp) xs [3] w2 (.slice (some ⟨g, 0, none⟩) (N + 1) cap)) := aa (xY.out.pre (((App.alloc (by have h := xY.out.1; rwa [List.append_nil] at h) _)).pre HA1))
 have hb2 : base ≤ w2.heap.size := Nat.le_trans hbase HA2.out.2.1.size
 have e0 := HA1.cell (cell_below c0 (af _ _)) hlt
 have e1 := HA1.cell (cell_below c1 (af _ _)) hlt
 have e2 := HA1.cell (cell_below c2 (af _ _)) hlt
 have e3 := HA1.cell (cell_below c3 (af _ _)) hlt
 rw [Nat.zero_add] at e1 e2 e3
 have hne2 : (Value.slice (some ⟨g, 0, none⟩) (N + 1) cap).ownBlock ≠ some w.heap.size := fun e => by
  rcases HA1.2.2 with e5 | e5
  · exact hlt (e5 ▸ e)
  · have h5 := e5 _ e; simp at h5; have := EI.out; omega
 clear c0 c1 c2 c3 hown hown2 hgrow2 vN HA1 HC HW
 have u1 : IntKind.u64.wrap (n : Int) = (n : Int) := by simp [IntKind.wrap, IntKind.bits, IntKind.signed]; omega
 go_wp2_with fail
 refine (qV base _ (xs ++ [3]) (N + 1) n 4 (Or.inl rfl) (aa (by rw [List.length_append, HN.out]; rfl)) (by omega) _ (aa HA2.out.1) hb2).mono ?_
 rintro e w3 ⟨v3, rfl, Jz⟩
 have f3 := Jz.cell e3 hne2
 have IG : Hid (App base w (.slice A N cp) xs (3 :: p9 4 n) w3 v3) := aa (HA2.out.trans Jz)
 clear Jz HA2 e0 e1 e2 e3
 have YX : Hid (App base w (.slice A N cp) xs ((3 :: p9 4 n) ++ eZ (l.take 0)) w3 v3) := aa (by rw [List.take_zero]; simpa [eZ] using IG.out)
 clear IG
 go_wp2_with fail
 clear f3
 go_loopw [0, 46] (fun p i u => ∃ k : Nat, k ≤ n ∧ i = .int .i64 k ∧ Hid (App base w (.slice A N cp) xs ((3 :: p9 4 n) ++ eZ (l.take k)) u p)) (fun _ i _ => n - (intOf i).toNat)
 case atStart => exact ⟨0, by omega, rfl, YX⟩
 case round =>
  obtain ⟨k, hk, rfl, HA⟩ := hrel
  by_cases hlk : k < n
  ·
   have hkl : k < l.length := by rw [hn.out]; exact hlk
   obtain ⟨b, o, hL, h4⟩ := h5.out k hkl
   subst hL
   have hbw := HA.out.below ho.out hw0.out Pn hw0.out.size
   have hle : (xs ++ ((3 :: p9 4 (n : Int)) ++ eZ (l.take k))).length + (enc (l.getD k default)).length ≤ 16384 := by
    have h := hsm.out
    have t1 := oG hkl
    have t2 := pV (l := l) (k := k + 1)
    rw [t1, List.length_append] at t2
    rw [eH, List.length_cons, List.length_append, dV] at h
    rw [List.length_append, List.length_append, List.length_cons, iN (Or.inl rfl)]
    omega
   have hbs : base ≤ wr.heap.size := Nat.le_trans hbase HA.out.2.1.size
   have hstep := oG hkl
   obtain ⟨ic, hic⟩ : ∃ x, f k = x := ⟨_, rfl⟩
   obtain ⟨kd, nn, B', nb, cb', L', nl, cl'⟩ := ic
   obtain ⟨WX, Yp⟩ : ∃ u, wr.alloc (.cells #[.int .i64 kd, .int .i64 nn, .slice B' nb cb', .slice L' nl cl'] 117) = u := ⟨_, rfl⟩
   have YV : Hid (App base w (.slice A N cp) xs ((3 :: p9 4 n) ++ eZ (l.take k)) WX u0) := aa (by
    have h := HA.out.trans (App.alloc HA.out.1 (.cells #[.int .i64 kd, .int .i64 nn, .slice B' nb cb', .slice L' nl cl'] 117))
    rw [List.append_nil] at h
    rwa [← Yp])
   have V8 : Below w0.heap.size w0 WX := YV.out.below ho.out hw0.out Pn hw0.out.size
   have ZH : base ≤ WX.heap.size := by rw [← Yp]; simp; omega
   have tQ := NF.out k hkl WX u0 _ V8 YV.out.1 ZH hle
   rw [hic] at h4 tQ
   have HC : Hid (Calls Tryz.prog 209 #[u0, .agg #[.int .i64 kd, .int .i64 nn, .slice B' nb cb', .slice L' nl cl']] WX (rA base u0 (xs ++ ((3 :: p9 4 (n : Int)) ++ eZ (l.take k))) (enc (l.getD k default)) WX)) := aa tQ
   obtain ⟨VY, VX, VW, VV⟩ := (h4.below hbw).get
   obtain ⟨et, het⟩ : ∃ x, enc (l.getD k default) = x := ⟨_, rfl⟩
   rw [het] at HC hstep
   have HST := aa hstep
   have HWX := aa Yp
   clear hkl h4 hbw hle hstep hic Yp V8 tQ het HA
   go_wp2_with fail
   rw [HWX.out]
   refine HC.out.mono ?_
   rintro e w5 ⟨v5, rfl, ha5⟩
   have HA6 : Hid (App base w (.slice A N cp) xs ((3 :: p9 4 n) ++ eZ (l.take (k + 1))) w5 v5) := aa (by
    rw [HST.out, ← List.append_assoc]
    exact YV.out.trans ha5)
   clear ha5 HC YV VY VX VW VV HWX
   go_wp2
   go_roundw
   case rel => exact ⟨k + 1, by omega, by go_num, HA6⟩
   case measure => simp [intOf]; omega
  ·
   have HF : Hid (App base w (.slice A N cp) xs (enc (.lst l)) wr u0) := aa (by
    have h := HA.out
    rw [show k = l.length by rw [hn.out]; omega, List.take_length] at h
    rw [eH, hn.out]
    exact h)
   clear HA
   go_wp2
   go_ret
   exact ⟨_, rfl, HF.out⟩
theorem IL : ∀ (d : Nat) (i : It) (c : Ic) (w0 w : World) (base : Nat) (v : Value) (xs : List Int), fits d i → nO w0 i c → Below w0.heap.size w0 w → w0.heap.size ≤ base → aQ .u8 5 w base v xs → base ≤ w.heap.size → xs.length + (enc i).length ≤ 16384 →
  Calls Tryz.prog 209 #[v, c.val] w (rA base v xs (enc i) w) := by
 intro d
 induction d with
 | zero =>
  intro i c w0 w base v xs hf hr hw hwb ho hb hl
  obtain ⟨kd, nn, B, nb, cb, L, nl, cl⟩ := c
  cases hr with
  | int n _ h1 h2 h3 h4 =>
   dsimp only at h1 h2 h3 h4
   subst h1; subst h2; subst h3; subst h4
   exact zY nn hf.1 hf.2 B cb L cl w base v xs (aa ho) hb hl
  | byt b _ h1 h2 h3 h4 h5 =>
   dsimp only at h1 h2 h3 h4 h5
   subst h1; subst h2; subst h4; subst h3
   obtain ⟨b', o', rfl, _⟩ := h5.at0 hf.1.1
   rw [h_, List.length_cons, List.length_append, dV] at hl
   exact zZ b b.length (aa rfl) hf.1.1 b' o' cb L cl w0 w base v xs (aa h5) (aa hw) hwb (aa ho) hb (by omega)
  | lst l _ h1 h2 h3 h4 f h5 h6 => exact absurd hf (by simp [fits])
 | succ d ih =>
  intro i c w0 w base v xs hf hr hw hwb ho hb hl
  obtain ⟨kd, nn, B, nb, cb, L, nl, cl⟩ := c
  cases hr with
  | int n _ h1 h2 h3 h4 =>
   dsimp only at h1 h2 h3 h4
   subst h1; subst h2; subst h3; subst h4
   exact zY nn hf.1 hf.2 B cb L cl w base v xs (aa ho) hb hl
  | byt b _ h1 h2 h3 h4 h5 =>
   dsimp only at h1 h2 h3 h4 h5
   subst h1; subst h2; subst h4; subst h3
   obtain ⟨b', o', rfl, _⟩ := h5.at0 hf.1.1
   rw [h_, List.length_cons, List.length_append, dV] at hl
   exact zZ b b.length (aa rfl) hf.1.1 b' o' cb L cl w0 w base v xs (aa h5) (aa hw) hwb (aa ho) hb (by omega)
  | lst l _ h1 h2 h3 h4 f h5 h6 =>
   dsimp only at h1 h2 h3 h4 h5
   subst h1; subst h2; subst h3; subst h4
   refine IK l l.length (aa rfl) hf.1 f B cb L cl w0 w base v xs (aa h5) (aa h6) (aa hw) hwb (aa ho) hb (aa hl) ?_
   intro k hk w' v' ys hw' ho' hb' hl'
   exact ih _ (f k) w0 w' base v' ys (hf.2 _ (by rw [List.getD_eq_getElem?_getD, List.getElem?_eq_getElem hk]; exact List.getElem_mem hk)) (h6 k hk) hw' hwb ho' hb' hl'
def Q_ (ys : List Int) (w : World) (e : Ending) (w' : World) : Prop := ∃ v, e = .returned (.tuple #[v, .int .i64 0]) ∧ aQ .u8 5 w' w.heap.size v ys ∧ Below w.heap.size w w'
theorem tK (i : It) (c : Ic) (w : World) (hf : fits 8 i) (hr : nO w i c) (hl : (enc i).length ≤ 16384) :
  Calls Tryz.prog 177 #[c.val] w (Q_ (enc i) w) := by
 have HV := aa (Gb i c (w.alloc (sw c)) hf (hr.kept (af _ _)))
 have hF := gJ w c
 have HE : Hid (∀ u, Below (w.alloc (sw c)).heap.size (w.alloc (sw c)) u → Calls Tryz.prog 209 #[.slice none 0 0, c.val] u (rA u.heap.size (.slice none 0 0) [] (enc i) u)) := aa (fun u hu =>
  IL 8 i c w u u.heap.size (.slice none 0 0) [] hf hr (ag (af _ _) hu) (by have := hu.size; simp at this; omega) (qM _ _) (Nat.le_refl _) (by simpa using hl))
 obtain ⟨ys, hys⟩ : ∃ ys, enc i = ys := ⟨_, rfl⟩
 rw [hys] at HE hl ⊢
 obtain ⟨kd, nn, B, nb, cb, L, nl, cl⟩ := c
 obtain ⟨W, hW⟩ : ∃ W, w.alloc (sw ⟨kd, nn, B, nb, cb, L, nl, cl⟩) = W := ⟨_, rfl⟩
 rw [hW] at HV HE hF
 have bQ : Hid (Below w.heap.size w W) := aa (by rw [← hW]; exact af _ _)
 have HF := aa hF
 have HW : Hid (w.alloc (.cells #[.int .i64 kd, .int .i64 nn, .slice B nb cb, .slice L nl cl] 117) = W) := aa hW
 show Calls Tryz.prog 177 #[.agg #[.int .i64 kd, .int .i64 nn, .slice B nb cb, .slice L nl cl]] w (Q_ ys w)
 obtain ⟨c0, c1, c2, c3⟩ := hF.get
 clear hf hr hys hW hF
 go_in
 go_wp2_with fail
 rw [HW.out]
 refine HV.out.mono ?_
 rintro e w2 ⟨rfl, hb0⟩
 obtain ⟨d0, d1, d2, d3⟩ := (HF.out.below hb0).get
 have HE2 := aa (HE.out w2 hb0)
 have HB2 := aa (ag bQ.out hb0)
 clear c0 c1 c2 c3 hb0 HE HV HW
 go_wp2_with fail
 refine HE2.out.mono ?_
 rintro e w3 ⟨v3, rfl, Jz⟩
 have lU : Hid (aQ .u8 5 w3 w2.heap.size v3 ys) := aa (by have h := Jz.1; rwa [List.nil_append] at h)
 have HB3 : Hid (Below w.heap.size w w3) := aa (Jz.below (B := w.heap.size) (qM _ _) HB2.out HB2.out.size HB2.out.size)
 have hz : w.heap.size ≤ w2.heap.size := HB2.out.size
 clear Jz HE2 d0 d1 d2 d3
 obtain ⟨A, cp, rfl, -, -, -⟩ := lU.out.sk
 obtain ⟨N, hN⟩ : ∃ n, ys.length = n := ⟨_, rfl⟩
 rw [hN] at hl lU ⊢
 clear hN
 have t1 : ¬ 16384 < N := by omega
 go_wp2
 go_ret2
 exact ⟨_, rfl, lU.out.mono hz, HB3.out⟩
def aS (c : Ic) : List Value := [.int .i64 c.kind, .int .i64 c.n, .slice c.B c.nb c.cb, .slice c.L c.nl c.cl]
theorem iV : (Tryz.prog.info? 117).map (fun i => (i.zero, i.size, i.bytes)) = some (some (.agg #[.int .i64 0, .int .i64 0, .slice none 0 0, .slice none 0 0]), 4, 64) := by kernel_rfl
theorem pQ (w : World) (a j : Nat) (v : Value) : w.grownBy (w.setCell ⟨a, j, none⟩ v) (some a) :=
 ⟨rfl, rfl, rfl, by simp [World.setCell], fun k hk hne => by
  have : a ≠ k := fun e => hne (by rw [e])
  simp [World.setCell, Array.getElem?_modify, this]⟩
theorem bP {w w1 : World} {row : Option Nat} {p : Addr} {v : Value} (h : Own w p v) (hg : w.grownBy w1 row) (hne : row ≠ some p.block) : Own w1 p v := by
 have hlt := World.block_lt_of_cell? _ _ h.1
 exact ⟨by rw [hg.cell_far _ hlt (Ne.symm hne)]; exact h.1, by rw [hg.frozen_far _ hlt (Ne.symm hne)]; exact h.2⟩
theorem aK {w : World} {p q : Addr} {v u : Value} (h : Own w p v) (hne : q ≠ p) : Own (w.setCell q u) p v :=
 ⟨by rw [World.cell?_setCell_other _ _ _ _ hne]; exact h.1, by rw [World.frozen?_setCell]; exact h.2⟩
theorem dI {w : World} {p : Addr} {v u : Value} (h : Own w p v) : Own (w.setCell p u) p u :=
 ⟨World.cell?_setCell_same _ _ _ h.1, by rw [World.frozen?_setCell]; exact h.2⟩
theorem aC {P : Program} {fn : Func} {p : Tmp} {ty : TypeId} (h : fn.results = #[.cell p ty]) (tmps : Array Value) (w : World) (a : Addr) (v : Value)
  (hp : tmps.getD p undef = .pointer (some a)) (hl : (loadVar ty a).run P w = .ok v w) : (results fn tmps).run P w = .ok v w := by
 have hp' : tmps[p]?.getD undef = .pointer (some a) := by simpa using hp
 simp [results, h, hp', asAddr, hl]
def dM (w : World) (base : Nat) (v : Value) (cs : List Ic) : Prop := w.ownsRow base 117 4 v cs.length (cs.flatMap aS)
instance abx : Inhabited Ic := ⟨⟨0, 0, none, 0, 0, none, 0, 0⟩⟩
theorem MV (cs : List Ic) (k r : Nat) (hr : r < 4) (hk : k < cs.length) : (cs.flatMap aS)[k * 4 + r]? = (aS (cs.getD k default))[r]? := by
 induction cs generalizing k with
 | nil => simp at hk
 | cons c cs ih =>
  cases k with
  | zero =>
   rw [List.flatMap_cons, Nat.zero_mul, Nat.zero_add, List.getElem?_append_left (by simpa [aS] using hr)]
   rfl
  | succ k =>
   rw [List.flatMap_cons, List.getElem?_append_right (by simp [aS]; omega)]
   rw [show (k + 1) * 4 + r - (aS c).length = k * 4 + r by simp [aS]; omega]
   rw [ih k (by simpa using hk)]
   rfl
theorem dM.four {w : World} {base : Nat} {v : Value} {cs : List Ic} (h : dM w base v cs) (h0 : 0 < cs.length) : ∃ g cap, v = .slice (some ⟨g, 0, none⟩) cs.length cap ∧ base ≤ g ∧ cs.length ≤ cap ∧ ∀ k, k < cs.length → Four w g (0 + k * 4) (cs.getD k default) := by
 obtain ⟨h1, h2⟩ := h
 rcases h2 with ⟨_, h3⟩ | ⟨g, cap, cur, rfl, hg, hh, hn, hc, hs, ht⟩
 · omega
 ·
  refine ⟨g, cap, rfl, hg, hn, fun k hk => ?_⟩
  have key : ∀ r, r < 4 → w.cell? ⟨g, k * 4 + r, none⟩ = (aS (cs.getD k default))[r]? := fun r hr => by
   rw [ak hh, ← Array.getElem?_toList, ← MV cs k r hr hk, ← ht, List.getElem?_take_of_lt (by omega)]
  rw [Nat.zero_add]
  exact ⟨key 0 (by omega), key 1 (by omega), key 2 (by omega), key 3 (by omega)⟩
theorem qN (w : World) (base : Nat) : dM w base (.slice none 0 0) [] := World.ownsRow_nil _ _ _ _
theorem dM.len {w : World} {base : Nat} {v : Value} {cs : List Ic} (h : dM w base v cs) : ∃ A cap, v = .slice A cs.length cap := by
 by_cases h0 : 0 < cs.length
 ·
  obtain ⟨g, cap, e, _⟩ := h.four h0
  exact ⟨_, cap, e⟩
 ·
  obtain ⟨_, h2⟩ := h
  rcases h2 with ⟨hv, _⟩ | ⟨g, cap, cur, hv, _⟩
  · exact ⟨none, 0, by rw [hv]; congr 1; omega⟩
  · exact ⟨_, cap, hv⟩
theorem dM.keep {w w' : World} {B : Nat} {v : Value} {xs : List Ic} (h : dM w B v xs) (hb : Below w.heap.size w w') : dM w' B v xs := by
 obtain ⟨h1, h2⟩ := h
 refine ⟨h1, h2.imp id ?_⟩
 rintro ⟨g, cap, cur, rfl, hg, hh, rest⟩
 exact ⟨g, cap, cur, rfl, hg, (hb.block g (Array.getElem?_eq_some_iff.1 hh).1).trans hh, rest⟩
theorem dM.app {w1 : World} {base k : Nat} {v' : Value} {xs : List Ic} {c : Ic} (hk : k = xs.length)
  (h : w1.ownsRow base 117 4 v' (k + 1) (xs.flatMap aS ++ aS c)) : dM w1 base v' (xs ++ [c]) := by
 unfold dM
 rw [List.length_append, List.flatMap_append, List.length_singleton, ← hk]
 simpa using h
theorem dM.no {w : World} {base a : Nat} {v : Value} {cs : List Ic} (h : dM w base v cs) (ha : a < base) : v.ownBlock ≠ some a := fun e => by
 have := (World.ownsRow.lt h _ e).1
 omega
theorem dM.set {w : World} {base a j : Nat} {v u : Value} {cs : List Ic} (h : dM w base v cs) (ha : a < base) : dM (w.setCell ⟨a, j, none⟩ u) base v cs :=
 World.ownsRow.kept h (pQ w a j u) (Or.inr (h.no ha))
def aM (n : Int) : Ic := ⟨1, n, none, 0, 0, none, 0, 0⟩
theorem tH {l : List Int} {k : Nat} (hk : k < l.length) : (l.take (k + 1)).map aM = (l.take k).map aM ++ [aM (l.getD k 0)] := by
 rw [take_one hk, List.map_append]; rfl
def EG (i : It) (w : World) (e : Ending) (w' : World) : Prop := ∃ c : Ic, e = .returned c.val ∧ nO w' i c ∧ Below w.heap.size w w'
theorem DR {w : World} {base : Nat} {v : Value} {l : List Int} (h : dM w base v (l.map aM)) : ∃ L cl, v = .slice L l.length cl ∧ nO w (.lst (l.map .int)) ⟨3, 0, none, 0, 0, L, l.length, cl⟩ := by
 by_cases h0 : 0 < l.length
 ·
  obtain ⟨g, cap, e, _, _, hf⟩ := h.four (by rw [List.length_map]; exact h0)
  rw [List.length_map] at e hf
  refine ⟨_, cap, e, .lst _ _ rfl rfl rfl (by rw [List.length_map]) (fun k => aM (l.getD k 0)) (fun k hk => ⟨g, 0, rfl, ?_⟩) (fun k hk => ?_)⟩
  ·
   rw [List.length_map] at hk
   have := hf k hk
   have e2 : (l.map aM).getD k default = aM (l.getD k 0) := by
    simp [List.getD_eq_getElem?_getD, List.getElem?_eq_getElem hk]
   rwa [e2] at this
  ·
   rw [List.length_map] at hk
   have e2 : (l.map It.int).getD k default = It.int (l.getD k 0) := by
    simp [List.getD_eq_getElem?_getD, List.getElem?_eq_getElem hk]
   rw [e2]
   exact .int _ _ rfl rfl rfl rfl
 ·
  have e : l = [] := List.eq_nil_of_length_eq_zero (by omega)
  subst e
  obtain ⟨L, cl, hv⟩ := h.len
  exact ⟨L, cl, hv, .lst [] _ rfl rfl rfl rfl (fun _ => default) (fun k hk => absurd hk (by simp)) (fun k hk => absurd hk (by simp))⟩
def qa (lo : Nat) (w : World) (i : It) (c : Ic) : Prop := ∀ w' : World, (∀ b, lo ≤ b → b < w.heap.size → w'.heap[b]? = w.heap[b]?) → nO w' i c
theorem qa.it {lo : Nat} {w : World} {i : It} {c : Ic} (h : qa lo w i c) : nO w i c := h w fun _ _ _ => rfl
theorem yO {w w' : World} {B : Nat} {v : Value} {cs : List Ic} (h : dM w B v cs) (hw : ∀ b, B ≤ b → b < w.heap.size → w'.heap[b]? = w.heap[b]?) : dM w' B v cs := by
 obtain ⟨h1, h2⟩ := h
 refine ⟨h1, h2.imp id ?_⟩
 rintro ⟨g, cap, cur, rfl, hg, hh, rest⟩
 exact ⟨g, cap, cur, rfl, hg, (hw g hg (Array.getElem?_eq_some_iff.1 hh).1).trans hh, rest⟩
def mM (i : It) (w : World) (e : Ending) (w' : World) : Prop := ∃ c : Ic, e = .returned c.val ∧ qa w.heap.size w' i c ∧ Below w.heap.size w w'
theorem mM.it {i : It} {w w' : World} {e : Ending} (h : mM i w e w') : EG i w e w' := by
 obtain ⟨c, h1, h2, h3⟩ := h
 exact ⟨c, h1, h2.it, h3⟩
theorem DN {w : World} {base lo : Nat} {L : Option Addr} {n cl : Nat} {l : List Int} (h : dM w base (.slice L n cl) (l.map aM)) (hlo : lo ≤ base) : qa lo w (.lst (l.map .int)) ⟨3, 0, none, 0, 0, L, l.length, cl⟩ := fun w' hw => by
 obtain ⟨L', cl', e, hr⟩ := DR (yO h fun b h1 h2 => hw b (by omega) h2)
 simp only [Value.slice.injEq] at e
 obtain ⟨rfl, _, rfl⟩ := e
 exact hr
theorem jN (A : Option Addr) (l : List Int) (n c : Nat) (hn : Hid (l.length = n)) (hbig : n ≤ 1000000) (w : World) (hs : Hid (Sl w A l)) :
  Calls Tryz.prog 179 #[.slice A n c] w (mM (.lst (l.map .int)) w) := by
 obtain ⟨i0, hi, hz0, hz1, hz2⟩ := info_parts iV
 obtain ⟨W, hW⟩ : ∃ W, (w.alloc (.cells #[.int .i64 0, .int .i64 0, .slice none 0 0, .slice none 0 0] 117)).alloc (.cells #[.int .i64 3, .int .i64 0, .slice none 0 0, .slice none 0 0] 117) = W := ⟨_, rfl⟩
 have bQ : Hid (Below w.heap.size w W) := aa (by rw [← hW]; exact aI (Below.refl _ _))
 have lG : Hid (W.heap.size = w.heap.size + 2) := aa (by rw [← hW]; simp)
 have hF : Four W (w.heap.size + 1) 0 ⟨3, 0, none, 0, 0, none, 0, 0⟩ := by
  rw [← hW]
  have h := heap_alloc2_new w (.cells #[.int .i64 0, .int .i64 0, .slice none 0 0, .slice none 0 0] 117) (.cells #[.int .i64 3, .int .i64 0, .slice none 0 0, .slice none 0 0] 117)
  exact ⟨ak h 0, ak h 1, ak h 2, ak h 3⟩
 have hf0 : ∀ j, W.frozen? ⟨w.heap.size + 1, j, none⟩ = false := by
  rw [← hW]
  exact fun j => aX (heap_alloc2_new _ _ _) j
 have HG : Hid ((Four W w.heap.size 0 ⟨0, 0, none, 0, 0, none, 0, 0⟩) ∧ ∀ j, W.frozen? ⟨w.heap.size, j, none⟩ = false) := aa (by
  rw [← hW]
  have h := heap_alloc2_old w (.cells #[.int .i64 0, .int .i64 0, .slice none 0 0, .slice none 0 0] 117) (.cells #[.int .i64 3, .int .i64 0, .slice none 0 0, .slice none 0 0] 117)
  exact ⟨⟨ak h 0, ak h 1, ak h 2, ak h 3⟩, fun j => aX h j⟩)
 have UE : Hid (W.heap[w.heap.size]? = some (.cells #[.int .i64 0, .int .i64 0, .slice none 0 0, .slice none 0 0] 117 (0, 0))) := aa (by rw [← hW]; exact heap_alloc2_old w _ _)
 have HS := aa hs.out
 have HW := aa hW
 have HX : Hid (Own W ⟨w.heap.size + 1, 0, none⟩ (.int .i64 3) ∧ Own W ⟨w.heap.size + 1, 1, none⟩ (.int .i64 0) ∧ Own W ⟨w.heap.size + 1, 2, none⟩ (.slice none 0 0)) := aa ⟨⟨hF.1, hf0 0⟩, ⟨hF.2.1, hf0 1⟩, ⟨hF.2.2.1, hf0 2⟩⟩
 have HL : Hid (Own W ⟨w.heap.size + 1, 3, none⟩ (.slice none 0 0)) := aa ⟨hF.2.2.2, hf0 3⟩
 clear hW hs hF hf0
 go_in
 go_wp2
 rw [HW.out]
 go_loopw [9] (fun i u => ∃ (k : Nat) (v : Value), k ≤ n ∧ i = .int .i64 k ∧ Hid (Own u ⟨w.heap.size + 1, 3, none⟩ v) ∧ Hid (dM u (w.heap.size + 2) v ((l.take k).map aM)) ∧ Hid (Own u ⟨w.heap.size + 1, 0, none⟩ (.int .i64 3) ∧ Own u ⟨w.heap.size + 1, 1, none⟩ (.int .i64 0) ∧ Own u ⟨w.heap.size + 1, 2, none⟩ (.slice none 0 0)) ∧ Hid (Below (w.heap.size + 1) W u)) (fun i _ => n - (intOf i).toNat)
 case atStart => exact ⟨0, _, by omega, rfl, HL, aa (qN _ _), HX, aa (Below.refl _ _)⟩
 case round =>
  obtain ⟨k, v, hk, rfl, HV, HO, nH, au⟩ := hrel
  by_cases hlt : k < n
  ·
   have hkl : k < l.length := by rw [hn.out]; exact hlt
   obtain ⟨b, o, hA, hc⟩ := (HS.out.below (bQ.out.trans (au.out.mono (Nat.le_succ _)))) k hkl
   subst hA
   have xu := aa (tH hkl)
   obtain ⟨x, hx⟩ : ∃ x, l.getD k 0 = x := ⟨_, rfl⟩
   rw [hx] at hc xu
   have qB : Hid (((l.take k).map aM).length = k) := aa (by rw [List.length_map, List.length_take]; omega)
   have hown : wr.ownsRow (w.heap.size + 2) 117 4 v k (((l.take k).map aM).flatMap aS) := by have h := HO.out; unfold dM at h; rwa [qB.out] at h
   have hbs : w.heap.size + 2 ≤ wr.heap.size := by have := au.out.size; have := lG.out; omega
   have hno : v.ownBlock ≠ some (w.heap.size + 1) := HO.out.no (by omega)
   obtain ⟨v3, Oh⟩ := HV.out
   have HVA := aa (HV.out.below (af wr (.cells #[.int .i64 1, .int .i64 x, .slice none 0 0, .slice none 0 0] 117)))
   have b1 : k + 1 ≤ maxLen := by unfold maxLen; omega
   have b2 : (k + 1) * 64 ≤ 140737488355328 := by omega
   have b3 : w.heap.size + 2 ≤ (wr.alloc (.cells #[.int .i64 1, .int .i64 x, .slice none 0 0, .slice none 0 0] 117)).heap.size := by simp; omega
   clear hx hkl
   go_wp2_with (at_builtin; refine wpList_append_lies rfl _ _ 115 rfl (w.heap.size + 2) 117 i0 (.agg #[.int .i64 0, .int .i64 0, .slice none 0 0, .slice none 0 0]) 4 64 Tryz.underlying115 hi hz0 hz1 hz2 rfl (by decide) _ _ _ rfl (hown.alloc _) ⟨wr.heap.size, 0, none⟩ 1 1 [.int .i64 1, .int .i64 x, .slice none 0 0, .slice none 0 0] rfl rfl (World.news_of_block (cs := #[.int .i64 1, .int .i64 x, .slice none 0 0, .slice none 0 0]) (t := 117) (fr := (0, 0)) (heap_alloc_new wr _)) (by simp [Value.oneCell']) (by decide) b1 b2 b3 _ rfl ?_; intro g2 cap2 w2 hown2 hgrow2 vN hlt2; obtain ⟨q1, q2⟩ := bP HVA.out hgrow2 hno)
   obtain ⟨v', hv'⟩ : ∃ v', Value.slice (some ⟨g2, 0, none⟩) (k + 1) cap2 = v' := ⟨_, rfl⟩
   rw [hv'] at hown2
   have HVE := aa hv'
   clear hv' vN hlt2
   rw [HVE.out]
   have HB2 : Hid (Below (w.heap.size + 1) W w2) := aa ((au.out.alloc (by omega) _).grown hgrow2 (by simp; omega) (fun j hj => by have := (World.ownsRow.lt hown j hj).1; omega))
   have qA : Hid (dM w2 (w.heap.size + 2) v' ((l.take (k + 1)).map aM)) := aa (by
    rw [xu.out]
    exact dM.app qB.out.symm hown2)
   have a0 := bP (nH.out.1.below (af wr (.cells #[.int .i64 1, .int .i64 x, .slice none 0 0, .slice none 0 0] 117))) hgrow2 hno
   have a1 := bP (nH.out.2.1.below (af wr (.cells #[.int .i64 1, .int .i64 x, .slice none 0 0, .slice none 0 0] 117))) hgrow2 hno
   have a2 := bP (nH.out.2.2.below (af wr (.cells #[.int .i64 1, .int .i64 x, .slice none 0 0, .slice none 0 0] 117))) hgrow2 hno
   have tN : Hid (Own (w2.setCell ⟨w.heap.size + 1, 3, none⟩ v') ⟨w.heap.size + 1, 3, none⟩ v') := aa (dI ⟨q1, q2⟩)
   have xV : Hid (dM (w2.setCell ⟨w.heap.size + 1, 3, none⟩ v') (w.heap.size + 2) v' ((l.take (k + 1)).map aM)) := aa (qA.out.set (by omega))
   have P8 : Hid (Own (w2.setCell ⟨w.heap.size + 1, 3, none⟩ v') ⟨w.heap.size + 1, 0, none⟩ (.int .i64 3) ∧ Own (w2.setCell ⟨w.heap.size + 1, 3, none⟩ v') ⟨w.heap.size + 1, 1, none⟩ (.int .i64 0) ∧ Own (w2.setCell ⟨w.heap.size + 1, 3, none⟩ v') ⟨w.heap.size + 1, 2, none⟩ (.slice none 0 0)) :=
    aa ⟨aK a0 (by simp), aK a1 (by simp), aK a2 (by simp)⟩
   have jF : Hid (Below (w.heap.size + 1) W (w2.setCell ⟨w.heap.size + 1, 3, none⟩ v')) := aa (HB2.out.setCell (Nat.le_refl _) _)
   clear b1 b2 b3 hown hown2 hgrow2 HO nH HV v3 Oh q1 q2 a0 a1 a2 HB2 qA HVA hc
   go_roundw
   case rel => exact ⟨k + 1, v', by omega, by go_num, tN, xV, P8, jF⟩
   case measure => simp [intOf]; omega
  ·
   have vS : Hid (dM wr (w.heap.size + 2) v (l.map aM)) := aa (by
    have h := HO.out
    rwa [List.take_of_length_le (by have := hn.out; omega)] at h)
   obtain ⟨L, cl, QH⟩ := vS.out.len
   rw [List.length_map, hn.out] at QH
   subst QH
   obtain ⟨p0, Zb⟩ := nH.out.1
   obtain ⟨p1, Za⟩ := nH.out.2.1
   obtain ⟨p2, Y_⟩ := nH.out.2.2
   obtain ⟨p3, Y9⟩ := HV.out
   have XW := HG.out
   have r0 := (au.out.cell (p := ⟨w.heap.size, 0, none⟩) (Nat.lt_succ_self _)).trans HG.out.1.1
   have r1 := (au.out.cell (p := ⟨w.heap.size, 1, none⟩) (Nat.lt_succ_self _)).trans HG.out.1.2.1
   have r2 := (au.out.cell (p := ⟨w.heap.size, 2, none⟩) (Nat.lt_succ_self _)).trans HG.out.1.2.2.1
   have r3 := (au.out.cell (p := ⟨w.heap.size, 3, none⟩) (Nat.lt_succ_self _)).trans HG.out.1.2.2.2
   have z0 := (au.out.frozen (p := ⟨w.heap.size, 0, none⟩) (Nat.lt_succ_self _)).trans (HG.out.2 0)
   have z1 := (au.out.frozen (p := ⟨w.heap.size, 1, none⟩) (Nat.lt_succ_self _)).trans (HG.out.2 1)
   have z2 := (au.out.frozen (p := ⟨w.heap.size, 2, none⟩) (Nat.lt_succ_self _)).trans (HG.out.2 2)
   have z3 := (au.out.frozen (p := ⟨w.heap.size, 3, none⟩) (Nat.lt_succ_self _)).trans (HG.out.2 3)
   have rY := aa (bQ.out.trans (au.out.mono (Nat.le_succ _)))
   clear nH HV HO XW
   obtain ⟨WF, rV⟩ : ∃ u, (((wr.setCell ⟨w.heap.size, 0, none⟩ (.int .i64 3)).setCell ⟨w.heap.size, 1, none⟩ (.int .i64 0)).setCell ⟨w.heap.size, 2, none⟩ (.slice none 0 0)).setCell ⟨w.heap.size, 3, none⟩ (.slice L n cl) = u := ⟨_, rfl⟩
   have hgB : WF.heap[w.heap.size]? = some (.cells #[.int .i64 3, .int .i64 0, .slice none 0 0, .slice L n cl] 117 (0, 0)) := by
    have h0 := (au.out.block w.heap.size (Nat.lt_succ_self _)).trans UE.out
    rw [← rV, heap_setCell_same _ _ _ _ _ _ (heap_setCell_same _ _ _ _ _ _ (heap_setCell_same _ _ _ _ _ _ (heap_setCell_same _ _ _ _ _ _ h0)))]
    rfl
   have CE : Hid (dM WF (w.heap.size + 2) (.slice L n cl) (l.map aM)) := aa (by
    rw [← rV]
    exact (((vS.out.set (by omega)).set (by omega)).set (by omega)).set (by omega))
   have fA : Hid (Below w.heap.size w WF) := aa (by
    rw [← rV]
    exact (((rY.out.setCell (Nat.le_refl _) _).setCell (Nat.le_refl _) _).setCell (Nat.le_refl _) _).setCell (Nat.le_refl _) _)
   have yX := DN (lo := w.heap.size) CE.out (by omega)
   rw [hn.out] at yX
   have HIT := aa yX
   have Ut : Kp ((loadVar 117 ⟨w.heap.size, 0, none⟩).run Tryz.prog WF = .ok (.agg #[.int .i64 3, .int .i64 0, .slice none 0 0, .slice L n cl]) WF) := ⟨run_loadVar_row _ _ _ _ _ _ _ hgB Tryz.underlying117 rfl (by kernel_rfl)⟩
   have Xc := aa rV
   clear yX vS CE hgB rV
   go_wp2
   rw [Xc.out]
   exact bodyPost_ret (v := .agg #[.int .i64 3, .int .i64 0, .slice none 0 0, .slice L n cl]) (aC (p := 2) (ty := 117) rfl _ _ ⟨w.heap.size, 0, none⟩ _ rfl Ut.out) rfl ⟨⟨3, 0, none, 0, 0, L, n, cl⟩, rfl, HIT.out, fA.out⟩
theorem LY (A : Option Addr) (l : List Int) (n c : Nat) (hn : Hid (l.length = n)) (hbig : n ≤ 1000000) (w : World) (hs : Hid (Sl w A l)) :
  Calls Tryz.prog 179 #[.slice A n c] w (EG (.lst (l.map .int)) w) :=
 (jN A l n c hn hbig w hs).mono (fun _ _ h => h.it)
theorem GL {l : List Int} {k : Nat} (h : k < l.length) : (dD (k + 1) ++ l.drop (k + 1)).set k (l.getD k 0) = dD k ++ l.drop k := by
 rw [List.drop_eq_getElem_cons h, dD, List.replicate_succ', List.append_assoc, List.set_append_right _ _ (by rw [List.length_replicate]; exact Nat.le_refl _), List.length_replicate, Nat.sub_self]
 rw [List.getD_eq_getElem?_getD, List.getElem?_eq_getElem h]
 rfl
def NumOut (s : Nat) (n : Int) (w : World) (e : Ending) (w' : World) : Prop := ∃ g cap, e = .returned (.slice (some ⟨g, 0, none⟩) s cap) ∧ Sk .u8 w' (some ⟨g, 0, none⟩) (p9 s n) ∧ Below w.heap.size w w'
theorem vF (n : Int) (h0 : 0 ≤ n) (h1 : n < 18446744073709551616) (w : World) : Calls Tryz.prog 182 #[.int .u64 n, .int .i64 4] w (NumOut 4 n w) := by
 obtain ⟨W, hW⟩ : ∃ W, w.alloc (.cells #[.int .u8 0, .int .u8 0, .int .u8 0, .int .u8 0] 5) = W := ⟨_, rfl⟩
 have bQ : Hid (Below w.heap.size w W) := aa (by rw [← hW]; exact af _ _)
 have HB0 : Hid (bB .u8 5 W w.heap.size (dD 4 ++ (p9 4 n).drop 4)) := aa (by
  rw [← hW]
  exact bB.new w (dD 4))
 have hmk : ∀ w, (Instr.makeSlice 114 (.int .i64 4) (.int .i64 4)).run Tryz.prog w = .ok (.slice (some ⟨w.heap.size, 0, none⟩) 4 4) (w.alloc (.cells #[.int .u8 0, .int .u8 0, .int .u8 0, .int .u8 0] 5)) := fun _ => by kernel_rfl
 have HW := aa hW
 clear hW
 go_in
 go_wp2
 rw [HW.out]
 clear HW hmk
 go_loopw [0, 6] (fun p i u => ∃ (j : Nat) (x : Int), j ≤ 4 ∧ i = .int .i64 (3 - (j : Int)) ∧ p = .int .u64 x ∧ 0 ≤ x ∧ x ≤ n ∧ Hid (n / 2 ^ (8 * j) = x) ∧ Hid (bB .u8 5 u w.heap.size (dD (4 - j) ++ (p9 4 n).drop (4 - j))) ∧ Hid (Below w.heap.size w u)) (fun _ i _ => (intOf i + 1).toNat)
 case atStart => exact ⟨0, n, by omega, rfl, rfl, h0, Int.le_refl _, aa (by simp), HB0, bQ⟩
 case round =>
  obtain ⟨j, x, hj, rfl, rfl, x0, x1, HX, HB, au⟩ := hrel
  by_cases hlt : j < 4
  ·
   obtain ⟨k, hk⟩ : ∃ k, 3 - j = k := ⟨_, rfl⟩
   have hkk : 4 - j = k + 1 := by omega
   have hkl : k < (p9 4 n).length := by rw [iN (by omega)]; omega
   rw [hkk] at HB
   have hc := HB.out.cell (j := k) (by rw [List.length_append, dD, List.length_replicate]; omega)
   have hf := HB.out.free k
   have hst := GL hkl
   rw [BV (by omega) n k (by omega), show 8 * (4 - 1 - k) = 8 * j by omega, HX.out] at hst
   have zz : Hid (n / 2 ^ (8 * (j + 1)) = x / 256) := aa (by
    rw [← HX.out, show 8 * (j + 1) = 8 * j + 8 by omega, Int.pow_add, ← Int.ediv_ediv_of_nonneg (Int.le_of_lt (Int.pow_pos (by decide)))]
    rfl)
   have d1 : (0 : Int) ≤ 3 - (j : Int) := by omega
   have d2 : (3 - (j : Int)).toNat = k := by omega
   have d3 : 3 - (j : Int) < 4 := by omega
   have y0 : 0 ≤ x / 256 := Int.ediv_nonneg x0 (by decide)
   have y1 : x / 256 ≤ n := by omega
   obtain ⟨WV, Cx⟩ : ∃ u, wr.setCell ⟨w.heap.size, k, none⟩ (.int .u8 (x % 256)) = u := ⟨_, rfl⟩
   have HB2 : Hid (bB .u8 5 WV w.heap.size (dD (4 - (j + 1)) ++ (p9 4 n).drop (4 - (j + 1)))) := aa (by
    rw [← Cx, show 4 - (j + 1) = k by omega, ← hst]
    exact HB.out.set)
   have Ch : Hid (Below w.heap.size w WV) := aa (by rw [← Cx]; exact au.out.setCell (Nat.le_refl _) _)
   have P9 := aa Cx
   clear hst HB au Cx hkl hk
   go_wp2
   try go_region
   try rw [P9.out]
   clear hc hf
   go_wp2
   go_roundw
   case rel => exact ⟨j + 1, _, by omega, by go_num, rfl, y0, y1, zz, HB2, Ch⟩
   case measure => simp [intOf]; omega
  ·
   have JV : Hid (bB .u8 5 wr w.heap.size (p9 4 n)) := aa (by
    have h := HB.out
    rwa [show 4 - j = 0 by omega] at h)
   have d1 : 3 - (j : Int) < 0 := by omega
   clear HB
   go_wp2
   go_ret
   exact ⟨_, _, rfl, JV.out.sk, au.out⟩
theorem I4 (n : Int) (h0 : 0 ≤ n) (h1 : n < 18446744073709551616) (w : World) : Calls Tryz.prog 182 #[.int .u64 n, .int .i64 8] w (NumOut 8 n w) := by
 obtain ⟨W, hW⟩ : ∃ W, w.alloc (.cells #[.int .u8 0, .int .u8 0, .int .u8 0, .int .u8 0, .int .u8 0, .int .u8 0, .int .u8 0, .int .u8 0] 5) = W := ⟨_, rfl⟩
 have bQ : Hid (Below w.heap.size w W) := aa (by rw [← hW]; exact af _ _)
 have HB0 : Hid (bB .u8 5 W w.heap.size (dD 8 ++ (p9 8 n).drop 8)) := aa (by
  rw [← hW]
  exact bB.new w (dD 8))
 have hmk : ∀ w, (Instr.makeSlice 114 (.int .i64 8) (.int .i64 8)).run Tryz.prog w = .ok (.slice (some ⟨w.heap.size, 0, none⟩) 8 8) (w.alloc (.cells #[.int .u8 0, .int .u8 0, .int .u8 0, .int .u8 0, .int .u8 0, .int .u8 0, .int .u8 0, .int .u8 0] 5)) := fun _ => by kernel_rfl
 have HW := aa hW
 clear hW
 go_in
 go_wp2
 rw [HW.out]
 clear HW hmk
 go_loopw [0, 6] (fun p i u => ∃ (j : Nat) (x : Int), j ≤ 8 ∧ i = .int .i64 (7 - (j : Int)) ∧ p = .int .u64 x ∧ 0 ≤ x ∧ x ≤ n ∧ Hid (n / 2 ^ (8 * j) = x) ∧ Hid (bB .u8 5 u w.heap.size (dD (8 - j) ++ (p9 8 n).drop (8 - j))) ∧ Hid (Below w.heap.size w u)) (fun _ i _ => (intOf i + 1).toNat)
 case atStart => exact ⟨0, n, by omega, rfl, rfl, h0, Int.le_refl _, aa (by simp), HB0, bQ⟩
 case round =>
  obtain ⟨j, x, hj, rfl, rfl, x0, x1, HX, HB, au⟩ := hrel
  by_cases hlt : j < 8
  ·
   obtain ⟨k, hk⟩ : ∃ k, 7 - j = k := ⟨_, rfl⟩
   have hkk : 8 - j = k + 1 := by omega
   have hkl : k < (p9 8 n).length := by rw [iN (by omega)]; omega
   rw [hkk] at HB
   have hc := HB.out.cell (j := k) (by rw [List.length_append, dD, List.length_replicate]; omega)
   have hf := HB.out.free k
   have hst := GL hkl
   rw [BV (by omega) n k (by omega), show 8 * (8 - 1 - k) = 8 * j by omega, HX.out] at hst
   have zz : Hid (n / 2 ^ (8 * (j + 1)) = x / 256) := aa (by
    rw [← HX.out, show 8 * (j + 1) = 8 * j + 8 by omega, Int.pow_add, ← Int.ediv_ediv_of_nonneg (Int.le_of_lt (Int.pow_pos (by decide)))]
    rfl)
   have d1 : (0 : Int) ≤ 7 - (j : Int) := by omega
   have d2 : (7 - (j : Int)).toNat = k := by omega
   have d3 : 7 - (j : Int) < 8 := by omega
   have y0 : 0 ≤ x / 256 := Int.ediv_nonneg x0 (by decide)
   have y1 : x / 256 ≤ n := by omega
   obtain ⟨WV, Cx⟩ : ∃ u, wr.setCell ⟨w.heap.size, k, none⟩ (.int .u8 (x % 256)) = u := ⟨_, rfl⟩
   have HB2 : Hid (bB .u8 5 WV w.heap.size (dD (8 - (j + 1)) ++ (p9 8 n).drop (8 - (j + 1)))) := aa (by
    rw [← Cx, show 8 - (j + 1) = k by omega, ← hst]
    exact HB.out.set)
   have Ch : Hid (Below w.heap.size w WV) := aa (by rw [← Cx]; exact au.out.setCell (Nat.le_refl _) _)
   have P9 := aa Cx
   clear hst HB au Cx hkl hk
   go_wp2
   try go_region
   try rw [P9.out]
   clear hc hf
   go_wp2
   go_roundw
   case rel => exact ⟨j + 1, _, by omega, by go_num, rfl, y0, y1, zz, HB2, Ch⟩
   case measure => simp [intOf]; omega
  ·
   have JV : Hid (bB .u8 5 wr w.heap.size (p9 8 n)) := aa (by
    have h := HB.out
    rwa [show 8 - j = 0 by omega] at h)
   have d1 : 7 - (j : Int) < 0 := by omega
   clear HB
   go_wp2
   go_ret
   exact ⟨_, _, rfl, JV.out.sk, au.out⟩
theorem KG (c : Ic) (w : World) (D : Nat) (h1 : c.kind = 1) (h3 : c.nb = 0) (h4 : c.nl = 0) : Calls Tryz.prog 272 #[c.val, .int .i64 (D : Int)] w (Rt w (.bool true)) := by
 obtain ⟨kd, nn, B, nb, cb, L, nl, cl⟩ := c
 dsimp only at h1 h3 h4
 subst h1; subst h3; subst h4
 show Calls Tryz.prog 272 #[.agg #[.int .i64 1, .int .i64 nn, .slice B 0 cb, .slice L 0 cl], .int .i64 (D : Int)] w (Rt w (.bool true))
 go_in
 go_wp2
 go_ret
 exact ⟨rfl, af _ _⟩
theorem KH (c : Ic) (w : World) (D : Nat) (h1 : c.kind = 2) (h2 : c.n = 0) (h4 : c.nl = 0) : Calls Tryz.prog 272 #[c.val, .int .i64 (D : Int)] w (Rt w (.bool true)) := by
 obtain ⟨kd, nn, B, nb, cb, L, nl, cl⟩ := c
 dsimp only at h1 h2 h4
 subst h1; subst h2; subst h4
 show Calls Tryz.prog 272 #[.agg #[.int .i64 2, .int .i64 0, .slice B nb cb, .slice L 0 cl], .int .i64 (D : Int)] w (Rt w (.bool true))
 go_in
 go_wp2
 go_ret
 exact ⟨rfl, af _ _⟩
theorem Rs (l : List It) (n : Nat) (hn : Hid (l.length = n)) (hn1 : n ≤ 1000) (f : Nat → Ic) (B : Option Addr) (cb : Nat) (L : Option Addr) (cl : Nat) (D : Nat) (hD : D < 8) (w : World)
  (h5 : Hid (∀ k, k < l.length → ∃ b o, L = some ⟨b, o, none⟩ ∧ Four w b (o + k * 4) (f k))) (h6 : Hid (∀ k, k < l.length → nO w (l.getD k default) (f k)))
  (ih : ∀ k, k < l.length → ∀ u, Below w.heap.size w u → Calls Tryz.prog 272 #[(f k).val, .int .i64 ((D + 1 : Nat) : Int)] u fun e w' => e = .returned (.bool true) ∧ Below u.heap.size u w') :
  Calls Tryz.prog 272 #[.agg #[.int .i64 3, .int .i64 0, .slice B 0 cb, .slice L n cl], .int .i64 (D : Int)] w (Rt w (.bool true)) := by
 have NF := aa ih
 clear ih
 obtain ⟨W, hW⟩ : ∃ W, w.alloc (.cells #[.int .i64 3, .int .i64 0, .slice B 0 cb, .slice L n cl] 117) = W := ⟨_, rfl⟩
 have bQ : Hid (Below w.heap.size w W) := aa (by rw [← hW]; exact af _ _)
 have HF : Hid (Four W w.heap.size 0 ⟨3, 0, B, 0, cb, L, n, cl⟩) := aa (by rw [← hW]; exact gJ w ⟨3, 0, B, 0, cb, L, n, cl⟩)
 have HW := aa hW
 have d1 : decide ((1000 : Int) < (n : Int)) = false := by simp; omega
 have d2 : ((D : Int) == 8) = false := by simp; omega
 have HD : Hid (((D + 1 : Nat) : Int) = (D : Int) + 1) := aa (by omega)
 have adt : IntKind.i64.wrap ((D : Int) + 1) = (D : Int) + 1 := IntWalk.i64_in _ (by omega)
 obtain ⟨c0, c1, c2, c3⟩ := HF.out.get
 clear hW
 go_in
 go_upto_region 1 with (fail)
 rw [HW.out]
 go_wp2
 clear c0 c1 c2 c3
 go_loopw [5] (fun i u => ∃ k : Nat, k ≤ n ∧ i = .int .i64 k ∧ Hid (Below W.heap.size W u)) (fun i _ => n - (intOf i).toNat)
 case atStart => exact ⟨0, by omega, rfl, aa (Below.refl _ _)⟩
 case round =>
  obtain ⟨k, hk, rfl, au⟩ := hrel
  obtain ⟨c0, c1, c2, c3⟩ := (HF.out.below au.out).get
  by_cases hlk : k < n
  ·
   have hkl : k < l.length := by rw [hn.out]; exact hlk
   obtain ⟨b, o, hL, h4⟩ := h5.out k hkl
   subst hL
   have hbw := ag bQ.out au.out
   obtain ⟨ic, hic⟩ : ∃ x, f k = x := ⟨_, rfl⟩
   obtain ⟨kd, nn, B', nb, cb', L', nl, cl'⟩ := ic
   have tQ := NF.out k hkl wr hbw
   rw [hic] at h4 tQ
   rw [HD.out] at tQ
   have HC : Hid (Calls Tryz.prog 272 #[.agg #[.int .i64 kd, .int .i64 nn, .slice B' nb cb', .slice L' nl cl'], .int .i64 ((D : Int) + 1)] wr fun e w' => e = .returned (.bool true) ∧ Below wr.heap.size wr w') := aa tQ
   obtain ⟨VY, VX, VW, VV⟩ := (h4.below hbw).get
   clear hkl h4 hbw hic tQ
   go_wp2_with fail
   refine HC.out.mono ?_
   rintro e w5 ⟨rfl, hb5⟩
   have l8 := aa (ag au.out hb5)
   clear hb5 HC VY VX VW VV c0 c1 c2 c3
   go_wp2
   go_roundw
   case rel => exact ⟨k + 1, by omega, by go_num, l8⟩
   case measure => simp [intOf]; omega
  ·
   have hbf := ag bQ.out au.out
   go_wp2
   go_ret
   exact ⟨rfl, hbf⟩
theorem KI : ∀ (d D : Nat), d + D ≤ 8 → ∀ (i : It) (c : Ic) (w : World), fits d i → nO w i c → Calls Tryz.prog 272 #[c.val, .int .i64 (D : Int)] w (Rt w (.bool true)) := by
 intro d
 induction d with
 | zero =>
  intro D ZF i c w hf hr
  cases hr with
  | int n c h1 h2 h3 h4 => exact KG c w D h1 h3 h4
  | byt b c h1 h2 h3 h4 h5 => exact KH c w D h1 h2 h4
  | lst l c h1 h2 h3 h4 f h5 h6 => exact absurd hf (by simp [fits])
 | succ d ih =>
  intro D ZF i c w hf hr
  cases hr with
  | int n c h1 h2 h3 h4 => exact KG c w D h1 h3 h4
  | byt b c h1 h2 h3 h4 h5 => exact KH c w D h1 h2 h4
  | lst l c h1 h2 h3 h4 f h5 h6 =>
   obtain ⟨kd, nn, B, nb, cb, L, nl, cl⟩ := c
   dsimp only at h1 h2 h3 h4 h5
   subst h1; subst h2; subst h3; subst h4
   refine Rs l l.length (aa rfl) hf.1 f B cb L cl D (by omega) w (aa h5) (aa h6) ?_
   intro k hk u hu
   exact ih (D + 1) (by omega) _ (f k) u (hf.2 _ (by rw [List.getD_eq_getElem?_getD, List.getElem?_eq_getElem hk]; exact List.getElem_mem hk)) ((h6 k hk).kept hu)
theorem Bg (i : It) (c : Ic) (w : World) (hf : fits 8 i) (hr : nO w i c) : Calls Tryz.prog 265 #[c.val] w (Rt w (.bool true)) := by
 have NF := aa (KI 8 0 (Nat.le_refl _) i c (w.alloc (sw c)) hf (hr.kept (af _ _)))
 obtain ⟨kd, nn, B, nb, cb, L, nl, cl⟩ := c
 show Calls Tryz.prog 265 #[.agg #[.int .i64 kd, .int .i64 nn, .slice B nb cb, .slice L nl cl]] w (Rt w (.bool true))
 clear hf hr
 go_in
 go_wp2_with fail
 refine NF.out.mono ?_
 rintro e w2 ⟨rfl, hb0⟩
 have hb1 := ag (af _ _) hb0
 clear hb0
 go_wp2
 go_ret
 exact ⟨rfl, hb1⟩
theorem uD (w : World) (x : Int) : aQ .u8 5 (w.alloc (.cells #[.int .u8 x] 5)) w.heap.size (.slice (some ⟨w.heap.size, 0, none⟩) 1 1) [x] :=
 ⟨rfl, Or.inr ⟨w.heap.size, 1, #[.int .u8 x], rfl, Nat.le_refl _, heap_alloc_new _ _, Nat.le_refl _, by decide, rfl, rfl⟩⟩
theorem Dk (n : Int) (hn1 : -9223372036854775808 ≤ n) (hn2 : n < 9223372036854775808) (B : Option Addr) (cb : Nat) (L : Option Addr) (cl : Nat) (w : World) :
  Calls Tryz.prog 145 #[.agg #[.int .i64 1, .int .i64 n, .slice B 0 cb, .slice L 0 cl]] w (zi .u8 5 (enc (.int n)) w) := by
 obtain ⟨i0, hi, hz0, hz1, hz2⟩ := info_parts dO
 obtain ⟨W, hW⟩ : ∃ W, w.alloc (.cells #[.int .i64 1, .int .i64 n, .slice B 0 cb, .slice L 0 cl] 117) = W := ⟨_, rfl⟩
 have bQ : Hid (Below w.heap.size w W) := aa (by rw [← hW]; exact af _ _)
 have hF : Four W w.heap.size 0 ⟨1, n, B, 0, cb, L, 0, cl⟩ := by rw [← hW]; exact gJ w ⟨1, n, B, 0, cb, L, 0, cl⟩
 obtain ⟨c0, c1, c2, c3⟩ := hF.get
 have c1b : (W.alloc (.cells #[.int .u8 1] 5)).cell? ⟨w.heap.size, 0 + 1, none⟩ = some (.int .i64 n) := cell_below c1 (af _ _)
 rw [Nat.zero_add] at c1b
 have HO : Hid (aQ .u8 5 (W.alloc (.cells #[.int .u8 1] 5)) W.heap.size (.slice (some ⟨W.heap.size, 0, none⟩) 1 1) [1]) := aa (uD W 1)
 have U9 := aa (af W (.cells #[.int .u8 1] 5))
 have HW := aa hW
 have y0 : 0 ≤ n % 18446744073709551616 := Int.emod_nonneg _ (by decide)
 have y1 : n % 18446744073709551616 < 18446744073709551616 := Int.emod_lt_of_pos _ (by decide)
 clear hW hF
 go_in
 go_upto_region 1 with (fail)
 rw [HW.out]
 go_wp2_with fail
 refine (I4 (n % 18446744073709551616) y0 y1 _).mono ?_
 rintro e w3 ⟨g3, mV, rfl, hs3, hb3⟩
 have lU := aa (HO.out.keep hb3)
 have HB3 := aa (ag U9.out hb3)
 have Qd := aa hs3
 have hz3 := HB3.out.size
 have hrow := lU.out.row (n := 1) rfl
 clear hb3 hs3 c0 c1 c1b c2 c3
 go_wp2_with (at_builtin; refine wpList_append_own _ rfl _ _ 114 rfl (W.heap.size) 5 i0 (.int .u8 0) 1 1 Tryz.underlying114 hi hz0 hz1 hz2 rfl (by decide) (.slice (some ⟨W.heap.size, 0, none⟩) 1 1) (1) ([.int .u8 1]) rfl (hrow) ⟨g3, 0, none⟩ 8 mV ((p9 8 (n % 18446744073709551616)).map (.int .u8)) rfl (by simp [iN, dV, fH]) (Qd.out.news) (ints_oneCell .u8 _) (by unfold maxLen; omega) (by omega) (by omega) ?_; intro v4 w4 sD pM _)
 have xV : Hid (aQ .u8 5 w4 W.heap.size v4 (enc (.int n))) := aa (by rw [lS]; exact aQ.app (xs := [1]) (ys := qx (n % 18446744073709551616)) (m := 8) rfl rfl sD)
 have jF : Hid (Below w.heap.size w w4) := aa (ag bQ.out (lU.out.below0 HB3.out hz3 pM))
 have hle := bQ.out.size
 clear sD pM hrow
 go_wp2
 go_ret
 exact ⟨_, rfl, xV.out.mono hle, jF.out⟩
theorem Dl (l : List Int) (n : Nat) (hn : Hid (l.length = n)) (hn0 : 0 < n) (hn1 : n < 1000000) (b o : Nat) (cb : Nat) (L : Option Addr) (cl : Nat) (w : World) (hs : Hid (Sk .u8 w (some ⟨b, o, none⟩) l)) :
  Calls Tryz.prog 145 #[.agg #[.int .i64 2, .int .i64 0, .slice (some ⟨b, o, none⟩) n cb, .slice L 0 cl]] w (zi .u8 5 (enc (.byt l)) w) := by
 obtain ⟨i0, hi, hz0, hz1, hz2⟩ := info_parts dO
 obtain ⟨W, hW⟩ : ∃ W, w.alloc (.cells #[.int .i64 2, .int .i64 0, .slice (some ⟨b, o, none⟩) n cb, .slice L 0 cl] 117) = W := ⟨_, rfl⟩
 have bQ : Hid (Below w.heap.size w W) := aa (by rw [← hW]; exact af _ _)
 have HF : Hid (Four W w.heap.size 0 ⟨2, 0, some ⟨b, o, none⟩, n, cb, L, 0, cl⟩) := aa (by rw [← hW]; exact gJ w ⟨2, 0, some ⟨b, o, none⟩, n, cb, L, 0, cl⟩)
 obtain ⟨c0, c1, c2, c3⟩ := HF.out.get
 rw [Nat.zero_add] at c1 c2 c3
 have HS := aa (hs.out.below bQ.out)
 have A8 := aa c2
 have HW := aa hW
 have u1 : IntKind.u64.wrap (n : Int) = (n : Int) := by simp [IntKind.wrap, IntKind.bits, IntKind.signed]; omega
 clear hW
 go_in
 go_upto_region 1 with (fail)
 rw [HW.out]
 go_wp2_with fail
 clear c0 c1 c2 c3
 refine bD (S := fun w' => w'.cell? ⟨w.heap.size, 2, none⟩ = some (.slice (some ⟨b, o, none⟩) n cb)) (E := []) (by kernel_rfl) (cell_below A8.out (Below.refl _ _).drew) (fun hHeld => ?_)
 refine bN 1 ?_
 refine bN 2 ?_
 refine bN 3 ?_
 refine bN 4 ?_
 refine bN 7 ?_
 refine bN 8 ?_
 refine NZ (i1 := 0) (i2 := 5) (by kernel_rfl) rfl rfl (fun K hK => ?_) (fun K hK => ?_)
 ·
  go_simp
  refine hK.out _ _ ?_ (fun hHeld => ?_)
  · exact cell_below A8.out (af _ _).drew
  clear hK K
  try simp only [qq]
  refine bW 5 fun K hK => ?_
  go_simp
  try rw [show (W.drew.alloc (.cells #[.int .u8 2] 5)) = (W.alloc (.cells #[.int .u8 2] 5)).drew from rfl]
  refine (vF n (by omega) (by omega) _).mono ?_
  rintro e w3 ⟨gN, TG, rfl, Zo, hb3⟩
  refine hK.out _ _ ?_ (fun hHeld => ?_)
  · exact cell_below A8.out (ag (af _ _).drew hb3)
  clear hK K
  try simp only [qq]
  refine bW 6 fun K hK => ?_
  obtain ⟨gA, hgA⟩ : ∃ g, W.heap.size = g := ⟨_, rfl⟩
  have CE : Hid (aQ .u8 5 w3 W.heap.size (.slice (some ⟨gA, 0, none⟩) 1 1) [2]) := aa (by rw [← hgA]; exact (uD W 2).keep (ag (Below.refl _ _).drew hb3))
  have sN : Hid (Below W.heap.size W w3) := aa (ag (af _ _).drew hb3)
  have XF := aa Zo
  obtain ⟨W6, F3⟩ : ∃ u, w3 = u := ⟨_, rfl⟩
  rw [F3] at CE sN XF ⊢
  rw [hgA]
  have Mc := CE.out.row (n := 1) rfl
  have Zk := sN.out.size
  refine step_append_lies _ (by rfl) _ _ _ (by rfl) (W.heap.size) 5 i0 _ 1 1 Tryz.underlying114 hi hz0 hz1 hz2 rfl (by omega) (.slice (some ⟨gA, 0, none⟩) 1 1) (1) ([.int .u8 2]) (by rfl) (Mc) ⟨gN, 0, none⟩ 4 TG ((p9 4 (n : Int)).map (.int .u8)) (by rfl) (by simp [iN, dV, hn.out]) (XF.out.news) (ints_oneCell .u8 _) (by decide) (by unfold maxLen; omega) (by omega) (by omega) (W6.heap.size) rfl ?_
  intro g7 Gq w7 Mi FY ZO Zx
  have zT := aa (CE.out.below0 sN.out Zk FY)
  have XB : Hid (aQ .u8 5 w7 W.heap.size (.slice (some ⟨g7, 0, none⟩) (1 + 4) Gq) (2 :: ug (n : Int))) := aa (aQ.app (xs := [2]) (ys := ug (n : Int)) (m := 4) rfl rfl Mi)
  have Ma := XB.out.row (n := 5) rfl
  have Zj := zT.out.size
  have Xv := aa (HS.out.below zT.out)
  refine hK.out _ _ ?_ (fun hHeld => ?_)
  · exact cell_below A8.out zT.out
  clear hK K
  try simp only [qq]
  refine bW 9 fun K hK => ?_
  refine step_append_lies _ (by rfl) _ _ _ (by rfl) (W.heap.size) 5 i0 _ 1 1 Tryz.underlying114 hi hz0 hz1 hz2 rfl (by omega) (.slice (some ⟨g7, 0, none⟩) (1 + 4) Gq) (5) ((2 :: ug (n : Int)).map (.int .u8)) (by rfl) (Ma) ⟨b, o, none⟩ n cb (l.map (.int .u8)) (by rfl) (by simp [iN, dV, hn.out]) (Xv.out.news) (ints_oneCell .u8 _) (hn0) (by unfold maxLen; omega) (by omega) (by omega) (w7.heap.size) rfl ?_
  intro g8 TH w8 Aw qU ZN SQ
  have zw := aa (XB.out.below0 zT.out Zj qU)
  have HO8 : Hid (aQ .u8 5 w8 W.heap.size (.slice (some ⟨g8, 0, none⟩) (5 + n) TH) (enc (.byt l))) := aa (by rw [h_, hn.out]; exact aQ.app (xs := 2 :: ug (n : Int)) (ys := l) (m := n) rfl hn.out.symm Aw)
  refine hK.out _ _ ?_ (fun hHeld => ?_)
  · exact cell_below A8.out zw.out
  clear hK K
  try simp only [qq]
  refine bN 10 ?_
  refine gz ?_
  have HF := aa (HO8.out.mono bQ.out.size)
  have hbf := ag bQ.out zw.out
  go_wp2
  go_ret
  exact ⟨_, rfl, HF.out, hbf⟩
 ·
  go_simp
  refine (vF n (by omega) (by omega) _).mono ?_
  rintro e w3 ⟨gN, TG, rfl, Zo, hb3⟩
  have IC := aa (ag (Below.refl W.heap.size W).drew hb3)
  have hzN := IC.out.size
  refine hK.out _ _ ?_ (fun hHeld => ?_)
  · exact cell_below A8.out (ag (Below.refl W.heap.size W).drew hb3)
  clear hK K
  try simp only [qq]
  refine bW 0 fun K hK => ?_
  go_simp
  refine hK.out _ _ ?_ (fun hHeld => ?_)
  ·
   exact cell_below A8.out (ag (ag (Below.refl W.heap.size W).drew hb3) (af _ _))
  clear hK K
  try simp only [qq]
  refine bW 6 fun K hK => ?_
  obtain ⟨gA, hgA⟩ : ∃ g, w3.heap.size = g := ⟨_, rfl⟩
  have CE : Hid (aQ .u8 5 (w3.alloc (.cells #[.int .u8 2] 5)) W.heap.size (.slice (some ⟨gA, 0, none⟩) 1 1) [2]) := aa (by rw [← hgA]; exact (uD w3 2).mono hzN)
  have sN : Hid (Below W.heap.size W (w3.alloc (.cells #[.int .u8 2] 5))) := aa (ag IC.out (af _ _))
  have XF := aa (Zo.below (af w3 (.cells #[.int .u8 2] 5)))
  obtain ⟨W6, F3⟩ : ∃ u, w3.alloc (.cells #[.int .u8 2] 5) = u := ⟨_, rfl⟩
  rw [F3] at CE sN XF ⊢
  rw [hgA]
  have Mc := CE.out.row (n := 1) rfl
  have Zk := sN.out.size
  refine step_append_lies _ (by rfl) _ _ _ (by rfl) (W.heap.size) 5 i0 _ 1 1 Tryz.underlying114 hi hz0 hz1 hz2 rfl (by omega) (.slice (some ⟨gA, 0, none⟩) 1 1) (1) ([.int .u8 2]) (by rfl) (Mc) ⟨gN, 0, none⟩ 4 TG ((p9 4 (n : Int)).map (.int .u8)) (by rfl) (by simp [iN, dV, hn.out]) (XF.out.news) (ints_oneCell .u8 _) (by decide) (by unfold maxLen; omega) (by omega) (by omega) (W6.heap.size) rfl ?_
  intro g7 Gq w7 Mi FY ZO Zx
  have zT := aa (CE.out.below0 sN.out Zk FY)
  have XB : Hid (aQ .u8 5 w7 W.heap.size (.slice (some ⟨g7, 0, none⟩) (1 + 4) Gq) (2 :: ug (n : Int))) := aa (aQ.app (xs := [2]) (ys := ug (n : Int)) (m := 4) rfl rfl Mi)
  have Ma := XB.out.row (n := 5) rfl
  have Zj := zT.out.size
  have Xv := aa (HS.out.below zT.out)
  refine hK.out _ _ ?_ (fun hHeld => ?_)
  · exact cell_below A8.out zT.out
  clear hK K
  try simp only [qq]
  refine bW 9 fun K hK => ?_
  refine step_append_lies _ (by rfl) _ _ _ (by rfl) (W.heap.size) 5 i0 _ 1 1 Tryz.underlying114 hi hz0 hz1 hz2 rfl (by omega) (.slice (some ⟨g7, 0, none⟩) (1 + 4) Gq) (5) ((2 :: ug (n : Int)).map (.int .u8)) (by rfl) (Ma) ⟨b, o, none⟩ n cb (l.map (.int .u8)) (by rfl) (by simp [iN, dV, hn.out]) (Xv.out.news) (ints_oneCell .u8 _) (hn0) (by unfold maxLen; omega) (by omega) (by omega) (w7.heap.size) rfl ?_
  intro g8 TH w8 Aw qU ZN SQ
  have zw := aa (XB.out.below0 zT.out Zj qU)
  have HO8 : Hid (aQ .u8 5 w8 W.heap.size (.slice (some ⟨g8, 0, none⟩) (5 + n) TH) (enc (.byt l))) := aa (by rw [h_, hn.out]; exact aQ.app (xs := 2 :: ug (n : Int)) (ys := l) (m := n) rfl hn.out.symm Aw)
  refine hK.out _ _ ?_ (fun hHeld => ?_)
  · exact cell_below A8.out zw.out
  clear hK K
  try simp only [qq]
  refine bN 10 ?_
  refine gz ?_
  have HF := aa (HO8.out.mono bQ.out.size)
  have hbf := ag bQ.out zw.out
  go_wp2
  go_ret
  exact ⟨_, rfl, HF.out, hbf⟩
theorem La (l : List It) (n : Nat) (hn : Hid (l.length = n)) (hn1 : n ≤ 1000) (f : Nat → Ic) (B : Option Addr) (cb : Nat) (L : Option Addr) (cl : Nat) (w : World)
  (h5 : Hid (∀ k, k < l.length → ∃ b o, L = some ⟨b, o, none⟩ ∧ Four w b (o + k * 4) (f k))) (hsm : Hid ((enc (.lst l)).length ≤ 16384))
  (ih : ∀ k, k < l.length → ∀ u, Below w.heap.size w u → Calls Tryz.prog 145 #[(f k).val] u (zi .u8 5 (enc (l.getD k default)) u)) :
  Calls Tryz.prog 145 #[.agg #[.int .i64 3, .int .i64 0, .slice B 0 cb, .slice L n cl]] w (zi .u8 5 (enc (.lst l)) w) := by
 have NF := aa ih
 clear ih
 obtain ⟨i0, hi, hz0, hz1, hz2⟩ := info_parts dO
 obtain ⟨W, hW⟩ : ∃ W, w.alloc (.cells #[.int .i64 3, .int .i64 0, .slice B 0 cb, .slice L n cl] 117) = W := ⟨_, rfl⟩
 have bQ : Hid (Below w.heap.size w W) := aa (by rw [← hW]; exact af _ _)
 have HF : Hid (Four W w.heap.size 0 ⟨3, 0, B, 0, cb, L, n, cl⟩) := aa (by rw [← hW]; exact gJ w ⟨3, 0, B, 0, cb, L, n, cl⟩)
 obtain ⟨c0, c1, c2, c3⟩ := HF.out.get
 have c3b : (W.alloc (.cells #[.int .u8 3] 5)).cell? ⟨w.heap.size, 0 + 3, none⟩ = some (.slice L n cl) := cell_below c3 (af _ _)
 rw [Nat.zero_add] at c3b
 have HO : Hid (aQ .u8 5 (W.alloc (.cells #[.int .u8 3] 5)) W.heap.size (.slice (some ⟨W.heap.size, 0, none⟩) 1 1) [3]) := aa (uD W 3)
 have U9 := aa (af W (.cells #[.int .u8 3] 5))
 have HW := aa hW
 have u1 : IntKind.u64.wrap (n : Int) = (n : Int) := by simp [IntKind.wrap, IntKind.bits, IntKind.signed]; omega
 clear hW
 go_in
 go_upto_region 1 with (fail)
 rw [HW.out]
 go_wp2_with fail
 refine (vF n (by omega) (by omega) _).mono ?_
 rintro e w3 ⟨g3, mV, rfl, hs3, hb3⟩
 have lU := aa (HO.out.keep hb3)
 have HB3 := aa (ag U9.out hb3)
 have Qd := aa hs3
 have hz3 := HB3.out.size
 have hrow := lU.out.row (n := 1) rfl
 clear hb3 hs3 c0 c1 c3b c2 c3
 go_wp2_with (at_builtin; refine wpList_append_own _ rfl _ _ 114 rfl (W.heap.size) 5 i0 (.int .u8 0) 1 1 Tryz.underlying114 hi hz0 hz1 hz2 rfl (by decide) (.slice (some ⟨W.heap.size, 0, none⟩) 1 1) (1) ([.int .u8 3]) rfl (hrow) ⟨g3, 0, none⟩ 4 mV ((p9 4 (n : Int)).map (.int .u8)) rfl (by simp [iN, dV, fH]) (Qd.out.news) (ints_oneCell .u8 _) (by unfold maxLen; omega) (by omega) (by omega) ?_; intro v4 w4 sD pM _)
 have xV : Hid (aQ .u8 5 w4 W.heap.size v4 (3 :: ug (n : Int) ++ eZ (l.take 0))) := aa (by rw [List.take_zero]; simpa [eZ] using aQ.app (xs := [3]) (ys := ug (n : Int)) (m := 4) rfl rfl sD)
 have jF : Hid (Below W.heap.size W w4) := aa (lU.out.below0 HB3.out hz3 pM)
 have hle := bQ.out.size
 clear sD pM hrow lU HB3 Qd HO U9
 go_loopw [3, 4] (fun p i u => ∃ k : Nat, k ≤ n ∧ i = .int .i64 k ∧ Hid (aQ .u8 5 u W.heap.size p (3 :: ug (n : Int) ++ eZ (l.take k))) ∧ Hid (Below W.heap.size W u)) (fun _ i _ => n - (intOf i).toNat)
 case atStart => exact ⟨0, by omega, rfl, xV, jF⟩
 case round =>
  obtain ⟨k, hk, rfl, YL, au⟩ := hrel
  obtain ⟨c0, c1, c2, c3⟩ := (HF.out.below au.out).get
  by_cases hlk : k < n
  ·
   have hkl : k < l.length := by rw [hn.out]; exact hlk
   obtain ⟨b, o, hL, h4⟩ := h5.out k hkl
   subst hL
   have hbw := ag bQ.out au.out
   have hle2 : (3 :: ug (n : Int) ++ eZ (l.take k)).length + (enc (l.getD k default)).length ≤ 16384 := by
    have h := hsm.out
    have t1 := oG hkl
    have t2 := pV (l := l) (k := k + 1)
    rw [t1, List.length_append] at t2
    rw [eH, List.length_cons, List.length_append, dV] at h
    rw [List.length_append, List.length_cons, dV]
    omega
   have hstep := oG hkl
   have hpos := nD (l.getD k default)
   obtain ⟨ic, hic⟩ : ∃ x, f k = x := ⟨_, rfl⟩
   obtain ⟨kd, nn, B', nb, cb', L', nl, cl'⟩ := ic
   have tQ := NF.out k hkl wr hbw
   rw [hic] at h4 tQ
   obtain ⟨et, het⟩ : ∃ x, enc (l.getD k default) = x := ⟨_, rfl⟩
   rw [het] at tQ hle2 hstep hpos
   have HC : Hid (Calls Tryz.prog 145 #[.agg #[.int .i64 kd, .int .i64 nn, .slice B' nb cb', .slice L' nl cl']] wr (zi .u8 5 et wr)) := aa tQ
   obtain ⟨VY, VX, VW, VV⟩ := (h4.below hbw).get
   have HST := aa hstep
   obtain ⟨m, hm⟩ : ∃ m, et.length = m := ⟨_, rfl⟩
   obtain ⟨N, hN⟩ : ∃ N, (3 :: ug (n : Int) ++ eZ (l.take k)).length = N := ⟨_, rfl⟩
   rw [hm] at hle2 hpos
   rw [hN] at hle2
   have HM := aa hm
   have NU := aa hN
   clear hkl h4 hbw hic tQ het hstep hm hN
   go_wp2_with fail
   refine HC.out.mono ?_
   rintro e w5 ⟨v5, rfl, ho5, hb5⟩
   obtain ⟨g5, cap5, e5, hg5, -, -, BG⟩ := ho5.cells (by rw [HM.out]; exact hpos)
   rw [HM.out] at e5
   subst e5
   have vS := aa (YL.out.keep hb5)
   have l8 := aa (ag au.out hb5)
   have HS5 := aa BG
   have hrow := vS.out.row NU.out
   have hz5 := l8.out.size
   clear BG ho5 hb5 HC VY VX VW VV c0 c1 c2 c3 YL
   go_wp2_with (at_builtin; refine wpList_append_own _ rfl _ _ 114 rfl (W.heap.size) 5 i0 (.int .u8 0) 1 1 Tryz.underlying114 hi hz0 hz1 hz2 rfl (by decide) (u3) (N) ((3 :: ug (n : Int) ++ eZ (l.take k)).map (.int .u8)) rfl (hrow) ⟨g5, 0, none⟩ m cap5 (et.map (.int .u8)) rfl (by simp [HM.out]) (HS5.out.news) (ints_oneCell .u8 _) (by unfold maxLen; omega) (by omega) (by omega) ?_; intro v6 w6 hown6 Mo _)
   have CE : Hid (aQ .u8 5 w6 W.heap.size v6 (3 :: ug (n : Int) ++ eZ (l.take (k + 1)))) := aa (by
    rw [HST.out, ← List.append_assoc]
    exact aQ.app NU.out.symm HM.out.symm hown6)
   have sN : Hid (Below W.heap.size W w6) := aa (vS.out.below0 l8.out hz5 Mo)
   clear hown6 Mo hrow vS l8 HS5
   go_roundw
   case rel => exact ⟨k + 1, by omega, by go_num, CE, sN⟩
   case measure => simp [intOf]; omega
  ·
   have U6 : Hid (aQ .u8 5 wr W.heap.size u3 (enc (.lst l))) := aa (by
    have h := YL.out
    rw [show k = l.length by rw [hn.out]; omega, List.take_length] at h
    rw [eH, hn.out]
    exact h)
   have hbf := ag bQ.out au.out
   clear YL
   go_wp2
   go_ret
   exact ⟨_, rfl, U6.out.mono hle, hbf⟩
theorem uz : ∀ (d : Nat) (i : It) (c : Ic) (w : World), fits d i → nO w i c → (enc i).length ≤ 16384 → Calls Tryz.prog 145 #[c.val] w (zi .u8 5 (enc i) w) := by
 intro d
 induction d with
 | zero =>
  intro i c w hf hr hl
  obtain ⟨kd, nn, B, nb, cb, L, nl, cl⟩ := c
  cases hr with
  | int n _ h1 h2 h3 h4 =>
   dsimp only at h1 h2 h3 h4
   subst h1; subst h2; subst h3; subst h4
   exact Dk nn hf.1 hf.2 B cb L cl w
  | byt b _ h1 h2 h3 h4 h5 =>
   dsimp only at h1 h2 h3 h4 h5
   subst h1; subst h2; subst h4; subst h3
   obtain ⟨b', o', rfl, _⟩ := h5.at0 hf.1.1
   exact Dl b b.length (aa rfl) hf.1.1 hf.1.2 b' o' cb L cl w (aa h5)
  | lst l _ h1 h2 h3 h4 f h5 h6 => exact absurd hf (by simp [fits])
 | succ d ih =>
  intro i c w hf hr hl
  obtain ⟨kd, nn, B, nb, cb, L, nl, cl⟩ := c
  cases hr with
  | int n _ h1 h2 h3 h4 =>
   dsimp only at h1 h2 h3 h4
   subst h1; subst h2; subst h3; subst h4
   exact Dk nn hf.1 hf.2 B cb L cl w
  | byt b _ h1 h2 h3 h4 h5 =>
   dsimp only at h1 h2 h3 h4 h5
   subst h1; subst h2; subst h4; subst h3
   obtain ⟨b', o', rfl, _⟩ := h5.at0 hf.1.1
   exact Dl b b.length (aa rfl) hf.1.1 hf.1.2 b' o' cb L cl w (aa h5)
  | lst l _ h1 h2 h3 h4 f h5 h6 =>
   dsimp only at h1 h2 h3 h4 h5
   subst h1; subst h2; subst h3; subst h4
   refine La l l.length (aa rfl) hf.1 f B cb L cl w (aa h5) (aa hl) ?_
   intro k hk u hu
   refine ih _ (f k) u (hf.2 _ (by rw [List.getD_eq_getElem?_getD, List.getElem?_eq_getElem hk]; exact List.getElem_mem hk)) ((h6 k hk).kept hu) ?_
   have t1 := oG hk
   have t2 := pV (l := l) (k := k + 1)
   rw [t1, List.length_append] at t2
   rw [eH, List.length_cons, List.length_append, dV] at hl
   omega
def kJ (x : Int) : Bool := decide (x < 33) || decide (126 < x)
def gI (l : List Int) : Bool := decide (1 ≤ l.length) && decide (l.length ≤ 24) && !(l.any kJ)
theorem Ex (x : Int) (w : World) : Calls Tryz.prog 271 #[.int .u8 x] w fun e w' => e = .returned (.bool (kJ x)) ∧ w = w' := by
 by_cases h1 : x < 33
 ·
  have e : kJ x = true := by simp [kJ, h1]
  have d1 : decide (x < 33) = true := by simp [h1]
  rw [e]
  clear e
  go_in
  go_wp2
  go_ret
  exact ⟨rfl, rfl⟩
 ·
  have d1 : decide (x < 33) = false := by simp [h1]
  have e : kJ x = decide (126 < x) := by simp [kJ, h1]
  rw [e]
  clear e
  go_in
  go_wp2
  go_ret
  exact ⟨rfl, rfl⟩
theorem Pj (A : Option Addr) (xs : List Int) (n c : Nat) (hn : Hid (xs.length = n)) (hbig : n ≤ 100000) (w : World) (hs : Hid (Sk .u8 w A xs)) :
  Calls Tryz.prog 273 #[.slice A n c, .func (.func 271) #[] #[]] w (Ca kJ xs w) := by
 go_in
 go_wp2
 go_loopw [8] (fun i wr => ∃ k : Nat, k ≤ n ∧ i = .int .i64 k ∧ Hid (xs.any kJ = (xs.drop k).any kJ) ∧ Hid (Below w.heap.size w wr)) (fun i _ => n - (intOf i).toNat)
 case atStart => exact ⟨0, by omega, rfl, aa rfl, aa (Below.refl _ _)⟩
 case round =>
  obtain ⟨k, hk, rfl, HR, au⟩ := hrel
  by_cases hlt : k < n
  ·
   have hkl : k < xs.length := by rw [hn.out]; exact hlt
   obtain ⟨b, o, hA, hi⟩ := (hs.out.below au.out) k hkl
   subst hA
   cases hpx : kJ (xs.getD k 0) with
   | false =>
    have HN : Hid (xs.any kJ = (xs.drop (k + 1)).any kJ) := aa (HR.out.trans (iW hkl hpx))
    obtain ⟨x, hx⟩ : ∃ x, xs.getD k 0 = x := ⟨_, rfl⟩
    rw [hx] at hi hpx
    have zl := aa hpx
    clear hx hkl hpx HR
    go_wp2_with fail
    refine (Ex x _).mono ?_
    rintro e w2 ⟨rfl, rfl⟩
    rw [zl.out]
    go_wp2
    go_roundw
    case rel => exact ⟨k + 1, by omega, by go_num, HN, au⟩
    case measure => simp [intOf]; omega
   | true =>
    have HN : Hid (xs.any kJ = true) := aa (HR.out.trans (iO hkl hpx))
    obtain ⟨x, hx⟩ : ∃ x, xs.getD k 0 = x := ⟨_, rfl⟩
    rw [hx] at hi hpx
    have zl := aa hpx
    clear hx hkl hpx HR
    go_wp2_with fail
    refine (Ex x _).mono ?_
    rintro e w2 ⟨rfl, rfl⟩
    rw [zl.out]
    go_wp2
    go_ret
    exact ⟨_, rfl, by rw [HN.out]; simp, au.out⟩
  ·
   have HN : Hid (xs.any kJ = false) := aa (by
    have h := HR.out
    rwa [List.drop_of_length_le (by have := hn.out; omega)] at h)
   clear HR
   go_wp2
   go_ret
   exact ⟨_, rfl, by rw [HN.out]; rfl, au.out⟩
theorem TD (A : Option Addr) (xs : List Int) (n c : Nat) (r : Bool) (hr : Hid (xs.any kJ = r)) (hn : Hid (xs.length = n)) (hbig : n ≤ 100000) (w : World) (hs : Hid (Sk .u8 w A xs)) :
  Calls Tryz.prog 270 #[.slice A n c, .func (.func 271) #[] #[]] w (Rt w (.bool r)) := by
 go_in
 go_wp2_with fail
 refine (Pj A xs n c hn hbig _ hs).mono ?_
 rintro e w' ⟨i, rfl, hdi, hb0⟩
 have HD : Hid (decide (0 ≤ i) = r) := aa (hdi.trans hr.out)
 clear hdi
 go_wp2
 go_ret
 exact ⟨by first | rfl | (rw [← HD.out]; rfl), hb0⟩
theorem o7 (s : ByteArray) (hs : s.size ≤ 1000) (r : Bool) (hr : Hid (gI (aU s) = r)) (w : World) :
  Calls Tryz.prog 260 #[.string s] w (Rt w (.bool r)) := by
 by_cases h1 : s.size < 1
 ·
  have e : r = false := by rw [← hr.out, gI, bz, decide_eq_false (by omega)]; rfl
  have d1 : decide ((1 : Int) ≤ (s.size : Int)) = false := by simp; omega
  subst e
  clear hr
  go_in
  go_wp2
  go_ret
  exact ⟨rfl, Below.refl _ _⟩
 ·
  have d1 : decide ((1 : Int) ≤ (s.size : Int)) = true := by simp; omega
  by_cases h2 : 24 < s.size
  ·
   have e : r = false := by rw [← hr.out, gI, bz, decide_eq_false (show ¬ s.size ≤ 24 by omega)]; simp
   have d2 : decide ((s.size : Int) ≤ 24) = false := by simp; omega
   subst e
   clear hr
   go_in
   go_wp2
   go_ret
   exact ⟨rfl, Below.refl _ _⟩
  ·
   have d2 : decide ((s.size : Int) ≤ 24) = true := by simp; omega
   obtain ⟨q, hq⟩ : ∃ q, (aU s).any kJ = q := ⟨_, rfl⟩
   have e : r = !q := by rw [← hr.out, gI, bz, decide_eq_true (by omega), decide_eq_true (by omega), hq]; rfl
   subst e
   have HQ := aa hq
   have hcv := fun w => run_bytes_of_string (P := Tryz.prog) w 9 114 5 s Tryz.underlying9 Tryz.underlying114 Tryz.underlying5
   clear hr hq
   go_in
   go_wp2_with fail
   clear hcv
   obtain ⟨Wc, hWc⟩ : ∃ u, (w.alloc (.cells (bytesRow s (grownCap w s.size 0 5)) 5 ((bytesRow s (grownCap w s.size 0 5)).size, (bytesRow s (grownCap w s.size 0 5)).size + 1))).drew = u := ⟨_, rfl⟩
   have sM : Hid (Below w.heap.size w Wc) := aa (by rw [← hWc]; exact (af _ _).drew)
   have HSc : Hid (Sk .u8 Wc (some ⟨w.heap.size, 0, none⟩) (aU s)) := aa (by
    rw [← hWc]
    exact lu (heap_alloc_new w _))
   obtain ⟨gc, hgc⟩ : ∃ g, grownCap w s.size 0 5 = g := ⟨_, rfl⟩
   rw [hWc, hgc]
   clear hWc hgc
   refine (TD (some ⟨w.heap.size, 0, none⟩) (aU s) s.size gc q HQ (aa (bz s)) (by omega) _ HSc).mono ?_
   rintro e w2 ⟨rfl, hb2⟩
   have hbf := ag sM.out hb2
   clear hb2
   go_wp2
   go_ret
   exact ⟨by first | rfl | simp, hbf⟩
theorem PO {s : ByteArray} {k : Nat} (h : k < s.size) : (aU s).getD k 0 = ((s[k]'h).toNat : Int) := by
 have h2 : k < s.data.toList.length := by simpa using h
 rw [aU, List.getD_eq_getElem?_getD, List.getElem?_map, List.getElem?_eq_getElem h2]
 rfl
theorem pE (s : ByteArray) (hs : s.size ≤ 1000) (r : Bool) (hr : Hid (gI (aU s) = r)) (w : World) :
  Calls Tryz.prog 206 #[.string s] w fun e w' => e = .returned (.bool r) ∧ w = w' := by
 by_cases h1 : s.size < 1
 ·
  have e : r = false := by rw [← hr.out, gI, bz, decide_eq_false (by omega)]; rfl
  have d1 : decide ((s.size : Int) < 1) = true := by simp; omega
  subst e
  clear hr
  go_in
  go_wp2
  go_ret
  exact ⟨rfl, rfl⟩
 ·
  have d1 : decide ((s.size : Int) < 1) = false := by simp; omega
  by_cases h2 : 24 < s.size
  ·
   have e : r = false := by rw [← hr.out, gI, bz, decide_eq_false (show ¬ s.size ≤ 24 by omega)]; simp
   have d2 : decide ((24 : Int) < (s.size : Int)) = true := by simp; omega
   subst e
   clear hr
   go_in
   go_wp2
   go_ret
   exact ⟨rfl, rfl⟩
  ·
   have d2 : decide ((24 : Int) < (s.size : Int)) = false := by simp; omega
   have HE : Hid (r = !((aU s).any kJ)) := aa (by rw [← hr.out, gI, bz, decide_eq_true (by omega), decide_eq_true (by omega)]; rfl)
   clear hr
   go_in
   go_wp2
   go_loop [3] (fun i => ∃ k : Nat, k ≤ s.size ∧ i = .int .i64 k ∧ Hid ((aU s).any kJ = ((aU s).drop k).any kJ)) (fun i => s.size - (intOf i).toNat)
   case atStart => exact ⟨0, by omega, rfl, aa rfl⟩
   case round =>
    obtain ⟨k, hk, rfl, HR⟩ := hrel
    by_cases hlt : k < s.size
    ·
     have hkl : k < (aU s).length := by rw [bz]; exact hlt
     have hg := PO hlt
     by_cases t1 : ((s[k]'hlt).toNat : Int) < 33
     ·
      have hN : (aU s).any kJ = true := HR.out.trans (iO hkl (by rw [hg]; simp [kJ, t1]))
      have e : r = false := by rw [HE.out, hN]; rfl
      have d3 : decide (((s[k]'hlt).toNat : Int) < 33) = true := by simp [t1]
      subst e
      clear hN hg hkl HR HE
      go_wp2
      go_ret
      exact ⟨rfl, rfl⟩
     ·
      have d3 : decide (((s[k]'hlt).toNat : Int) < 33) = false := by simp [t1]
      by_cases t2 : (126 : Int) < ((s[k]'hlt).toNat : Int)
      ·
       have hN : (aU s).any kJ = true := HR.out.trans (iO hkl (by rw [hg]; simp [kJ, t1, t2]))
       have e : r = false := by rw [HE.out, hN]; rfl
       have d4 : decide ((126 : Int) < ((s[k]'hlt).toNat : Int)) = true := by simp [t2]
       subst e
       clear hN hg hkl HR HE
       go_wp2
       go_ret
       exact ⟨rfl, rfl⟩
      ·
       have HN : Hid ((aU s).any kJ = ((aU s).drop (k + 1)).any kJ) := aa (HR.out.trans (iW hkl (by rw [hg]; simp [kJ, t1, t2])))
       have d4 : decide ((126 : Int) < ((s[k]'hlt).toNat : Int)) = false := by simp [t2]
       clear hg hkl HR
       go_wp2
       go_round
       case rel => exact ⟨k + 1, by omega, by go_num, HN⟩
       case measure => simp [intOf]; omega
    ·
     have e : r = true := by
      rw [HE.out, HR.out, List.drop_of_length_le (by rw [bz]; omega)]; rfl
     subst e
     clear HR HE
     go_wp2
     go_ret
     exact ⟨rfl, rfl⟩
theorem GR : (Tryz.prog.info? 209).map (fun i => (i.zero, i.size, i.bytes)) = some (some (.int .u32 0), 1, 4) := by kernel_rfl
theorem Fe (b o cap : Nat) (blk : List Int) (hlen : Hid (blk.length = 64)) (hby : Hid (az blk = true)) (w : World) (hs : Hid (Sk .u8 w (some ⟨b, o, none⟩) blk)) (hcap : 64 ≤ cap) :
  Calls Tryz.prog 213 #[.slice (some ⟨b, o, none⟩) 64 cap] w (zi .u32 209 (dL blk) w) := by
 obtain ⟨i0, hi, hz0, hz1, hz2⟩ := info_parts GR
 go_in
 go_wp2
 go_loopw [3, 4] (fun v i u => ∃ k : Nat, k ≤ 16 ∧ i = .int .i64 k ∧ Hid (aQ .u32 209 u w.heap.size v (dA blk k)) ∧ Hid (Below w.heap.size w u)) (fun _ i _ => 16 - (intOf i).toNat)
 case atStart => exact ⟨0, by omega, rfl, aa (qM _ _), aa (Below.refl _ _)⟩
 case round =>
  obtain ⟨k, hk, rfl, HO, au⟩ := hrel
  by_cases hlt : k < 16
  ·
   go_wp2
   go_loopw [5, 6] (fun p j u => ∃ (m : Nat) (x : Int), m ≤ 4 ∧ j = .int .i64 m ∧ p = .int .u32 x ∧ Hid (part blk k m = x) ∧ 0 ≤ x ∧ Hid (aQ .u32 209 u w.heap.size u3 (dA blk k)) ∧ Hid (Below w.heap.size w u)) (fun _ j _ => 4 - (intOf j).toNat)
   case atStart => exact ⟨0, 0, by omega, rfl, rfl, aa rfl, by omega, HO, au⟩
   case round =>
    obtain ⟨m, x, hm, rfl, rfl, HX, x0, YK, l6⟩ := hrel
    by_cases hlm : m < 4
    ·
     have hc1 := (hs.out.below l6.out).cell (j := 4 * k + m) (by have := hlen.out; omega)
     obtain ⟨c0, c1⟩ := iH hby.out (4 * k + m)
     have hpn : part blk k (m + 1) = part blk k m * 256 + blk.getD (4 * k + m) 0 := rfl
     have x1 := G8 hby.out k m (by omega)
     rw [HX.out] at hpn x1
     obtain ⟨c, hcc⟩ : ∃ c, blk.getD (4 * k + m) 0 = c := ⟨_, rfl⟩
     rw [hcc] at hc1 c0 c1 hpn
     have zz := aa hpn
     have j2 : (4 * (k : Int) + m).toNat = 4 * k + m := by omega
     clear hcc hpn
     go_wp2
     go_roundw
     case rel => exact ⟨m + 1, _, by omega, by go_num, rfl, zz, by omega, YK, l6⟩
     case measure => simp [intOf]; omega
    ·
     have HW1 : Hid (dA blk (k + 1) = dA blk k ++ [x]) := aa (by rw [vU, ← Qw, ← HX.out, show m = 4 by omega])
     have qB : Hid ((dA blk k).length = k) := aa (eT _ _)
     have hown := YK.out.row qB.out
     have hbs := l6.out.size
     clear HX
     go_wp2_with (at_builtin; refine wpList_append_own _ rfl _ _ 176 rfl w.heap.size 209 i0 (.int .u32 0) 1 4 Tryz.underlying176 hi hz0 hz1 hz2 rfl (by decide) _ _ _ rfl (hown.alloc _) ⟨wr.heap.size, 0, none⟩ 1 1 [.int .u32 x] rfl rfl (cell_one_new _ _ _) (ints_oneCell .u32 [x]) (by unfold maxLen; omega) (by omega) (by simp; omega) ?_; intro v2 w2 hown2 hgrow2 _)
     have lU : Hid (aQ .u32 209 w2 w.heap.size v2 (dA blk (k + 1))) := aa (by
      rw [HW1.out]
      exact aQ.app qB.out.symm rfl hown2)
     have qd : Hid (Below w.heap.size w w2) := aa (YK.out.below l6.out hbs hgrow2)
     clear hown hown2 hgrow2 YK
     go_roundw
     case rel => exact ⟨k + 1, by omega, by go_num, lU, qd⟩
     case measure => simp [intOf]; omega
  ·
   obtain rfl : k = 16 := by omega
   obtain ⟨g1, qZ, e1, hg1, _, _, _⟩ := HO.out.cells (by rw [eT]; decide)
   rw [eT] at e1
   subst e1
   have aaM : Hid (aQ .u32 209 wr w.heap.size (.slice (some ⟨g1, 0, none⟩) 16 qZ) (l9 (16 - 16) (dA blk 16))) := aa (by rw [show 16 - 16 = 0 from rfl, l9]; exact HO.out)
   clear HO hlt
   go_wp2
   rw [show (((16 : Nat) : Int)) = 16 from rfl]
   go_loopw [3, 7] (fun v i u => ∃ (t g cp : Nat), 16 ≤ t ∧ t ≤ 64 ∧ i = .int .i64 t ∧ v = .slice (some ⟨g, 0, none⟩) t cp ∧ Hid (aQ .u32 209 u w.heap.size v (l9 (t - 16) (dA blk 16))) ∧ Hid (Below w.heap.size w u)) (fun _ i _ => 64 - (intOf i).toNat)
   case atStart => exact ⟨16, g1, qZ, by omega, by omega, rfl, rfl, aaM, au⟩
   case round =>
    obtain ⟨t, g, cp, ht0, ht, rfl, rfl, HO, l6⟩ := hrel
    by_cases hlt : t < 64
    ·
     obtain ⟨L, hL⟩ : ∃ L, l9 (t - 16) (dA blk 16) = L := ⟨_, rfl⟩
     have hLn : L.length = t := by rw [← hL, yo, eT]; omega
     rw [hL] at HO
     have hsk := HO.out.skAt (by omega)
     have Tm := hsk.cell (j := t - 15) (by omega)
     have h2 := hsk.cell (j := t - 2) (by omega)
     have h16 := hsk.cell (j := t - 16) (by omega)
     have h7 := hsk.cell (j := t - 7) (by omega)
     have adb := hsk.lt (by omega)
     rw [Nat.zero_add] at Tm h2 h16 h7
     have hnx : l9 (t + 1 - 16) (dA blk 16) = L ++ [add32 (add32 (add32 (L.getD (t - 16) 0) (Rn (L.getD (t - 15) 0))) (L.getD (t - 7) 0)) (Rm (L.getD (t - 2) 0))] := by
      rw [show t + 1 - 16 = (t - 16) + 1 by omega, l9, hL, Kj, hLn]
     obtain ⟨IJ, e15⟩ : ∃ x, L.getD (t - 15) 0 = x := ⟨_, rfl⟩
     obtain ⟨x2, e2⟩ : ∃ x, L.getD (t - 2) 0 = x := ⟨_, rfl⟩
     obtain ⟨UQ, e16⟩ : ∃ x, L.getD (t - 16) 0 = x := ⟨_, rfl⟩
     obtain ⟨x7, e7⟩ : ∃ x, L.getD (t - 7) 0 = x := ⟨_, rfl⟩
     rw [e15] at Tm hnx
     rw [e2] at h2 hnx
     rw [e16] at h16 hnx
     rw [e7] at h7 hnx
     have EW := aa hnx
     have qB := aa hLn
     have H16 := aa h16
     have H7 := aa h7
     have i15 : ((t : Int) - 15).toNat = t - 15 := by omega
     have i2 : ((t : Int) - 2).toNat = t - 2 := by omega
     have i16 : ((t : Int) - 16).toNat = t - 16 := by omega
     have i7 : ((t : Int) - 7).toNat = t - 7 := by omega
     have j15 : (0 : Int) ≤ (t : Int) - 15 := by omega
     have j2 : (0 : Int) ≤ (t : Int) - 2 := by omega
     have j16 : (0 : Int) ≤ (t : Int) - 16 := by omega
     have j7 : (0 : Int) ≤ (t : Int) - 7 := by omega
     clear hnx e15 e2 e16 e7 hL hLn hsk h16 h7
     go_wp2
     go_quiet (fail)
     have nW := aa (ay (Below.refl wr.heap.size wr) nq)
     obtain ⟨w2, hw2⟩ : ∃ u, wr.drewN nq = u := ⟨_, rfl⟩
     rw [hw2] at nW ⊢
     clear hw2 Tm h2
     go_wp2_with fail
     refine (oh IJ 7 7 rfl (by decide) (by decide) _).mono ?_
     rintro e w3 ⟨rfl, nk, rfl⟩
     have tX := aa (ay nW.out nk)
     obtain ⟨w3, hw3⟩ : ∃ u, w2.drewN nk = u := ⟨_, rfl⟩
     rw [hw3] at tX ⊢
     clear hw3 nW
     have nW := tX
     clear tX
     obtain ⟨w2, hw2⟩ : ∃ u, w3 = u := ⟨_, rfl⟩
     rw [hw2] at nW ⊢
     clear hw2
     go_wp2_with fail
     refine (oh IJ 18 18 rfl (by decide) (by decide) _).mono ?_
     rintro e w3 ⟨rfl, nk, rfl⟩
     have tX := aa (ay nW.out nk)
     obtain ⟨w3, hw3⟩ : ∃ u, w2.drewN nk = u := ⟨_, rfl⟩
     rw [hw3] at tX ⊢
     clear hw3 nW
     have nW := tX
     clear tX
     obtain ⟨w2, hw2⟩ : ∃ u, w3 = u := ⟨_, rfl⟩
     rw [hw2] at nW ⊢
     clear hw2
     go_wp2_with fail
     refine (oh x2 17 17 rfl (by decide) (by decide) _).mono ?_
     rintro e w3 ⟨rfl, nk, rfl⟩
     have tX := aa (ay nW.out nk)
     obtain ⟨w3, hw3⟩ : ∃ u, w2.drewN nk = u := ⟨_, rfl⟩
     rw [hw3] at tX ⊢
     clear hw3 nW
     have nW := tX
     clear tX
     obtain ⟨w2, hw2⟩ : ∃ u, w3 = u := ⟨_, rfl⟩
     rw [hw2] at nW ⊢
     clear hw2
     go_wp2_with fail
     refine (oh x2 19 19 rfl (by decide) (by decide) _).mono ?_
     rintro e w3 ⟨rfl, nk, rfl⟩
     have tX := aa (ay nW.out nk)
     obtain ⟨w3, hw3⟩ : ∃ u, w2.drewN nk = u := ⟨_, rfl⟩
     rw [hw3] at tX ⊢
     clear hw3 nW
     have nW := tX
     clear tX
     obtain ⟨w2, hw2⟩ : ∃ u, w3 = u := ⟨_, rfl⟩
     rw [hw2] at nW ⊢
     clear hw2
     obtain ⟨r7, SI⟩ : ∃ r, iA IJ 7 = r := ⟨_, rfl⟩
     obtain ⟨Y6, FU⟩ : ∃ r, iA IJ 18 = r := ⟨_, rfl⟩
     obtain ⟨Y7, FV⟩ : ∃ r, iA x2 17 = r := ⟨_, rfl⟩
     obtain ⟨Y5, FR⟩ : ∃ r, iA x2 19 = r := ⟨_, rfl⟩
     rw [SI, FU, FV, FR]
     obtain ⟨s0, hs0⟩ : ∃ r, bits .xor .u32 (bits .xor .u32 r7 Y6) (IJ / 8) = r := ⟨_, rfl⟩
     obtain ⟨s1, hs1⟩ : ∃ r, bits .xor .u32 (bits .xor .u32 Y7 Y5) (x2 / 1024) = r := ⟨_, rfl⟩
     have YZ : Hid (Rn IJ = s0) := aa (by rw [Rn, SI, FU, hs0])
     have YY : Hid (Rm x2 = s1) := aa (by rw [Rm, FV, FR, hs1])
     clear SI FU FV FR
     go_wp2
     clear hs0 hs1
     obtain ⟨V, hV⟩ : ∃ V, IntKind.u32.wrap (IntKind.u32.wrap (IntKind.u32.wrap (UQ + s0) + x7) + s1) = V := ⟨_, rfl⟩
     have HV := aa hV
     have HN : Hid (l9 (t + 1 - 16) (dA blk 16) = L ++ [V]) := aa (by
      rw [EW.out, YZ.out, YY.out, ← hV]
      rfl)
     have xV := aa ((HO.out.keep nW.out))
     have jF := aa (ag l6.out nW.out)
     have xU : Hid (w2.cell? ⟨g, t - 16, none⟩ = some (.int .u32 UQ) ∧ w2.cell? ⟨g, t - 7, none⟩ = some (.int .u32 x7)) := aa ⟨cell_below H16.out nW.out, cell_below H7.out nW.out⟩
     have q16 : IntKind.i64.wrap ((t : Int) - 16) = (t : Int) - 16 := IntWalk.i64_in _ (by omega)
     have q7 : IntKind.i64.wrap ((t : Int) - 7) = (t : Int) - 7 := IntWalk.i64_in _ (by omega)
     have k16 : (16 : Int) ≤ (t : Int) := by omega
     have k7 : (7 : Int) ≤ (t : Int) := by omega
     have l16 : (t : Int) - 16 < (t : Int) := by omega
     have l7 : (t : Int) - 7 < (t : Int) := by omega
     clear hV HO l6 H16 H7 EW YZ YY
     refine bD (S := fun w' => w'.cell? ⟨g, t - 16, none⟩ = some (.int .u32 UQ) ∧ w'.cell? ⟨g, t - 7, none⟩ = some (.int .u32 x7)) (E := [17, 18]) (by kernel_rfl) (⟨cell_below xU.out.1 (Below.refl _ _).drew, cell_below xU.out.2 (Below.refl _ _).drew⟩) (fun hHeld => ?_)
     refine bN 0 ?_
     refine bN 1 ?_
     refine bN 2 ?_
     refine bN 3 ?_
     refine bN 4 ?_
     refine bN 5 ?_
     refine bN 6 ?_
     refine bN 7 ?_
     refine bN 8 ?_
     refine bN 9 ?_
     refine bN 10 ?_
     refine bN 11 ?_
     refine bN 12 ?_
     refine bN 13 ?_
     refine bN 14 ?_
     refine bN 15 ?_
     refine bW 16 fun K hK => ?_
     go_simp
     refine hK.out _ _ ?_ (fun hHeld => ?_)
     ·
      rw [HV.out]
      exact ⟨cell_below xU.out.1 (af _ _).drew, cell_below xU.out.2 (af _ _).drew⟩
     clear hK K
     try simp only [qq]
     refine mR 17 fun K hK => ?_
     try rw [HV.out]
     have Mg := (xV.out.keep ((af w2 (.cells #[.int .u32 V] 209)).drew)).row qB.out
     have hbs := jF.out.size
     refine step_append_lies _ (by rfl) _ _ _ (by rfl) (w.heap.size) 209 i0 _ 1 4 Tryz.underlying176 hi hz0 hz1 hz2 rfl (by omega) (.slice (some ⟨g, 0, none⟩) t cp) t (L.map (.int .u32)) (by rfl) Mg ⟨w2.heap.size, 0, none⟩ 1 1 [.int .u32 V] (by rfl) (by rfl) (World.news_of_block (cs := #[.int .u32 V]) (t := 209) (fr := (0, 0)) (heap_alloc_new w2 _)) (by simp [Value.oneCell']) (by omega) (by unfold maxLen; omega) (by omega) (by simp; omega) (w2.heap.size + 1) (by simp) ?_
     intro g5 cap5 w5 hown5 pK Tc SV
     refine hK.out _ _ ?_
     clear hK K
     try simp only [qq]
     refine mR 18 fun K hK => ?_
     go_simp
     refine hK.out _ _ ?_
     clear hK K
     try simp only [qq]
     refine gz ?_
     have vS : Hid (aQ .u32 209 w5 w.heap.size (.slice (some ⟨g5, 0, none⟩) (t + 1) cap5) (l9 (t + 1 - 16) (dA blk 16))) := aa (by
      rw [HN.out]
      exact aQ.app qB.out.symm rfl hown5)
     have l8 : Hid (Below w.heap.size w w5) := aa (Below.grown (ag jF.out (af _ _).drew) pK (by have := jF.out.size; simp; omega) (fun j hj => (World.ownsRow.lt Mg j hj).1))
     clear hown5 pK Mg xV HN Tc SV xU
     go_wp2
     go_roundw
     case rel => exact ⟨t + 1, g5, cap5, by omega, by omega, by go_num, rfl, vS, l8⟩
     case measure => simp [intOf]; omega
    ·
     have HOf : Hid (aQ .u32 209 wr w.heap.size (.slice (some ⟨g, 0, none⟩) t cp) (dL blk)) := aa (by
      have h := HO.out
      rwa [show t - 16 = 48 by omega, show l9 48 (dA blk 16) = dL blk from rfl] at h)
     clear HO
     go_wp2
     go_ret
     exact ⟨_, rfl, HOf.out, l6.out⟩
theorem Sk.set_ne {K : IntKind} {w : World} {a j : Nat} {A : Option Addr} {l : List Int} {v : Value} (h : Sk K w A l) (hne : ∀ b o, A = some ⟨b, o, none⟩ → b ≠ a) : Sk K (w.setCell ⟨a, j, none⟩ v) A l := fun i hi => by
 obtain ⟨b, o, e, hc⟩ := h i hi
 refine ⟨b, o, e, ?_⟩
 rw [World.cell?_setCell_other _ _ _ _ (fun e2 => hne b o e (by cases e2; rfl))]
 exact hc
theorem Lj (s : St) (i : Nat) (hi : i < 32) : (mG s).getD i 0 = s.list.getD (i / 4) 0 / 2 ^ (24 - 8 * (i % 4)) % 256 := by
 have h := G_ s (i / 4) (by omega) (i % 4) (by omega)
 rwa [show 4 * (i / 4) + i % 4 = i by omega] at h
theorem Rp (e : Int) : bits .xor .u32 (bits .xor .u32 (iA e 2) (iA e 13)) (iA e 22) = Yh e := rfl
theorem Sj (a b c : Int) : bits .xor .u32 (bits .xor .u32 (bits .and .u32 a b) (bits .and .u32 a c)) (bits .and .u32 b c) = Yk a b c := rfl
theorem Vq (a b c : Int) : (Yh a + Yk a b c) % 4294967296 = Vp a b c := rfl
theorem Dg (b o c : Nat) (l : List Int) (n : Nat) (hn : Hid (l.length = n)) (hn0 : 0 < n) (hbig : n ≤ 1000000) (hby : Hid (az l = true)) (w : World) (hs : Hid (Sk .u8 w (some ⟨b, o, none⟩) l)) :
  Calls Tryz.prog 180 #[.slice (some ⟨b, o, none⟩) n c] w (Rt w (.agg (arr .u8 (o_ l)))) := by
 obtain ⟨i0, hi, hz0, hz1, hz2⟩ := info_parts GR
 obtain ⟨W, hW⟩ : ∃ W, w.alloc (.cells z32 41) = W := ⟨_, rfl⟩
 have bQ : Hid (Below w.heap.size w W) := aa (by rw [← hW]; exact af _ _)
 have ek : Hid (bB .u8 41 W w.heap.size (dD 32)) := aa (by
  rw [← hW, iP]
  exact bB.new _ _)
 have lG : Hid (W.heap.size = w.heap.size + 1) := aa (by rw [← hW]; simp)
 obtain ⟨W1, hW1⟩ : ∃ u, W.alloc (.cells #[.int .u32 1779033703, .int .u32 3144134277, .int .u32 1013904242, .int .u32 2773480762, .int .u32 1359893119, .int .u32 2600822924, .int .u32 528734635, .int .u32 1541459225] 209) = u := ⟨_, rfl⟩
 have HB1 : Hid (Below W.heap.size W W1) := aa (by rw [← hW1]; exact af _ _)
 have HH1 : Hid (bB .u32 209 W1 W.heap.size st0.list) := aa (by
  rw [← hW1]
  exact bB.new W st0.list)
 have Xm : Hid (W1.heap.size = W.heap.size + 1) := aa (by rw [← hW1]; simp)
 have HS := aa ((hs.out.below bQ.out).below HB1.out)
 have HW := aa hW
 have HW1 := aa hW1
 clear hW hW1 hs
 go_in
 go_wp2_with fail
 rw [HW.out, HW1.out]
 refine (Fj _).mono ?_
 rintro e w2 ⟨rfl, hw2⟩
 have HB2 : Hid (Below W1.heap.size W1 w2) := aa (by rw [← hw2]; exact af _ _)
 have HK2 : Hid (bB .u32 209 w2 W1.heap.size KL) := aa (by rw [← hw2]; exact bB.new _ _)
 have Xl : Hid (w2.heap.size = W1.heap.size + 1) := aa (by rw [← hw2]; simp)
 clear hw2 HW HW1
 go_wp2_with fail
 refine (Dh b o c l n hn hn0 hbig _ (aa (HS.out.below HB2.out))).mono ?_
 rintro e w3 ⟨vp, rfl, hop, hb3⟩
 obtain ⟨M, hM⟩ : ∃ M, (mU l).length = 64 * M := ⟨(mU l).length / 64, by have := Du l; omega⟩
 have hM2 : 64 * M ≤ n + 200 := by rw [qL, hn.out, kR] at hM; omega
 obtain ⟨gp, WM, e4, hgp, hcap, D6, SH⟩ := hop.cells (by rw [qL]; omega)
 rw [hM] at e4 hcap
 subst e4
 obtain ⟨P, hP⟩ : ∃ P, mU l = P := ⟨_, rfl⟩
 have We : az P = true := by rw [← hP]; exact yM hby.out
 rw [hP] at SH hM
 have HP : Kp (mU l = P) := ⟨hP⟩
 have HM := aa hM
 have HPB := aa We
 have HSP := aa SH
 have HB3 := aa hb3
 have hcm : WM ≤ 9223372036854775807 := by simpa [maxLen] using D6
 have XV := aa ((HH1.out.below HB2.out).below HB3.out)
 have XM := aa (HK2.out.below HB3.out)
 have rY := aa (ag (ag HB1.out HB2.out) HB3.out)
 obtain ⟨bk, hbk⟩ : ∃ g, W1.heap.size = g := ⟨_, rfl⟩
 have ZK : W.heap.size < bk := by have := Xm.out; omega
 have ada : bk < gp := by have := Xl.out; omega
 rw [hbk] at XM ⊢
 obtain ⟨bh, Yn⟩ : ∃ g, w.heap.size + 1 = g := ⟨_, rfl⟩
 rw [lG.out, Yn] at XV ZK
 rw [Yn]
 have HBH : Hid (W.heap.size = bh) := aa (lG.out.trans Yn)
 clear hP hM We SH hb3 hop D6 hbk Yn HB1 HH1 HB2 HK2 HB3 HS
 go_wp2
 go_loopw [6] (fun i u => ∃ (k : Nat), k ≤ M ∧ i = .int .i64 (64 * (k : Int)) ∧ Hid (bB .u32 209 u bh (jZ P k).list) ∧ Hid (bB .u32 209 u bk KL) ∧ Hid (Sk .u8 u (some ⟨gp, 0, none⟩) P) ∧ Hid (Below W.heap.size W u)) (fun i _ => 64 * M - (intOf i).toNat)
 case atStart => exact ⟨0, by omega, by simp, XV, XM, HSP, rY⟩
 case round =>
  obtain ⟨k, hk, rfl, HH, HK, YF, au⟩ := hrel
  by_cases hkM : k < M
  ·
   obtain ⟨⟨xa, xb, xc, xd, xe, xf, xg, xh⟩, hS⟩ : ∃ T, jZ P k = T := ⟨_, rfl⟩
   rw [hS] at HH
   have CB : Kp (jZ P k = ⟨xa, xb, xc, xd, xe, xf, xg, xh⟩) := ⟨hS⟩
   have Qq : Hid ((fG P k).length = 64) := aa (wL (by have := HM.out; omega))
   have IE : Hid (az (fG P k) = true) := aa (sH HPB.out k)
   have HSb : Hid (Sk .u8 wr (some ⟨gp, 64 * k, none⟩) (fG P k)) := aa (by
    have h := (YF.out.drop (n := 64 * k)).take (n := 64)
    rwa [Nat.zero_add] at h)
   have c1 : (64 * (k : Int)).toNat = 64 * k := by omega
   have c2 : (64 * (k : Int) + 64).toNat = 64 * k + 64 := by omega
   clear hS
   go_wp2_with fail
   refine (Fe gp (64 * k) (WM - 64 * k) (fG P k) Qq IE _ HSb (by omega)).mono ?_
   rintro e w4 ⟨vw, rfl, how, hb4⟩
   obtain ⟨gw, adG, rfl, hgw, -, -, SG⟩ := how.cells (by rw [ja]; decide)
   rw [ja]
   obtain ⟨ws, hws⟩ : ∃ l, dL (fG P k) = l := ⟨_, rfl⟩
   have Il : Hid (ws.length = 64) := aa (by rw [← hws, ja])
   have Xb : Kp (dL (fG P k) = ws) := ⟨hws⟩
   rw [hws] at SG
   have EI := aa SG
   have YQ := aa (HH.out.below hb4)
   have HK4 := aa (HK.out.below hb4)
   have Xj := aa (YF.out.below hb4)
   have jF := aa (ag au.out hb4)
   have hbz : bh < w4.heap.size := YQ.out.lt
   clear hws SG how hb4 HH HK YF au HSb Qq IE
   have hown : (w4.alloc (.cells #[] 209)).ownsRow w4.heap.size 209 1 (.slice (some ⟨w4.heap.size, 0, none⟩) 0 0) 0 [] := mE (K := .u32) w4
   go_wp2_with (at_builtin; refine wpList_append_own _ rfl _ _ 176 rfl w4.heap.size 209 i0 (.int .u32 0) 1 4 Tryz.underlying176 hi hz0 hz1 hz2 rfl (by decide) _ _ _ rfl hown ⟨bh, 0, none⟩ 8 8 ((St.mk xa xb xc xd xe xf xg xh).list.map (.int .u32)) rfl rfl ((YQ.out.old (.cells #[] 209)).sk.news) (ints_oneCell .u32 _) (by decide) (by decide) (by simp) ?_; intro v5 w5 hown5 pK _)
   have vS : Hid (aQ .u32 209 w5 w4.heap.size v5 (St.mk xa xb xc xd xe xf xg xh).list) := aa (aQ.app (xs := []) (ys := (St.mk xa xb xc xd xe xf xg xh).list) (m := 8) rfl rfl hown5)
   have JW : Hid (Below w4.heap.size w4 w5) := aa ((af w4 (.cells #[] 209)).grown pK (by simp) (fun j hj => by cases hj; exact Nat.le_refl _))
   have HH5 := aa (YQ.out.keepB hbz JW.out)
   have JP := aa (HK4.out.below JW.out)
   have Xi := aa (Xj.out.below JW.out)
   have Xo := aa (EI.out.below JW.out)
   have l8 := aa (ag jF.out JW.out)
   obtain ⟨g5, cap5, e5, hg5, -, -, BG⟩ := vS.out.cells (show 0 < 8 by decide)
   have e6 : v5 = .slice (some ⟨g5, 0, none⟩) 8 cap5 := e5
   have aaz := aa BG
   have ZE : bh < g5 := by omega
   clear hown hown5 pK vS YQ HK4 Xj jF JW EI e5 BG
   subst e6
   go_loopw [8, 9] (fun v i u => ∃ (t g cp : Nat) (ya yb yc yd ye yf yg yh : Int), t ≤ 64 ∧ bh < g ∧ i = .int .i64 t ∧ v = .slice (some ⟨g, 0, none⟩) 8 cp ∧ Hid (wT ws ⟨xa, xb, xc, xd, xe, xf, xg, xh⟩ t = ⟨ya, yb, yc, yd, ye, yf, yg, yh⟩) ∧ Hid (Sk .u32 u (some ⟨g, 0, none⟩) (St.mk ya yb yc yd ye yf yg yh).list) ∧ Hid (Below w5.heap.size w5 u)) (fun _ i _ => 64 - (intOf i).toNat)
   case atStart => exact ⟨0, g5, cap5, xa, xb, xc, xd, xe, xf, xg, xh, by omega, ZE, rfl, rfl, aa rfl, aaz, aa (Below.refl _ _)⟩
   case round =>
    obtain ⟨t, g, cp, ya, yb, yc, yd, ye, yf, yg, yh, ht, hgh, rfl, rfl, HR, NS, l6⟩ := hrel
    by_cases hlt : t < 64
    ·
     have hk0 := (JP.out.below l6.out).cell (j := t) (show t < 64 by omega)
     have hk1 := (Xo.out.below l6.out).cell (j := t) (by have := Il.out; omega)
     rw [Nat.zero_add] at hk1
     have hnx : wT ws ⟨xa, xb, xc, xd, xe, xf, xg, xh⟩ (t + 1) = Vs ⟨ya, yb, yc, yd, ye, yf, yg, yh⟩ (KL.getD t 0) (ws.getD t 0) := by rw [wT, HR.out]
     obtain ⟨kc, Wy⟩ : ∃ x, KL.getD t 0 = x := ⟨_, rfl⟩
     obtain ⟨wc, Wx⟩ : ∃ x, ws.getD t 0 = x := ⟨_, rfl⟩
     rw [Wy] at hk0 hnx
     rw [Wx] at hk1 hnx
     have EW := aa hnx
     have U7 : Hid (wr.cell? ⟨g, 0 + 0, none⟩ = some (.int .u32 ya) ∧ wr.cell? ⟨g, 0 + 1, none⟩ = some (.int .u32 yb) ∧ wr.cell? ⟨g, 0 + 2, none⟩ = some (.int .u32 yc) ∧ wr.cell? ⟨g, 0 + 3, none⟩ = some (.int .u32 yd) ∧ wr.cell? ⟨g, 0 + 4, none⟩ = some (.int .u32 ye) ∧ wr.cell? ⟨g, 0 + 5, none⟩ = some (.int .u32 yf) ∧ wr.cell? ⟨g, 0 + 6, none⟩ = some (.int .u32 yg) ∧ wr.cell? ⟨g, 0 + 7, none⟩ = some (.int .u32 yh)) := aa ⟨NS.out.cell (j := 0) (show 0 < 8 by decide), NS.out.cell (j := 1) (show 1 < 8 by decide), NS.out.cell (j := 2) (show 2 < 8 by decide), NS.out.cell (j := 3) (show 3 < 8 by decide), NS.out.cell (j := 4) (show 4 < 8 by decide), NS.out.cell (j := 5) (show 5 < 8 by decide), NS.out.cell (j := 6) (show 6 < 8 by decide), NS.out.cell (j := 7) (show 7 < 8 by decide)⟩
     obtain ⟨va, vb, vc, vd, ve, vf, vg, vh⟩ := U7.out
     have q0 : IntKind.i64.wrap (t : Int) = (t : Int) := IntWalk.i64_in _ (by omega)
     have p64 : (t : Int) < 64 := by omega
     clear hnx Wy Wx NS U7
     go_wp2_with fail
     go_quiet ((go_at_call 214; exact GZ (yC _ _ (by decide) (by decide) _)))
     rw [QO, KA, Qu]
     obtain ⟨X, hX⟩ : ∃ X, Rq ye yf yg yh kc wc = X := ⟨_, rfl⟩
     rw [hX]
     have HX := aa hX
     have zq := aa (ay l6.out nq)
     obtain ⟨xq⟩ : Kp ((wr.drewN nq).cell? ⟨g, 0 + 0, none⟩ = some (.int .u32 ya) ∧ (wr.drewN nq).cell? ⟨g, 0 + 1, none⟩ = some (.int .u32 yb) ∧ (wr.drewN nq).cell? ⟨g, 0 + 2, none⟩ = some (.int .u32 yc) ∧ (wr.drewN nq).cell? ⟨g, 0 + 3, none⟩ = some (.int .u32 yd) ∧ (wr.drewN nq).cell? ⟨g, 0 + 4, none⟩ = some (.int .u32 ye) ∧ (wr.drewN nq).cell? ⟨g, 0 + 5, none⟩ = some (.int .u32 yf) ∧ (wr.drewN nq).cell? ⟨g, 0 + 6, none⟩ = some (.int .u32 yg) ∧ (wr.drewN nq).cell? ⟨g, 0 + 7, none⟩ = some (.int .u32 yh)) := ⟨⟨by simpa using va, by simpa using vb, by simpa using vc, by simpa using vd, by simpa using ve, by simpa using vf, by simpa using vg, by simpa using vh⟩⟩
     obtain ⟨w6, hw6⟩ : ∃ u, wr.drewN nq = u := ⟨_, rfl⟩
     rw [hw6] at zq xq ⊢
     clear hX hw6 hk0 hk1 l6 va vb vc vd ve vf vg vh
     obtain ⟨va, vb, vc, vd, ve, vf, vg, vh⟩ := xq
     go_wp2_with fail
     go_quiet ((go_at_call 214; exact GZ (yC _ _ (by decide) (by decide) _)))
     rw [Rp, Sj, Vq]
     obtain ⟨Y, hY⟩ : ∃ Y, Vp ya yb yc = Y := ⟨_, rfl⟩
     rw [hY]
     have HR2 : Hid (wT ws ⟨xa, xb, xc, xd, xe, xf, xg, xh⟩ (t + 1) = ⟨IntKind.u32.wrap (X + Y), ya, yb, yc, IntKind.u32.wrap (yd + X), ye, yf, yg⟩) := aa (by
      rw [EW.out, K5, HX.out, hY, iI, iI])
     have JU := aa (ay zq.out nq)
     have xm : Kp ((w6.drewN nq).cell? ⟨g, 0 + 0, none⟩ = some (.int .u32 ya) ∧ (w6.drewN nq).cell? ⟨g, 0 + 1, none⟩ = some (.int .u32 yb) ∧ (w6.drewN nq).cell? ⟨g, 0 + 2, none⟩ = some (.int .u32 yc) ∧ (w6.drewN nq).cell? ⟨g, 0 + 3, none⟩ = some (.int .u32 yd) ∧ (w6.drewN nq).cell? ⟨g, 0 + 4, none⟩ = some (.int .u32 ye) ∧ (w6.drewN nq).cell? ⟨g, 0 + 5, none⟩ = some (.int .u32 yf) ∧ (w6.drewN nq).cell? ⟨g, 0 + 6, none⟩ = some (.int .u32 yg)) := ⟨⟨by simpa using va, by simpa using vb, by simpa using vc, by simpa using vd, by simpa using ve, by simpa using vf, by simpa using vg⟩⟩
     obtain ⟨w7, hw7⟩ : ∃ u, w6.drewN nq = u := ⟨_, rfl⟩
     rw [hw7] at JU xm ⊢
     clear hY hw7 zq va vb vc vd ve vf vg vh EW HX
     obtain ⟨X2, hX2⟩ : ∃ z, IntKind.u32.wrap (X + Y) = z := ⟨_, rfl⟩
     obtain ⟨Y2, hY2⟩ : ∃ z, IntKind.u32.wrap (yd + X) = z := ⟨_, rfl⟩
     rw [hX2, hY2] at HR2
     have zz := aa hX2
     have Nt := aa hY2
     clear hX2 hY2
     go_wp2_with fail
     refine bD (S := fun w' => w'.cell? ⟨g, 0 + 0, none⟩ = some (.int .u32 ya) ∧ w'.cell? ⟨g, 0 + 1, none⟩ = some (.int .u32 yb) ∧ w'.cell? ⟨g, 0 + 2, none⟩ = some (.int .u32 yc) ∧ w'.cell? ⟨g, 0 + 3, none⟩ = some (.int .u32 yd) ∧ w'.cell? ⟨g, 0 + 4, none⟩ = some (.int .u32 ye) ∧ w'.cell? ⟨g, 0 + 5, none⟩ = some (.int .u32 yf) ∧ w'.cell? ⟨g, 0 + 6, none⟩ = some (.int .u32 yg)) (E := []) (by kernel_rfl) (⟨cell_below (xm.out.1) (Below.refl _ _).drew, cell_below (xm.out.2.1) (Below.refl _ _).drew, cell_below (xm.out.2.2.1) (Below.refl _ _).drew, cell_below (xm.out.2.2.2.1) (Below.refl _ _).drew, cell_below (xm.out.2.2.2.2.1) (Below.refl _ _).drew, cell_below (xm.out.2.2.2.2.2.1) (Below.refl _ _).drew, cell_below (xm.out.2.2.2.2.2.2) (Below.refl _ _).drew⟩) (fun hHeld => ?_)
     refine bN 0 ?_
     refine bN 1 ?_
     refine bN 2 ?_
     refine bN 3 ?_
     refine bN 4 ?_
     refine bN 5 ?_
     refine bN 6 ?_
     refine bN 7 ?_
     refine bN 8 ?_
     refine bN 9 ?_
     refine bN 10 ?_
     refine bN 11 ?_
     refine bN 12 ?_
     refine bN 13 ?_
     refine bN 14 ?_
     refine bN 15 ?_
     refine bN 16 ?_
     refine bN 17 ?_
     refine bN 18 ?_
     refine bN 19 ?_
     refine bN 20 ?_
     refine bN 21 ?_
     refine bN 22 ?_
     refine bN 23 ?_
     refine bN 24 ?_
     refine bN 25 ?_
     refine bW 26 fun K hK => ?_
     go_simp
     refine hK.out _ _ ?_ (fun hHeld => ?_)
     ·
      rw [zz.out, Nt.out]
      exact ⟨cell_below (xm.out.1) (af _ _).drew, cell_below (xm.out.2.1) (af _ _).drew, cell_below (xm.out.2.2.1) (af _ _).drew, cell_below (xm.out.2.2.2.1) (af _ _).drew, cell_below (xm.out.2.2.2.2.1) (af _ _).drew, cell_below (xm.out.2.2.2.2.2.1) (af _ _).drew, cell_below (xm.out.2.2.2.2.2.2) (af _ _).drew⟩
     clear hK K
     try simp only [qq]
     refine bN 27 ?_
     refine gz ?_
     rw [zz.out, Nt.out]
     have aaA : Hid (Sk .u32 (w7.alloc (.cells #[.int .u32 X2, .int .u32 ya, .int .u32 yb, .int .u32 yc, .int .u32 Y2, .int .u32 ye, .int .u32 yf, .int .u32 yg] 209)).drew (some ⟨w7.heap.size, 0, none⟩) (St.mk X2 ya yb yc Y2 ye yf yg).list) := aa ((bB.new w7 (St.mk X2 ya yb yc Y2 ye yf yg).list).sk.below (Below.refl _ _).drew)
     have aba : Hid (Below w5.heap.size w5 (w7.alloc (.cells #[.int .u32 X2, .int .u32 ya, .int .u32 yb, .int .u32 yc, .int .u32 Y2, .int .u32 ye, .int .u32 yf, .int .u32 yg] 209)).drew) := aa (ag JU.out (af _ _).drew)
     have hg7 : bh < w7.heap.size := by have := JU.out.size; have := HH5.out.lt; omega
     clear xm zz Nt JU hHeld
     go_wp2_with fail
     go_roundw
     case rel => exact ⟨t + 1, w7.heap.size, 8, X2, ya, yb, yc, Y2, ye, yf, yg, by omega, hg7, by go_num, rfl, HR2, aaA, aba⟩
     case measure => simp [intOf]; omega
    ·
     have vz : Kp (wT (dL (fG P k)) ⟨xa, xb, xc, xd, xe, xf, xg, xh⟩ 64 = ⟨ya, yb, yc, yd, ye, yf, yg, yh⟩) := ⟨by
      have h := HR.out
      rwa [show t = 64 by omega, ← Xb.out] at h⟩
     have HT : Kp (jZ P (k + 1) = PV ⟨xa, xb, xc, xd, xe, xf, xg, xh⟩ ⟨ya, yb, yc, yd, ye, yf, yg, yh⟩) := ⟨by rw [jZ, CB.out, DC, vz.out]⟩
     have HH6 : Hid (bB .u32 209 wr bh (rq (St.mk xa xb xc xd xe xf xg xh).list (St.mk ya yb yc yd ye yf yg yh).list 0)) := aa (by
      rw [AY rfl]
      exact HH5.out.below l6.out)
     have YN := aa (JP.out.below l6.out)
     have aav := aa (Xi.out.below l6.out)
     have sN := aa (ag l8.out l6.out)
     clear HR l6 HH5 JP Xi l8 Xo Xb Il vz CB
     go_wp2_with fail
     go_loopw [12] (fun i u => ∃ m : Nat, m ≤ 8 ∧ i = .int .i64 m ∧ Hid (bB .u32 209 u bh (rq (St.mk xa xb xc xd xe xf xg xh).list (St.mk ya yb yc yd ye yf yg yh).list m)) ∧ Hid (bB .u32 209 u bk KL) ∧ Hid (Sk .u8 u (some ⟨gp, 0, none⟩) P) ∧ Hid (Sk .u32 u (some ⟨g, 0, none⟩) (St.mk ya yb yc yd ye yf yg yh).list) ∧ Hid (Below W.heap.size W u)) (fun i _ => 8 - (intOf i).toNat)
     case atStart => exact ⟨0, by omega, rfl, HH6, YN, aav, NS, sN⟩
     case round =>
      obtain ⟨m, hm, rfl, U5, HKm, Ua, Qa, tV⟩ := hrel
      by_cases hlm : m < 8
      ·
       have hc := U5.out.cell (j := m) (by rw [q9]; exact hlm)
       have hf := U5.out.free m
       rw [EA hlm] at hc
       have hv := Qa.out.cell (j := m) (show m < 8 from hlm)
       rw [Nat.zero_add] at hv
       obtain ⟨s0, e0⟩ : ∃ x, (St.mk xa xb xc xd xe xf xg xh).list.getD m 0 = x := ⟨_, rfl⟩
       obtain ⟨v0, e1⟩ : ∃ x, (St.mk ya yb yc yd ye yf yg yh).list.getD m 0 = x := ⟨_, rfl⟩
       have hst := Ez (s := (St.mk xa xb xc xd xe xf xg xh).list) (v := (St.mk ya yb yc yd ye yf yg yh).list) hlm
       rw [e0, e1, add32, iI] at hst
       rw [e0] at hc
       rw [e1] at hv
       obtain ⟨V, hV⟩ : ∃ V, (s0 + v0) % 4294967296 = V := ⟨_, rfl⟩
       have HV := aa hV
       rw [hV] at hst
       have HH7 : Hid (bB .u32 209 (wr.setCell ⟨bh, m, none⟩ (.int .u32 V)).drew bh (rq (St.mk xa xb xc xd xe xf xg xh).list (St.mk ya yb yc yd ye yf yg yh).list (m + 1))) := aa (by
        rw [← hst]
        exact (U5.out.set).below (Below.refl _ _).drew)
       have HK7 : Hid (bB .u32 209 (wr.setCell ⟨bh, m, none⟩ (.int .u32 V)).drew bk KL) := aa ((HKm.out.set_ne (by omega)).below (Below.refl _ _).drew)
       have aau : Hid (Sk .u8 (wr.setCell ⟨bh, m, none⟩ (.int .u32 V)).drew (some ⟨gp, 0, none⟩) P) := aa ((Ua.out.set_ne (fun b o e => by cases e; omega)).below (Below.refl _ _).drew)
       have aay : Hid (Sk .u32 (wr.setCell ⟨bh, m, none⟩ (.int .u32 V)).drew (some ⟨g, 0, none⟩) (St.mk ya yb yc yd ye yf yg yh).list) := aa ((Qa.out.set_ne (fun b o e => by cases e; omega)).below (Below.refl _ _).drew)
       have zT : Hid (Below W.heap.size W (wr.setCell ⟨bh, m, none⟩ (.int .u32 V)).drew) := aa (tV.out.setCell (by have := HBH.out; simp; omega) _).drew
       clear hst e0 e1 U5 HKm Ua Qa tV hV
       go_wp2
       go_region
       rw [HV.out]
       clear hc hf hv
       go_wp2
       go_roundw
       case rel => exact ⟨m + 1, by omega, by go_num, HH7, HK7, aau, aay, zT⟩
       case measure => simp [intOf]; omega
      ·
       have YP : Hid (bB .u32 209 wr bh (jZ P (k + 1)).list) := aa (by
        have h := U5.out
        rwa [show m = 8 by omega, EB, ← HT.out] at h)
       clear U5 Qa HT
       go_wp2_with fail
       go_roundw
       case rel => exact ⟨k + 1, by omega, by first | rfl | (congr 1; omega), YP, HKm, Ua, tV⟩
       case measure => simp [intOf]; omega
  ·
   obtain ⟨T, hT⟩ : ∃ T, jZ P k = T := ⟨_, rfl⟩
   have Uf : Kp (o_ l = mG T) := ⟨by
    rw [o_, HP.out, HM.out, show 64 * M / 64 = k by omega, hT]⟩
   rw [hT] at HH
   have hout := mF T
   have hbr := au.out.size
   have HHl : bh < wr.heap.size := HH.out.lt
   have TT : Hid (bB .u8 41 (wr.alloc (.cells z32 41)) wr.heap.size (pz 32 ((mG T).take 0))) := aa (by
    rw [iP]
    exact bB.new _ _)
   have zw : Hid (Below W.heap.size W (wr.alloc (.cells z32 41))) := aa (au.out.alloc au.out.size _)
   have YP := aa (HH.out.old (.cells z32 41))
   obtain ⟨WN, QD⟩ : ∃ u, wr.alloc (.cells z32 41) = u := ⟨_, rfl⟩
   obtain ⟨B5, QI⟩ : ∃ x, wr.heap.size = x := ⟨_, rfl⟩
   have IC : Hid (B5 < WN.heap.size) := aa (by rw [← QD, ← QI]; simp)
   rw [QD] at TT zw YP
   rw [QI] at TT hbr HHl
   have HWN := aa QD
   have l8 := aa QI
   have ac9 : ¬ (64 * (k : Int) < 64 * (M : Int)) := by omega
   clear hT HH YF HK au QD QI hout
   go_wp2_with fail
   rw [HWN.out, l8.out]
   go_loopw [14] (fun i u => ∃ m : Nat, m ≤ 32 ∧ i = .int .i64 m ∧ Hid (bB .u8 41 u B5 (pz 32 ((mG T).take m))) ∧ Hid (Below B5 WN u)) (fun i _ => 32 - (intOf i).toNat)
   case atStart => exact ⟨0, by omega, rfl, TT, aa (Below.refl _ _)⟩
   case round =>
    obtain ⟨m, hm, rfl, tV, Qk⟩ := hrel
    by_cases hlm : m < 32
    ·
     have hol : (mG T).length = 32 := mF _
     have hc := tV.out.cell (j := m) (by rw [Fv (by rw [List.length_take, hol]; omega)]; omega)
     have hf := tV.out.free m
     have hst := Bl (N := 32) (k := m) (l := mG T) (by rw [hol]; omega) (by omega)
     have hh := (YP.out.keepB HHl Qk.out).cell (j := m / 4) (show m / 4 < 8 by omega)
     rw [Lj _ m hlm] at hst
     obtain ⟨v0, e1⟩ : ∃ x, T.list.getD (m / 4) 0 = x := ⟨_, rfl⟩
     rw [e1] at hst hh
     obtain ⟨q, hq⟩ : ∃ q, v0 / 2 ^ (24 - 8 * (m % 4)) = q := ⟨_, rfl⟩
     rw [hq] at hst
     have j0 : (0 : Int) ≤ 24 - 8 * ((m : Int) % 4) := by omega
     have j1 : (24 - 8 * ((m : Int) % 4)).toNat = 24 - 8 * (m % 4) := by omega
     have j2 : ((m : Int) / 4).toNat = m / 4 := by omega
     have j3 : (0 : Int) ≤ (m : Int) / 4 := by omega
     have j4 : (m : Int) / 4 < 8 := by omega
     have HQ := aa hq
     obtain ⟨WV, Cx⟩ : ∃ u, wr.setCell ⟨B5, m, none⟩ (.int .u8 (q % 256)) = u := ⟨_, rfl⟩
     have HB2 : Hid (bB .u8 41 WV B5 (pz 32 ((mG T).take (m + 1)))) := aa (by
      rw [← Cx, ← hst]
      exact tV.out.set)
     have UJ : Hid (Below B5 WN WV) := aa (by rw [← Cx]; exact Qk.out.setCell (Nat.le_refl _) _)
     have P9 := aa Cx
     clear hst tV Qk hol e1 Cx
     go_wp2
     try go_region
     try (rw [P9.out])
     clear hc hf hh
     go_wp2
     go_roundw
     case rel => exact ⟨m + 1, by omega, by go_num, HB2, UJ⟩
     case measure => simp [intOf]; omega
    ·
     have JV : Hid (bB .u8 41 wr B5 (o_ l)) := aa (by
      have h := tV.out
      rwa [show m = (mG T).length by rw [mF]; omega, List.take_length, Bn (mF _), ← Uf.out] at h)
     have rY := aa (zw.out.trans (Qk.out.mono hbr))
     have Q3 : Hid (bB .u8 41 wr w.heap.size (dD 32)) := aa (ek.out.keepB (by have := lG.out; omega) rY.out)
     have fA : Hid (Below w.heap.size w (wr.setRow w.heap.size (arr .u8 (o_ l)))) := aa (aj (ag bQ.out rY.out) (Nat.le_refl _))
     have HRR : Hid (bB .u8 41 (wr.setRow w.heap.size (arr .u8 (o_ l))) w.heap.size (o_ l)) := aa Q3.out.setRow
     clear tV Qk
     go_wp2_with (first
      | ((with_reducible show wpList _ _ _ (⟨some 181, _, _, _, _, _⟩ :: _) _ _); refine wpList_load_row rfl 41 _ rfl B5 rfl _ _ _ _ JV.out Tryz.underlying41 rfl (ax (f_ l)) ?_)
      | ((with_reducible show wpList _ _ _ (⟨none, _, _, _, _, _⟩ :: _) _ _); refine wpList_store_row rfl 41 _ _ rfl w.heap.size (arr .u8 (o_ l)) rfl rfl _ _ Q3.out (ax (f_ l)) (dY (l := dD 32) rfl (f_ l)) (cu _) ?_))
     exact bodyPost_ret (v := .agg (arr .u8 (o_ l))) (results_cell_row (p := 2) (ty := 41) rfl _ _ w.heap.size _ _ _ _ rfl HRR.out Tryz.underlying41 rfl (ax (f_ l))) rfl ⟨rfl, fA.out⟩
theorem I7 (h : List Int) (hh : Hid (h.length = 32)) (w : World) :
  Calls Tryz.prog 181 #[.slice none 0 0, .agg (arr .u8 h)] w (zi .u8 5 h w) := by
 obtain ⟨i0, hi, hz0, hz1, hz2⟩ := info_parts dO
 obtain ⟨W, hW⟩ : ∃ W, w.alloc (.cells (arr .u8 h) 41) = W := ⟨_, rfl⟩
 have bQ : Hid (Below w.heap.size w W) := aa (by rw [← hW]; exact af _ _)
 have ek : Hid (bB .u8 41 W w.heap.size h) := aa (by rw [← hW]; exact bB.new _ _)
 have lG : Hid (W.heap.size = w.heap.size + 1) := aa (by rw [← hW]; simp)
 have HW := aa hW
 clear hW
 go_in
 have hown : (W.alloc (.cells #[] 5)).ownsRow W.heap.size 5 1 (.slice (some ⟨W.heap.size, 0, none⟩) 0 0) 0 [] := mE (K := .u8) W
 go_upto_region 1 with (fail)
 rw [HW.out]
 go_wp2_with (at_builtin; refine wpList_append_own_none rfl _ _ 114 rfl W.heap.size 5 i0 1 Tryz.underlying114 hi _ _ _ rfl hown rfl ?_)
 have zm : Hid (aQ .u8 5 (W.alloc (.cells #[] 5)) W.heap.size (.slice (some ⟨W.heap.size, 0, none⟩) 0 0) []) := aa (mE (K := .u8) W)
 have HB1 : Hid (Below W.heap.size W (W.alloc (.cells #[] 5))) := aa (af _ _)
 clear hown
 go_loopw [5, 6] (fun v i u => ∃ k : Nat, k ≤ 32 ∧ i = .int .i64 k ∧ Hid (aQ .u8 5 u W.heap.size v (h.take k)) ∧ Hid (Below W.heap.size W u)) (fun _ i _ => 32 - (intOf i).toNat)
 case atStart => exact ⟨0, by omega, rfl, aa (by rw [List.take_zero]; exact zm.out), HB1⟩
 case round =>
  obtain ⟨k, hk, rfl, HO, au⟩ := hrel
  by_cases hlt : k < 32
  ·
   have hc := (ek.out.keepB (by have := lG.out; omega) au.out).cell (j := k) (by have := hh.out; omega)
   have xu : Hid (h.take (k + 1) = h.take k ++ [h.getD k 0]) := aa (take_one (by have := hh.out; omega))
   obtain ⟨x, hx⟩ : ∃ x, h.getD k 0 = x := ⟨_, rfl⟩
   rw [hx] at hc xu
   have qB : Hid ((h.take k).length = k) := aa (by rw [List.length_take, hh.out]; omega)
   have hown := HO.out.row qB.out
   have hbs := au.out.size
   clear hx
   go_wp2_with (at_builtin; refine wpList_append_own _ rfl _ _ 114 rfl W.heap.size 5 i0 (.int .u8 0) 1 1 Tryz.underlying114 hi hz0 hz1 hz2 rfl (by decide) _ _ _ rfl (hown.alloc _) ⟨wr.heap.size, 0, none⟩ 1 1 [.int .u8 x] rfl rfl (cell_one_new _ _ _) (ints_oneCell .u8 [x]) (by unfold maxLen; omega) (by omega) (by simp; omega) ?_; intro v2 w2 hown2 hgrow2 _)
   have lU : Hid (aQ .u8 5 w2 W.heap.size v2 (h.take (k + 1))) := aa (by
    rw [xu.out]
    exact aQ.app qB.out.symm rfl hown2)
   have qd : Hid (Below W.heap.size W w2) := aa (HO.out.below au.out hbs hgrow2)
   clear hown hown2 hgrow2 HO hc
   go_roundw
   case rel => exact ⟨k + 1, by omega, by go_num, lU, qd⟩
   case measure => simp [intOf]; omega
  ·
   have lU : Hid (aQ .u8 5 wr W.heap.size u5 (h)) := aa (by
    have e := HO.out
    rwa [List.take_of_length_le (by have := hh.out; omega)] at e)
   have hbf := ag bQ.out au.out
   have hle := bQ.out.size
   clear HO
   go_wp2
   go_ret
   exact ⟨_, rfl, lU.out.mono hle, hbf⟩
theorem I8 (b o c : Nat) (l : List Int) (n : Nat) (hn : Hid (l.length = n)) (hn0 : 0 < n) (hbig : n ≤ 1000000) (h : List Int) (hh : Hid (h.length = 32)) (w : World) (hs : Hid (Sk .u8 w (some ⟨b, o, none⟩) l)) :
  Calls Tryz.prog 181 #[.slice (some ⟨b, o, none⟩) n c, .agg (arr .u8 h)] w (zi .u8 5 (l ++ h) w) := by
 obtain ⟨i0, hi, hz0, hz1, hz2⟩ := info_parts dO
 obtain ⟨W, hW⟩ : ∃ W, w.alloc (.cells (arr .u8 h) 41) = W := ⟨_, rfl⟩
 have bQ : Hid (Below w.heap.size w W) := aa (by rw [← hW]; exact af _ _)
 have ek : Hid (bB .u8 41 W w.heap.size h) := aa (by rw [← hW]; exact bB.new _ _)
 have lG : Hid (W.heap.size = w.heap.size + 1) := aa (by rw [← hW]; simp)
 have HW := aa hW
 clear hW
 have HS := aa ((hs.out.below bQ.out).below (af W (.cells #[] 5)))
 clear hs
 go_in
 have hown : (W.alloc (.cells #[] 5)).ownsRow W.heap.size 5 1 (.slice (some ⟨W.heap.size, 0, none⟩) 0 0) 0 [] := mE (K := .u8) W
 go_upto_region 1 with (fail)
 rw [HW.out]
 go_wp2_with (at_builtin; refine wpList_append_own _ rfl _ _ 114 rfl W.heap.size 5 i0 (.int .u8 0) 1 1 Tryz.underlying114 hi hz0 hz1 hz2 rfl (by decide) _ _ _ rfl hown ⟨b, o, none⟩ n c (l.map (.int .u8)) rfl (by simp [hn.out]) (HS.out.news) (ints_oneCell .u8 _) (by unfold maxLen; omega) (by omega) (by simp) ?_; intro v1 w1 hown1 hgrow1 _)
 have zm : Hid (aQ .u8 5 w1 W.heap.size v1 l) := aa (aQ.app (xs := []) (ys := l) (m := n) rfl hn.out.symm hown1)
 have HB1 : Hid (Below W.heap.size W w1) := aa ((af W (.cells #[] 5)).grown hgrow1 (by simp) (fun j hj => by cases hj; exact Nat.le_refl _))
 clear hown1 hgrow1
 clear hown
 go_loopw [5, 6] (fun v i u => ∃ k : Nat, k ≤ 32 ∧ i = .int .i64 k ∧ Hid (aQ .u8 5 u W.heap.size v (l ++ h.take k)) ∧ Hid (Below W.heap.size W u)) (fun _ i _ => 32 - (intOf i).toNat)
 case atStart => exact ⟨0, by omega, rfl, aa (by rw [List.take_zero, List.append_nil]; exact zm.out), HB1⟩
 case round =>
  obtain ⟨k, hk, rfl, HO, au⟩ := hrel
  by_cases hlt : k < 32
  ·
   have hc := (ek.out.keepB (by have := lG.out; omega) au.out).cell (j := k) (by have := hh.out; omega)
   have xu : Hid (h.take (k + 1) = h.take k ++ [h.getD k 0]) := aa (take_one (by have := hh.out; omega))
   obtain ⟨x, hx⟩ : ∃ x, h.getD k 0 = x := ⟨_, rfl⟩
   rw [hx] at hc xu
   have qB : Hid ((l ++ h.take k).length = n + k) := aa (by rw [List.length_append, List.length_take, hh.out, hn.out]; omega)
   have hown := HO.out.row qB.out
   have hbs := au.out.size
   clear hx
   go_wp2_with (at_builtin; refine wpList_append_own _ rfl _ _ 114 rfl W.heap.size 5 i0 (.int .u8 0) 1 1 Tryz.underlying114 hi hz0 hz1 hz2 rfl (by decide) _ _ _ rfl (hown.alloc _) ⟨wr.heap.size, 0, none⟩ 1 1 [.int .u8 x] rfl rfl (cell_one_new _ _ _) (ints_oneCell .u8 [x]) (by unfold maxLen; omega) (by omega) (by simp; omega) ?_; intro v2 w2 hown2 hgrow2 _)
   have lU : Hid (aQ .u8 5 w2 W.heap.size v2 (l ++ h.take (k + 1))) := aa (by
    rw [xu.out, ← List.append_assoc]
    exact aQ.app qB.out.symm rfl hown2)
   have qd : Hid (Below W.heap.size W w2) := aa (HO.out.below au.out hbs hgrow2)
   clear hown hown2 hgrow2 HO hc
   go_roundw
   case rel => exact ⟨k + 1, by omega, by go_num, lU, qd⟩
   case measure => simp [intOf]; omega
  ·
   have lU : Hid (aQ .u8 5 wr W.heap.size u5 (l ++ h)) := aa (by
    have e := HO.out
    rwa [List.take_of_length_le (by have := hh.out; omega)] at e)
   have hbf := ag bQ.out au.out
   have hle := bQ.out.size
   clear HO
   go_wp2
   go_ret
   exact ⟨_, rfl, lU.out.mono hle, hbf⟩
theorem fI {P : Program} {S : World → Prop} {o : Oper} {a : Act} (ty : TypeId) (x : Operand) (ho : o.op = .load ty x)
  (g : Nat) (hx : a.eval x = .pointer (some ⟨g, 0, none⟩)) (t : TypeId) (cs : Array Value) (fr : Nat × Nat) (d : TypeDesc) (hg : ∀ w, S w → w.heap[g]? = some (.cells cs t fr))
  (hu : P.underlying ty = some d) (hd : (match d with | .struct _ | .array _ _ => true | _ => false) = true) (hi : (P.info? ty).map (·.size) = some cs.size) :
  ∀ w, S w → (execOp a.eval o).run P w = .ok (.value (.agg cs)) w := fun w hw => by
 unfold execOp
 simp only [ho, hx, Instr.loadAt, Instr.sureAddr, Sem.run_bind, Sem.run_pure, Result.andThen_ok, run_loadVar_row w g t ty cs fr d (hg w hw) hu hd hi]
theorem kg (s : ByteArray) (hs1 : 1 ≤ s.size) (hs2 : s.size ≤ 100) (b o c : Nat) (l : List Int) (n : Nat) (hn : Hid (l.length = n)) (hn0 : 0 < n) (hbig : n ≤ 900000) (hby : Hid (az l = true)) (w : World) (hs : Hid (Sk .u8 w (some ⟨b, o, none⟩) l)) :
  Calls Tryz.prog 144 #[.string s, .slice (some ⟨b, o, none⟩) n c] w (Rt w (.agg (arr .u8 (tagged (aU s) l)))) := by
 obtain ⟨i0, hi, hz0, hz1, hz2⟩ := info_parts dO
 obtain ⟨W, hW⟩ : ∃ W, w.alloc (.cells z32 41) = W := ⟨_, rfl⟩
 have bQ : Hid (Below w.heap.size w W) := aa (by rw [← hW]; exact af _ _)
 have ek : Hid (bB .u8 41 W w.heap.size (dD 32)) := aa (by
  rw [← hW, iP]
  exact bB.new _ _)
 have lG : Hid (W.heap.size = w.heap.size + 1) := aa (by rw [← hW]; simp)
 have HS := aa (hs.out.below bQ.out)
 have HW := aa hW
 have hcv := fun w => run_bytes_of_string (P := Tryz.prog) w 9 114 5 s Tryz.underlying9 Tryz.underlying114 Tryz.underlying5
 clear hW hs
 go_in
 go_wp2_with fail
 rw [HW.out]
 clear hcv HW
 obtain ⟨Wc, hWc⟩ : ∃ u, (W.alloc (.cells (bytesRow s (grownCap W s.size 0 5)) 5 ((bytesRow s (grownCap W s.size 0 5)).size, (bytesRow s (grownCap W s.size 0 5)).size + 1))).drew = u := ⟨_, rfl⟩
 have sM : Hid (Below W.heap.size W Wc) := aa (by rw [← hWc]; exact (af _ _).drew)
 have HSc : Hid (Sk .u8 Wc (some ⟨w.heap.size + 1, 0, none⟩) (aU s)) := aa (by
  rw [← hWc, ← lG.out]
  exact lu (heap_alloc_new W _))
 obtain ⟨gc, hgc⟩ : ∃ g, grownCap W s.size 0 5 = g := ⟨_, rfl⟩
 rw [hWc, hgc]
 clear hWc hgc
 refine (Dg (w.heap.size + 1) 0 gc (aU s) s.size (aa (bz s)) (by omega) (by omega) (aa (iM s)) _ HSc).mono ?_
 rintro e w1 ⟨rfl, hb1⟩
 have HB1 := aa (ag sM.out hb1)
 clear hb1 HSc sM
 obtain ⟨t, ht⟩ : ∃ t, o_ (aU s) = t := ⟨_, rfl⟩
 have htl : t.length = 32 := by rw [← ht]; exact f_ _
 have htb : az t = true := by rw [← ht]; exact iJ _
 have HT : Kp (o_ (aU s) = t) := ⟨ht⟩
 have xS := aa htl
 have HTB := aa htb
 rw [ht]
 clear ht htl htb
 go_upto_region 2 with ((with_reducible show wpList _ _ _ (⟨none, _, _, _, _, _⟩ :: _) _ _); refine wpList_store_row rfl 41 _ _ rfl w1.heap.size (arr .u8 t) rfl rfl _ _ (heap_alloc_new _ _) (ax xS.out) (dY (l := dD 32) rfl xS.out) (cu _) ?_)
 rw [World.setRow_alloc_new]
 simp only [Act.put]
 have HB2 := aa (ag HB1.out (af w1 (.cells (arr .u8 t) 41)))
 have HT2 : Hid (bB .u8 41 (w1.alloc (.cells (arr .u8 t) 41)) w1.heap.size t) := aa (bB.new _ _)
 obtain ⟨W2, hW2⟩ : ∃ u, w1.alloc (.cells (arr .u8 t) 41) = u := ⟨_, rfl⟩
 have HSN : Hid (w1.heap.size < W2.heap.size) := aa (by rw [← hW2]; simp)
 rw [hW2] at HB2 HT2 ⊢
 clear hW2 HB1
 obtain ⟨gt, hgt⟩ : ∃ g, w1.heap.size = g := ⟨_, rfl⟩
 rw [hgt] at HT2 HSN ⊢
 clear hgt
 have nW := aa ((Below.refl W2.heap.size W2).drew)
 have zO := aa (HT2.out.below nW.out)
 have HB3 := aa (ag HB2.out nW.out)
 obtain ⟨Wd, hWd⟩ : ∃ u, W2.drew = u := ⟨_, rfl⟩
 refine bD (S := fun w' => w'.heap[gt]? = some (.cells (arr .u8 t) 41 (0, 0))) (E := [5, 6, 7]) (by kernel_rfl) (zO.out) (fun hHeld => ?_)
 refine Bc 0 (.agg (arr .u8 t)) rfl (fI 41 _ rfl gt rfl _ _ _ _ (fun _ h => h) Tryz.underlying41 rfl (ax xS.out)) ?_
 refine Bc 2 (.agg (arr .u8 t)) rfl (fI 41 _ rfl gt rfl _ _ _ _ (fun _ h => h) Tryz.underlying41 rfl (ax xS.out)) ?_
 refine bN 4 ?_
 refine bW 1 fun K hK => ?_
 go_simp
 try rw [hWd]
 rw [hWd] at nW zO HB3
 refine (I7 t xS _).mono ?_
 rintro e w3 ⟨v3, rfl, ho3, hb3⟩
 refine hK.out _ _ ?_ (fun hHeld => ?_)
 · exact zO.out.below hb3
 clear hK K
 try simp only [qq]
 refine bW 3 fun K hK => ?_
 go_simp
 obtain ⟨g3, mV, e3, hg3, -, -, Po⟩ := ho3.cells (by have := xS.out; omega)
 rw [xS.out] at e3
 subst e3
 have Qd := aa Po
 refine (I8 g3 0 mV t 32 xS (by decide) (by decide) t xS _ Qd).mono ?_
 rintro e w4 ⟨v4, rfl, zI, hb4⟩
 have jF := aa (ag hb3 hb4)
 have ZG := jF.out.size
 have hrow4 := zI.row (n := 64) (by rw [List.length_append, xS.out])
 refine hK.out _ _ ?_ (fun hHeld => ?_)
 · exact (zO.out.below hb3).below hb4
 clear hK K
 try simp only [qq]
 refine mR 5 fun K hK => ?_
 have xU := aa ((HS.out.below HB3.out).below jF.out)
 refine step_append_lies _ (by rfl) _ _ _ (by rfl) (w3.heap.size) 5 i0 _ 1 1 Tryz.underlying114 hi hz0 hz1 hz2 rfl (by omega) v4 64 ((t ++ t).map (.int .u8)) (by rfl) (hrow4) ⟨b, o, none⟩ n c (l.map (.int .u8)) (by rfl) (by simp [hn.out]) (xU.out.news) (ints_oneCell .u8 _) (by omega) (by unfold maxLen; omega) (by omega) (by have := hb4.size; omega) (w4.heap.size) (rfl) ?_
 intro g5 cap5 w5 hown5 pK Tc SV
 have l8 := aa (Below.grown jF.out pK (by omega) (fun j hj => by have := (World.ownsRow.lt hrow4 j hj).1; have := hb3.size; omega))
 have vS : Hid (aQ .u8 5 w5 w3.heap.size (.slice (some ⟨g5, 0, none⟩) (64 + n) cap5) (t ++ t ++ l)) := aa (aQ.app (by rw [List.length_append, xS.out]) hn.out.symm hown5)
 refine hK.out _ _ ?_
 clear hK K
 try simp only [qq]
 refine mR 6 fun K hK => ?_
 go_simp
 have BG := vS.out.skAt (by simp [hn.out]; omega)
 refine (Dg g5 0 cap5 (t ++ t ++ l) (64 + n) (aa (by simp [hn.out, xS.out]; omega)) (by omega) (by omega) (aa (by rw [dG, dG, HTB.out, hby.out]; rfl)) _ (aa BG)).mono ?_
 rintro e w6 ⟨rfl, hb6⟩
 have sN := aa (l8.out.trans (hb6.mono l8.out.size))
 refine hK.out _ _ ?_
 clear hK K
 try simp only [qq]
 refine mR 7 fun K hK => ?_
 rw [show (if Region.wanted _ _ = true then _ else _ : Prop) = _ from if_pos rfl]
 refine wp_store_row 41 _ _ rfl w.heap.size (arr .u8 (o_ (t ++ t ++ l))) rfl rfl 41 _ (((ek.out.below HB3.out)).below sN.out) (ax (f_ _)) (dY rfl (f_ _)) (cu _) ?_
 refine hK.out _ _ ?_
 clear hK K
 try simp only [qq]
 refine gz ?_
 have HRR : Hid (bB .u8 41 (w6.setRow w.heap.size (arr .u8 (o_ (t ++ t ++ l)))) w.heap.size (o_ (t ++ t ++ l))) := aa ((ek.out.below HB3.out).below sN.out).setRow
 have fA : Hid (Below w.heap.size w (w6.setRow w.heap.size (arr .u8 (o_ (t ++ t ++ l))))) := aa (aj (ag bQ.out (ag HB3.out sN.out)) (Nat.le_refl _))
 have Xe : Kp (tagged (aU s) l = o_ (t ++ t ++ l)) := ⟨by rw [tagged, HT.out]⟩
 obtain ⟨R, hR⟩ : ∃ R, o_ (t ++ t ++ l) = R := ⟨_, rfl⟩
 have hRl : R.length = 32 := by rw [← hR]; exact f_ _
 rw [hR] at HRR fA Xe ⊢
 obtain ⟨w8, hw8⟩ : ∃ u, w6.setRow w.heap.size (arr .u8 R) = u := ⟨_, rfl⟩
 rw [hw8] at HRR fA ⊢
 have HI : Kp ((Tryz.prog.info? 41).map (·.size) = some (arr .u8 R).size) := ⟨ax hRl⟩
 clear hR hRl hw8
 go_wp2
 exact bodyPost_ret (v := .agg (arr .u8 R)) (results_cell_row (p := 4) (ty := 41) rfl _ _ w.heap.size _ _ _ _ rfl HRR.out Tryz.underlying41 rfl HI.out) rfl ⟨by rw [Xe.out], fA.out⟩
def vL (m : Int) (h : List Int) : Nat → Int
 | 0 => 0
 | k + 1 => (vL m h k * 256 + h.getD k 0) % m
def FH (m : Int) (h : List Int) : Int := vL m h 16
theorem xE {m : Int} {h : List Int} (hm : 1 ≤ m) (k : Nat) : 0 ≤ vL m h k ∧ vL m h k < m := by
 cases k with
 | zero => exact ⟨Int.le_refl _, by simp [vL]; omega⟩
 | succ k => exact ⟨Int.emod_nonneg _ (by omega), Int.emod_lt_of_pos _ (by omega)⟩
theorem MQ {acc m a : Int} {j : Nat} (h : acc * 2 ^ j % m = a) : acc * 2 ^ (j + 1) % m = (a + a) % m := by
 rw [← h, Int.pow_succ, ← Int.mul_assoc, Int.mul_comm _ 2, Int.add_emod_emod, Int.emod_add_emod]
 congr 1
 omega
theorem Lu {acc m a c : Int} (h : acc * 2 ^ 8 % m = a) : (a + c % m) % m = (acc * 256 + c) % m := by
 rw [← h, Int.add_emod_emod, Int.emod_add_emod]
 rfl
theorem Ji {acc m c : Int} : (acc * (256 % m) % m + c) % m = (acc * 256 + c) % m := by
 have e : acc * (256 % m) % m = acc * 256 % m := by
  rw [Int.mul_emod acc (256 % m), Int.emod_emod_of_dvd _ (Int.dvd_refl m), ← Int.mul_emod]
 rw [e, Int.emod_add_emod]
theorem FI (h : List Int) (hh : Hid (h.length = 32)) (hb : Hid (az h = true)) (m : Int) (h1 : 1 ≤ m) (h2 : m < 2305843009213693952) (w : World) :
  Calls Tryz.prog 264 #[.agg (arr .u8 h), .int .i64 m] w (Rt w (.tuple #[.int .i64 (FH m h), .int .i64 0])) := by
 obtain ⟨W, hW⟩ : ∃ W, w.alloc (.cells (arr .u8 h) 41) = W := ⟨_, rfl⟩
 have bQ : Hid (Below w.heap.size w W) := aa (by rw [← hW]; exact af _ _)
 have ek : Hid (bB .u8 41 W w.heap.size h) := aa (by rw [← hW]; exact bB.new _ _)
 have HW := aa hW
 clear hW
 have hm0 : ((m : Int) == 0) = false := by simp; omega
 have hm1 : ¬ m < 1 := by omega
 have hm2 : ¬ 2305843009213693952 ≤ m := by omega
 go_in
 go_wp2
 rw [HW.out]
 go_loopw [6, 17] (fun p i u => ∃ (k : Nat) (acc : Int), k ≤ 16 ∧ i = .int .i64 k ∧ p = .int .i64 acc ∧ Hid (vL m h k = acc) ∧ Hid (Below W.heap.size W u)) (fun _ i _ => 16 - (intOf i).toNat)
 case atStart => exact ⟨0, 0, by omega, rfl, rfl, aa rfl, aa (Below.refl _ _)⟩
 case round =>
  obtain ⟨k, acc, hk, rfl, rfl, HN, au⟩ := hrel
  have ha := xE (m := m) (h := h) h1 k
  rw [HN.out] at ha
  obtain ⟨a0, a1⟩ := ha
  by_cases hlt : k < 16
  ·
   have hc := (ek.out.below au.out).cell (j := k) (by have := hh.out; omega)
   obtain ⟨c0, c1⟩ := iH hb.out k
   have hnx : vL m h (k + 1) = (acc * 256 + h.getD k 0) % m := by rw [vL, HN.out]
   obtain ⟨c, hcc⟩ : ∃ c, h.getD k 0 = c := ⟨_, rfl⟩
   rw [hcc] at hc c0 c1 hnx
   have EW := aa hnx
   clear hcc hnx
   have dk : decide ((k : Int) < 16) = true := by simp; omega
   go_wp2
   go_loopw [6, 21] (fun p i u => ∃ (j : Nat) (a : Int), j ≤ 8 ∧ i = .int .i64 j ∧ p = .int .i64 a ∧ Hid (acc * 2 ^ j % m = a) ∧ 0 ≤ a ∧ a < m ∧ Hid (Below W.heap.size W u)) (fun _ i _ => 8 - (intOf i).toNat)
   case atStart => exact ⟨0, acc, by omega, rfl, rfl, aa (by rw [Int.pow_zero, Int.mul_one]; exact Int.emod_eq_of_lt a0 a1), a0, a1, au⟩
   case round =>
    obtain ⟨j, a, hj, rfl, rfl, HA, b0, b1, l6⟩ := hrel
    by_cases hlj : j < 8
    ·
     have HA2 := aa (MQ HA.out)
     have e0 : 0 ≤ (a + a) % m := Int.emod_nonneg _ (by omega)
     have e1 : (a + a) % m < m := Int.emod_lt_of_pos _ (by omega)
     obtain ⟨q, hq⟩ : ∃ q, (a + a) % m = q := ⟨_, rfl⟩
     rw [hq] at e0 e1 HA2
     have HQ := aa hq
     clear hq HA
     go_wp2_with fail
     refine (Nl a a m h2 b0 b1 b0 b1 _).mono ?_
     rintro e w' ⟨rfl, rfl⟩
     rw [HQ.out]
     go_wp2
     go_roundw
     case rel => exact ⟨j + 1, q, by omega, by go_num, rfl, HA2, e0, e1, l6⟩
     case measure => simp [intOf]; omega
    ·
     have HA8 : Hid (acc * 2 ^ 8 % m = a) := aa (by have h := HA.out; rwa [show j = 8 by omega] at h)
     have HE : Hid ((a + c % m) % m = (acc * 256 + c) % m) := aa (Lu HA8.out)
     have f0 : 0 ≤ c % m := Int.emod_nonneg _ (by omega)
     have f1 : c % m < m := Int.emod_lt_of_pos _ (by omega)
     obtain ⟨cm, hcm⟩ : ∃ x, c % m = x := ⟨_, rfl⟩
     rw [hcm] at f0 f1 HE
     obtain ⟨q, hq⟩ : ∃ q, (a + cm) % m = q := ⟨_, rfl⟩
     have XI : Hid (vL m h (k + 1) = q) := aa (by rw [EW.out, ← HE.out, hq])
     have HQ := aa hq
     clear hq HA HA8 HE EW HN
     go_wp2_with fail
     refine (Nl a cm m h2 b0 b1 f0 f1 _).mono ?_
     rintro e w' ⟨rfl, rfl⟩
     rw [HQ.out]
     go_wp2
     go_roundw
     case rel => exact ⟨k + 1, q, by omega, by go_num, rfl, XI, l6⟩
     case measure => simp [intOf]; omega
  ·
   have HF : Hid (FH m h = acc) := aa (by have e := HN.out; rwa [show k = 16 by omega] at e)
   have hbf := ag bQ.out au.out
   clear HN
   go_wp2
   go_ret2
   exact ⟨by rw [HF.out]; rfl, hbf⟩
theorem Di (h : List Int) (hh : Hid (h.length = 32)) (hb : Hid (az h = true)) (m : Int) (h1 : 1 ≤ m) (h2 : m < 2305843009213693952) (w : World) :
  Calls Tryz.prog 251 #[.agg (arr .u8 h), .int .i64 m] w (Rt w (.int .i64 (FH m h))) := by
 obtain ⟨W, hW⟩ : ∃ W, w.alloc (.cells (arr .u8 h) 41) = W := ⟨_, rfl⟩
 have bQ : Hid (Below w.heap.size w W) := aa (by rw [← hW]; exact af _ _)
 have ek : Hid (bB .u8 41 W w.heap.size h) := aa (by rw [← hW]; exact bB.new _ _)
 have HW := aa hW
 clear hW
 have hm0 : ((m : Int) == 0) = false := by simp; omega
 go_in
 go_wp2
 rw [HW.out]
 go_loopw [5, 6] (fun p i u => ∃ (k : Nat) (acc : Int), k ≤ 16 ∧ i = .int .i64 k ∧ p = .int .i64 acc ∧ Hid (vL m h k = acc) ∧ Hid (Below W.heap.size W u)) (fun _ i _ => 16 - (intOf i).toNat)
 case atStart => exact ⟨0, 0, by omega, rfl, rfl, aa rfl, aa (Below.refl _ _)⟩
 case round =>
  obtain ⟨k, acc, hk, rfl, rfl, HN, au⟩ := hrel
  have ha := xE (m := m) (h := h) h1 k
  rw [HN.out] at ha
  obtain ⟨a0, a1⟩ := ha
  by_cases hlt : k < 16
  ·
   have hc := (ek.out.below au.out).cell (j := k) (by have := hh.out; omega)
   obtain ⟨c0, c1⟩ := iH hb.out k
   have hnx : vL m h (k + 1) = (acc * 256 + h.getD k 0) % m := by rw [vL, HN.out]
   obtain ⟨c, hcc⟩ : ∃ c, h.getD k 0 = c := ⟨_, rfl⟩
   rw [hcc] at hc c0 c1 hnx
   have EW := aa hnx
   have f0 : 0 ≤ 256 % m := Int.emod_nonneg _ (by omega)
   have f1 : 256 % m < m := Int.emod_lt_of_pos _ (by omega)
   have hst := Ji (acc := acc) (m := m) (c := c)
   have ht : Int.tmod 256 m = 256 % m := Int.tmod_eq_emod_of_nonneg (by decide)
   have hw0 : IntKind.i64.wrap (256 % m) = 256 % m := IntWalk.i64_in _ (by omega)
   obtain ⟨d, hd⟩ : ∃ d, 256 % m = d := ⟨_, rfl⟩
   rw [hd] at f0 f1 hst ht hw0
   have g0 : 0 ≤ acc * d % m := Int.emod_nonneg _ (by omega)
   have g1 : acc * d % m < m := Int.emod_lt_of_pos _ (by omega)
   obtain ⟨p, hp⟩ : ∃ p, acc * d % m = p := ⟨_, rfl⟩
   rw [hp] at g0 g1 hst
   obtain ⟨q, hq⟩ : ∃ q, (p + c) % m = q := ⟨_, rfl⟩
   have HP := aa hp
   have HQ := aa hq
   have hw1 : IntKind.i64.wrap (p + c) = p + c := IntWalk.i64_in _ (by omega)
   have XI : Hid (vL m h (k + 1) = q) := aa (by rw [EW.out, ← hst, hq])
   clear hst hp hq EW HN hd
   go_wp2
   go_quiet ((first | (go_at_call 45; exact Bj (fB acc d m p HP h2 a0 a1 f0 f1 _)) | (go_at_call 55; exact Bj (mY (p + c) m q HQ h1 h2 (by omega) (by omega) _))))
   have HB2 := aa (ay au.out nq)
   clear hc
   go_wp2
   go_roundw
   case rel => exact ⟨k + 1, q, by omega, by go_num, rfl, XI, HB2⟩
   case measure => simp [intOf]; omega
  ·
   have HF : Hid (FH m h = acc) := aa (by have e := HN.out; rwa [show k = 16 by omega] at e)
   have hbf := ag bQ.out au.out
   clear HN
   go_wp2
   go_ret
   exact ⟨by rw [HF.out]; rfl, hbf⟩
def di (h : List Int) (c : Int) : Array Value := arr .u8 h ++ #[.int .i64 c]
theorem LF : ∀ h : List Int, h.length = 32 → ∃ a0 a1 a2 a3 a4 a5 a6 a7 a8 a9 WZ WY a12 WW WU WT a16 a17 WS WR a20 a21 a22 a23 a24 a25 a26 a27 a28 a29 a30 a31, h = [a0, a1, a2, a3, a4, a5, a6, a7, a8, a9, WZ, WY, a12, WW, WU, WT, a16, a17, WS, WR, a20, a21, a22, a23, a24, a25, a26, a27, a28, a29, a30, a31]
 | [a0, a1, a2, a3, a4, a5, a6, a7, a8, a9, WZ, WY, a12, WW, WU, WT, a16, a17, WS, WR, a20, a21, a22, a23, a24, a25, a26, a27, a28, a29, a30, a31], _ => ⟨a0, a1, a2, a3, a4, a5, a6, a7, a8, a9, WZ, WY, a12, WW, WU, WT, a16, a17, WS, WR, a20, a21, a22, a23, a24, a25, a26, a27, a28, a29, a30, a31, rfl⟩
theorem TI : Tryz.prog.built 237 [] = some (di (dD 32) 0) := by kernel_rfl
theorem Nc (h : List Int) (hl : h.length = 32) : Tryz.prog.built 237 [(0, .agg (arr .u8 h))] = some (di h 0) := by
 obtain ⟨a0, a1, a2, a3, a4, a5, a6, a7, a8, a9, WZ, WY, a12, WW, WU, WT, a16, a17, WS, WR, a20, a21, a22, a23, a24, a25, a26, a27, a28, a29, a30, a31, rfl⟩ := LF h hl
 kernel_rfl
theorem Nb (h : List Int) (hl : h.length = 32) (c : Int) : Tryz.prog.built 237 [(0, .agg (arr .u8 h)), (1, .int .i64 c)] = some (di h c) := by
 obtain ⟨a0, a1, a2, a3, a4, a5, a6, a7, a8, a9, WZ, WY, a12, WW, WU, WT, a16, a17, WS, WR, a20, a21, a22, a23, a24, a25, a26, a27, a28, a29, a30, a31, rfl⟩ := LF h hl
 kernel_rfl
theorem lK {P : Program} {ops : Array Oper} {rest : List Oper} {o : Oper} {a : Act} {w : World} {Q : Exit → Act → World → Prop} (hg : o.guard = none) (t : TypeId) (l : List (Nat × Operand)) (ho : o.op = .build t l.toArray) (cells : Array Value)
  (hf : P.built t (l.map fun x => (x.1, a.eval x.2)) = some cells) (h : wpList P ops Q rest (a.put o.dst (.agg cells)) w) : wpList P ops Q (o :: rest) a w := by
 have e : (l.toArray.map fun (x : Nat × Operand) => (x.1, a.eval x.2)).toList = l.map fun x => (x.1, a.eval x.2) := by simp
 refine wpList_build hg t l.toArray ho ?_ ?_
 ·
  show (P.built t (l.toArray.map fun (x : Nat × Operand) => (x.1, a.eval x.2)).toList).isSome = true
  rw [e, hf]; rfl
 ·
  show wpList P ops Q rest (a.put o.dst (.agg ((P.built t (l.toArray.map fun (x : Nat × Operand) => (x.1, a.eval x.2)).toList).getD #[]))) w
  rw [e, hf]; exact h
theorem uk {h : List Int} {c : Int} (hl : h.length = 32) : (di h c).size = 33 := by simp [di, dJ, hl]
theorem VS : (Tryz.prog.info? 237).map (·.size) = some 33 := by kernel_rfl
theorem aO {h : List Int} {c : Int} (hl : h.length = 32) : (Tryz.prog.info? 237).map (·.size) = some (di h c).size := VS.trans (congrArg some (uk hl).symm)
theorem dS (h : List Int) (c : Int) : (di h c).all (·.oneCell') = true := by simp [di, arr, Value.oneCell']
theorem II : (#[.int .u8 0, .int .u8 0, .int .u8 0, .int .u8 0, .int .u8 0, .int .u8 0, .int .u8 0, .int .u8 0, .int .u8 0, .int .u8 0, .int .u8 0, .int .u8 0, .int .u8 0, .int .u8 0, .int .u8 0, .int .u8 0, .int .u8 0, .int .u8 0, .int .u8 0, .int .u8 0, .int .u8 0, .int .u8 0, .int .u8 0, .int .u8 0, .int .u8 0, .int .u8 0, .int .u8 0, .int .u8 0, .int .u8 0, .int .u8 0, .int .u8 0, .int .u8 0, .int .i64 0] : Array Value) = di (dD 32) 0 := rfl
theorem fq {h h' : List Int} {c c' : Int} (hl : h.length = 32) (hl' : h'.length = 32) : (di h c).size = (di h' c').size := by rw [uk hl, uk hl']
def dK (w : World) (b : Nat) (h : List Int) (c : Int) : Prop := w.heap[b]? = some (.cells (di h c) 237 (0, 0))
theorem dK.below {w w' : World} {b : Nat} {h : List Int} {c : Int} (hh : dK w b h c) (hb : Below w.heap.size w w') : dK w' b h c := (hb.block b (Array.getElem?_eq_some_iff.1 hh).1).trans hh
theorem dK.new (w : World) (h : List Int) (c : Int) : dK (w.alloc (.cells (di h c) 237)) w.heap.size h c := heap_alloc_new _ _
theorem dK.lt {w : World} {b : Nat} {h : List Int} {c : Int} (hh : dK w b h c) : b < w.heap.size := (Array.getElem?_eq_some_iff.1 hh).1
theorem dK.setRow {w : World} {b : Nat} {h h' : List Int} {c c' : Int} (hh : dK w b h c) : dK (w.setRow b (di h' c')) b h' c' := setRow_heap w b _ _ _ _ hh
theorem dK.count {w : World} {b : Nat} {h : List Int} {c : Int} (hh : dK w b h c) (hl : h.length = 32) : w.cell? ⟨b, 32, none⟩ = some (.int .i64 c) := by
 rw [ak hh, di, Array.getElem?_append_right (by rw [dJ, hl]; exact Nat.le_refl _), dJ, hl]
 rfl
theorem dK.sk {w : World} {b : Nat} {h : List Int} {c : Int} (hh : dK w b h c) : Sk .u8 w (some ⟨b, 0, none⟩) h := fun j hj => ⟨b, 0, rfl, by
 rw [Nat.zero_add, ak hh, di, Array.getElem?_append_left (by rw [dJ]; exact hj)]
 exact xQ hj⟩
theorem yt (h : List Int) (hl : Hid (h.length = 32)) (c : Int) (h0 : 0 ≤ c) (h1 : c ≤ 1000) (w : World) :
  Calls Tryz.prog 262 #[.agg (di h c)] w (Rt w (.bool true)) := by
 have hc := (dK.new w h c).count hl.out
 have d1 : decide ((0 : Int) ≤ c) = true := by simp [h0]
 have d2 : decide (c ≤ 1000) = true := by simp [h1]
 go_in
 go_wp2
 go_ret
 exact ⟨rfl, af _ _⟩
theorem vV (h : List Int) (hl : Hid (h.length = 32)) (c : Int) (h0 : 0 ≤ c) (h1 : c ≤ 1000) (w : World) :
  Calls Tryz.prog 250 #[.agg (di h c)] w (Rt w (.bool true)) := by
 have hc := (dK.new w h c).count hl.out
 have d1 : decide ((0 : Int) ≤ c) = true := by simp [h0]
 have d2 : decide (c ≤ 1000) = true := by simp [h1]
 go_in
 go_wp2
 go_ret
 exact ⟨rfl, af _ _⟩
def Kv : ByteArray := ⟨#[115, 112, 101, 99, 105, 101, 47, 116, 114, 97, 110, 115, 99, 114, 105, 112, 116]⟩
def xR (h : List Int) (c e : Int) : Value := .tuple #[.agg (di h c), .int .i64 e]
def newL (l : List Int) : List Int := tagged (aU Kv) l
theorem Kq (s : ByteArray) (hs : s.size ≤ 1000) (hr : Hid (gI (aU s) = false)) (w : World) :
  Calls Tryz.prog 243 #[.string s] w (Rt w (xR (dD 32) 0 1)) := by
 obtain ⟨W, hW⟩ : ∃ W, w.alloc (.cells #[.int .u8 0, .int .u8 0, .int .u8 0, .int .u8 0, .int .u8 0, .int .u8 0, .int .u8 0, .int .u8 0, .int .u8 0, .int .u8 0, .int .u8 0, .int .u8 0, .int .u8 0, .int .u8 0, .int .u8 0, .int .u8 0, .int .u8 0, .int .u8 0, .int .u8 0, .int .u8 0, .int .u8 0, .int .u8 0, .int .u8 0, .int .u8 0, .int .u8 0, .int .u8 0, .int .u8 0, .int .u8 0, .int .u8 0, .int .u8 0, .int .u8 0, .int .u8 0, .int .i64 0] 237) = W := ⟨_, rfl⟩
 have bQ : Hid (Below w.heap.size w W) := aa (by rw [← hW]; exact af _ _)
 have HT0 : Hid (dK W w.heap.size (dD 32) 0) := aa (by rw [← hW, II]; exact dK.new _ _ _)
 have HW := aa hW
 clear hW
 go_in
 go_wp2_with fail
 rw [HW.out]
 refine (o7 s hs false hr _).mono ?_
 rintro e w1 ⟨rfl, hb1⟩
 have HT1 := aa (HT0.out.below hb1)
 have HB1 := aa (ag bQ.out hb1)
 clear hb1
 go_wp2_with (first
  | ((with_reducible show wpList _ _ _ (⟨some 9, _, _, _, _, _⟩ :: _) _ _); refine lK rfl 237 _ rfl _ TI ?_)
  | ((with_reducible show wpList _ _ _ (⟨none, _, _, _, _, _⟩ :: _) _ _); refine wpList_store_row rfl 237 _ _ rfl w.heap.size (di (dD 32) 0) rfl rfl _ _ HT1.out (aO rfl) rfl (dS _ _) ?_))
 have HRR : Hid (dK (w1.setRow w.heap.size (di (dD 32) 0)) w.heap.size (dD 32) 0) := aa HT1.out.setRow
 have fA : Below w.heap.size w (w1.setRow w.heap.size (di (dD 32) 0)) := aj HB1.out (Nat.le_refl _)
 exact bodyPost_ret (v := xR (dD 32) 0 1) (cK (p := 2) (q := 3) (ty := 237) rfl _ _ ⟨w.heap.size, 0, none⟩ _ _ rfl rfl (run_loadVar_row _ _ _ _ _ _ _ HRR.out Tryz.underlying237 rfl (aO rfl))) rfl ⟨rfl, fA⟩
theorem Om (s : ByteArray) (hs : s.size ≤ 1000) (hr : Hid (gI (aU s) = true)) (w : World) (hv : Hid (bF w)) :
  Calls Tryz.prog 243 #[.string s] w (Rt w (xR (newL (aU s)) 0 0)) := by
 have hs0 : 1 ≤ s.size := by
  have h := hr.out
  rw [gI, bz] at h
  simp at h
  exact h.1.1
 obtain ⟨W, hW⟩ : ∃ W, w.alloc (.cells #[.int .u8 0, .int .u8 0, .int .u8 0, .int .u8 0, .int .u8 0, .int .u8 0, .int .u8 0, .int .u8 0, .int .u8 0, .int .u8 0, .int .u8 0, .int .u8 0, .int .u8 0, .int .u8 0, .int .u8 0, .int .u8 0, .int .u8 0, .int .u8 0, .int .u8 0, .int .u8 0, .int .u8 0, .int .u8 0, .int .u8 0, .int .u8 0, .int .u8 0, .int .u8 0, .int .u8 0, .int .u8 0, .int .u8 0, .int .u8 0, .int .u8 0, .int .u8 0, .int .i64 0] 237) = W := ⟨_, rfl⟩
 have bQ : Hid (Below w.heap.size w W) := aa (by rw [← hW]; exact af _ _)
 have HT0 : Hid (dK W w.heap.size (dD 32) 0) := aa (by rw [← hW, II]; exact dK.new _ _ _)
 have HV := aa (hv.out.below bQ.out)
 have HW := aa hW
 have hcv := fun w => run_bytes_of_string (P := Tryz.prog) w 9 114 5 s Tryz.underlying9 Tryz.underlying114 Tryz.underlying5
 clear hW hv
 go_in
 go_wp2_with fail
 rw [HW.out]
 refine (o7 s hs true hr _).mono ?_
 rintro e w1 ⟨rfl, hb1⟩
 have HT1 := aa (HT0.out.below hb1)
 have HB1 := aa (ag bQ.out hb1)
 have ry := aa (HV.out.below hb1)
 clear hb1 HW
 go_wp2_with fail
 clear hcv
 obtain ⟨Wc, hWc⟩ : ∃ u, (w1.alloc (.cells (bytesRow s (grownCap w1 s.size 0 5)) 5 ((bytesRow s (grownCap w1 s.size 0 5)).size, (bytesRow s (grownCap w1 s.size 0 5)).size + 1))).drew = u := ⟨_, rfl⟩
 have sM : Hid (Below w1.heap.size w1 Wc) := aa (by rw [← hWc]; exact (af _ _).drew)
 have HSc : Hid (Sk .u8 Wc (some ⟨w1.heap.size, 0, none⟩) (aU s)) := aa (by
  rw [← hWc]
  exact lu (heap_alloc_new w1 _))
 obtain ⟨gc, hgc⟩ : ∃ g, grownCap w1 s.size 0 5 = g := ⟨_, rfl⟩
 rw [hWc, hgc]
 clear hWc hgc
 refine (o8 Kv (by decide) (by decide) w1.heap.size 0 gc (aU s) s.size (aa (bz s)) hs0 (by omega) (aa (iM s)) _ HSc (aa (ry.out.below sM.out))).mono ?_
 rintro e w2 ⟨rfl, hb2⟩
 have HT2 := aa ((HT1.out.below sM.out).below hb2)
 have HB2 := aa (ag (ag HB1.out sM.out) hb2)
 obtain ⟨R, hR⟩ : ∃ R, tagged (aU Kv) (aU s) = R := ⟨_, rfl⟩
 have hRl : R.length = 32 := by rw [← hR]; exact dF _ _
 have HN : Kp (newL (aU s) = R) := ⟨hR⟩
 have fo := aa hRl
 rw [hR, show lF R = .tuple #[.agg (arr .u8 R), .int .i64 0] from rfl]
 clear hb2 HSc sM HT1 HB1 ry hR hRl
 go_upto_region 4 with ((with_reducible show wpList _ _ _ (⟨none, _, _, _, _, _⟩ :: _) _ _); refine wpList_store_row rfl 41 _ _ rfl w2.heap.size (arr .u8 R) rfl rfl _ _ (heap_alloc_new _ _) (ax fo.out) (dY (l := dD 32) rfl fo.out) (cu _) ?_)
 rw [World.setRow_alloc_new]
 try simp only [Act.put]
 have XV : Hid (bB .u8 41 (w2.alloc (.cells (arr .u8 R) 41)) w2.heap.size R) := aa (bB.new _ _)
 have HT3 := aa (HT2.out.below (af w2 (.cells (arr .u8 R) 41)))
 have HB3 := aa (ag HB2.out (af w2 (.cells (arr .u8 R) 41)))
 obtain ⟨W3, hW3⟩ : ∃ u, w2.alloc (.cells (arr .u8 R) 41) = u := ⟨_, rfl⟩
 rw [hW3] at XV HT3 HB3 ⊢
 clear hW3
 go_wp2_with (first
  | ((with_reducible show wpList _ _ _ (⟨some 16, _, _, _, _, _⟩ :: _) _ _); refine wpList_load_row rfl 41 _ rfl w2.heap.size rfl _ _ _ _ XV.out Tryz.underlying41 rfl (ax fo.out) ?_)
  | ((with_reducible show wpList _ _ _ (⟨some 17, _, _, _, _, _⟩ :: _) _ _); refine lK rfl 237 _ rfl _ (Nc R fo.out) ?_)
  | ((with_reducible show wpList _ _ _ (⟨none, _, _, _, _, _⟩ :: _) _ _); refine wpList_store_row rfl 237 _ _ rfl w.heap.size (di R 0) rfl rfl _ _ HT3.out (aO fo.out) (fq rfl fo.out) (dS _ _) ?_))
 have HRR : Hid (dK (W3.setRow w.heap.size (di R 0)) w.heap.size R 0) := aa HT3.out.setRow
 have fA : Below w.heap.size w (W3.setRow w.heap.size (di R 0)) := aj HB3.out (Nat.le_refl _)
 exact bodyPost_ret (v := xR R 0 0) (cK (p := 2) (q := 3) (ty := 237) rfl _ _ ⟨w.heap.size, 0, none⟩ _ _ rfl rfl (run_loadVar_row _ _ _ _ _ _ _ HRR.out Tryz.underlying237 rfl (aO fo.out))) rfl ⟨by rw [HN.out], fA⟩
theorem KY (s : ByteArray) (hs : s.size ≤ 1000) (hs0 : 1 ≤ s.size) (w : World) :
  Calls Tryz.prog 229 #[.string s] w (Rt w (.agg (di (newL (aU s)) 0))) := by
 obtain ⟨W, hW⟩ : ∃ W, w.alloc (.cells #[.int .u8 0, .int .u8 0, .int .u8 0, .int .u8 0, .int .u8 0, .int .u8 0, .int .u8 0, .int .u8 0, .int .u8 0, .int .u8 0, .int .u8 0, .int .u8 0, .int .u8 0, .int .u8 0, .int .u8 0, .int .u8 0, .int .u8 0, .int .u8 0, .int .u8 0, .int .u8 0, .int .u8 0, .int .u8 0, .int .u8 0, .int .u8 0, .int .u8 0, .int .u8 0, .int .u8 0, .int .u8 0, .int .u8 0, .int .u8 0, .int .u8 0, .int .u8 0, .int .i64 0] 237) = W := ⟨_, rfl⟩
 have bQ : Hid (Below w.heap.size w W) := aa (by rw [← hW]; exact af _ _)
 have HT0 : Hid (dK W w.heap.size (dD 32) 0) := aa (by rw [← hW, II]; exact dK.new _ _ _)
 have lG : Hid (W.heap.size = w.heap.size + 1) := aa (by rw [← hW]; simp)
 have HW := aa hW
 have hcv := fun w => run_bytes_of_string (P := Tryz.prog) w 9 114 5 s Tryz.underlying9 Tryz.underlying114 Tryz.underlying5
 clear hW
 go_in
 go_wp2_with fail
 rw [HW.out]
 clear hcv HW
 obtain ⟨Wc, hWc⟩ : ∃ u, (W.alloc (.cells (bytesRow s (grownCap W s.size 0 5)) 5 ((bytesRow s (grownCap W s.size 0 5)).size, (bytesRow s (grownCap W s.size 0 5)).size + 1))).drew = u := ⟨_, rfl⟩
 have sM : Hid (Below W.heap.size W Wc) := aa (by rw [← hWc]; exact (af _ _).drew)
 have HSc : Hid (Sk .u8 Wc (some ⟨w.heap.size + 1, 0, none⟩) (aU s)) := aa (by
  rw [← hWc, ← lG.out]
  exact lu (heap_alloc_new W _))
 obtain ⟨gc, hgc⟩ : ∃ g, grownCap W s.size 0 5 = g := ⟨_, rfl⟩
 rw [hWc, hgc]
 clear hWc hgc
 refine (kg Kv (by decide) (by decide) (w.heap.size + 1) 0 gc (aU s) s.size (aa (bz s)) hs0 (by omega) (aa (iM s)) _ HSc).mono ?_
 rintro e w2 ⟨rfl, hb2⟩
 have HT2 := aa ((HT0.out.below sM.out).below hb2)
 have HB2 := aa (ag (ag bQ.out sM.out) hb2)
 obtain ⟨R, hR⟩ : ∃ R, tagged (aU Kv) (aU s) = R := ⟨_, rfl⟩
 have hRl : R.length = 32 := by rw [← hR]; exact dF _ _
 have HN : Kp (newL (aU s) = R) := ⟨hR⟩
 have fo := aa hRl
 rw [hR]
 clear hb2 HSc sM hR hRl
 go_wp2_with (first
  | ((with_reducible show wpList _ _ _ (⟨some 6, _, _, _, _, _⟩ :: _) _ _); refine lK rfl 237 _ rfl _ (Nc R fo.out) ?_)
  | ((with_reducible show wpList _ _ _ (⟨none, _, _, _, _, _⟩ :: _) _ _); refine wpList_store_row rfl 237 _ _ rfl w.heap.size (di R 0) rfl rfl _ _ HT2.out (aO fo.out) (fq rfl fo.out) (dS _ _) ?_))
 have HRR : Hid (dK (w2.setRow w.heap.size (di R 0)) w.heap.size R 0) := aa HT2.out.setRow
 have fA : Below w.heap.size w (w2.setRow w.heap.size (di R 0)) := aj HB2.out (Nat.le_refl _)
 exact bodyPost_ret (v := .agg (di R 0)) (aC (p := 2) (ty := 237) rfl _ _ ⟨w.heap.size, 0, none⟩ _ rfl (run_loadVar_row _ _ _ _ _ _ _ HRR.out Tryz.underlying237 rfl (aO fo.out))) rfl ⟨by rw [HN.out], fA⟩
end Go.Proofs.YtchcllcbknfikaaGreatDoor