/- Contracts and lemmas: EncC, EncD, TrA, RdgE, DigG, TrB, TrC, TrD, TrE, TrF, TrG, DrA, OpD, DrB, DrC, DrD, LinD, LinF, DrE, Dnx, BrA. -/
import Derived.Laws.AppendOwnNone
import Derived.Deep.MidRow
import Derived.Test.YtgbfhcfhopadaaaGreatDoorBcS
import Derived.Deep.RegionHeld3
import Derived.Deep.AppendLies
import Derived.Test.YtgbfhcfhopadaaaGreatDoorBc2
set_option linter.unusedVariables false
set_option linter.unusedSimpArgs false
set_option maxRecDepth 100000
set_option maxHeartbeats 25600000
namespace Go.Proofs.YtgbfhcfhopadaaaGreatDoor
open Go.RowKit ou
theorem qK (n : Int) (hn1 : -9223372036854775808 ≤ n) (hn2 : n < 9223372036854775808) (B : Option Addr) (cb : Nat) (L : Option Addr) (cl : Nat) (w : World) (base : Nat) (v : Value) (xs : List Int) (ho : Hid (aX .u8 5 w base v xs)) (hbase : base ≤ w.heap.size) (hlen : xs.length + 9 ≤ 16384) :
  Calls Tryz.prog 129 #[v, .agg #[.int .i64 1, .int .i64 n, .slice B 0 cb, .slice L 0 cl]] w (jF base v xs (enc (.int n)) w) := by
 obtain ⟨i0, hi, hz0, hz1, hz2⟩ := info_parts gq
 obtain ⟨A, cp, rfl, -, -, -⟩ := ho.out.sk
 obtain ⟨N, hN⟩ : ∃ n, xs.length = n := ⟨_, rfl⟩
 rw [hN] at hlen ho ⊢
 have HN := aa hN
 have hlt : (Value.slice A N cp).ownBlock ≠ some w.heap.size := fun e => by have := (ho.out.lt _ e).2; omega
 obtain ⟨W, hW⟩ : ∃ W, w.alloc (.cells #[.int .i64 1, .int .i64 n, .slice B 0 cb, .slice L 0 cl] 142) = W := ⟨_, rfl⟩
 have hF : Four W w.heap.size 0 ⟨1, n, B, 0, cb, L, 0, cl⟩ := by rw [← hW]; exact f_ w ⟨1, n, B, 0, cb, L, 0, cl⟩
 have Em : Hid (App base w (.slice A N cp) xs [] W (.slice A N cp)) := aa (by rw [← hW]; exact App.alloc ho.out _)
 have hbW : base ≤ W.heap.size := by rw [← hW]; simp; omega
 have LU : Hid (W.heap.size = w.heap.size + 1) := aa (by rw [← hW]; simp)
 obtain ⟨c0, c1, c2, c3⟩ := hF.get
 have HC := aa hF
 have hown := Em.out.1.row (n := N) (by rw [List.append_nil, HN.out])
 rw [List.append_nil] at hown
 have HW := aa hW
 clear hN hF hW
 go_in
 go_upto_region 3 with (fail)
 rw [HW.out]
 go_upto_region 4 with (at_builtin; refine wpList_append_lies rfl _ _ 78 rfl base 5 i0 (.int .u8 0) 1 1 Tryz.underlying78 hi hz0 hz1 hz2 rfl (by decide) _ _ _ rfl (hown.alloc _) ⟨W.heap.size, 0, none⟩ 1 1 [.int .u8 1] rfl rfl (cell_one_new _ _ _) (ints_oneCell .u8 [1]) (by decide) (by unfold maxLen; omega) (by omega) (by simp; omega) _ rfl ?_; intro g cap w2 hown2 hgrow2 mP hlt2)
 have HA1 := App.of_lies (v := .slice A N cp) (xs := xs) (ys := [1]) HN.out rfl rfl hown2 hgrow2 mP
 have HA2 : Hid (App base w (.slice A N cp) xs [1] w2 (.slice (some ⟨g, 0, none⟩) (N + 1) cap)) := aa (Em.out.pre (((App.alloc (by have h := Em.out.1; rwa [List.append_nil] at h) _)).pre HA1))
 have hb2 : base ≤ w2.heap.size := Nat.le_trans hbase HA2.out.2.1.size
 have e0 := HA1.cell (cell_below c0 (af _ _)) hlt
 have e1 := HA1.cell (cell_below c1 (af _ _)) hlt
 have e2 := HA1.cell (cell_below c2 (af _ _)) hlt
 have e3 := HA1.cell (cell_below c3 (af _ _)) hlt
 rw [Nat.zero_add] at e1 e2 e3
 have hne2 : (Value.slice (some ⟨g, 0, none⟩) (N + 1) cap).ownBlock ≠ some w.heap.size := fun e => by
  rcases HA1.2.2 with e5 | e5
  · exact hlt (e5 ▸ e)
  · have h5 := e5 _ e; simp at h5; have := LU.out; omega
 clear c0 c1 c2 c3 hown hown2 hgrow2 mP HA1 HC HW
 go_wp2_with fail
 refine (jB base _ (xs ++ [1]) (N + 1) _ 8 (Or.inr rfl) (aa (by rw [List.length_append, HN.out]; rfl)) (by omega) _ (aa HA2.out.1) hb2).mono ?_
 rintro e w3 ⟨v3, rfl, AQ⟩
 have HF : Hid (App base w (.slice A N cp) xs (enc (.int n)) w3 v3) := aa (HA2.out.trans AQ)
 clear AQ HA2
 go_wp2
 go_ret
 exact ⟨_, rfl, HF.out⟩
theorem qL (l : List Int) (n : Nat) (hn : Hid (l.length = n)) (hn0 : 0 < n) (b o : Nat) (cb : Nat) (L : Option Addr) (cl : Nat) (w0 w : World) (base : Nat) (v : Value) (xs : List Int) (hs : Hid (Sk .u8 w0 (some ⟨b, o, none⟩) l)) (hw0 : Hid (Below w0.heap.size w0 w)) (Fx : w0.heap.size ≤ base) (ho : Hid (aX .u8 5 w base v xs)) (hbase : base ≤ w.heap.size) (hlen : xs.length + (n + 5) ≤ 16384) :
  Calls Tryz.prog 129 #[v, .agg #[.int .i64 2, .int .i64 0, .slice (some ⟨b, o, none⟩) n cb, .slice L 0 cl]] w (jF base v xs (enc (.byt l)) w) := by
 obtain ⟨i0, hi, hz0, hz1, hz2⟩ := info_parts gq
 obtain ⟨A, cp, rfl, -, -, -⟩ := ho.out.sk
 obtain ⟨N, hN⟩ : ∃ n, xs.length = n := ⟨_, rfl⟩
 rw [hN] at hlen ho ⊢
 have HN := aa hN
 have hlt : (Value.slice A N cp).ownBlock ≠ some w.heap.size := fun e => by have := (ho.out.lt _ e).2; omega
 obtain ⟨W, hW⟩ : ∃ W, w.alloc (.cells #[.int .i64 2, .int .i64 0, .slice (some ⟨b, o, none⟩) n cb, .slice L 0 cl] 142) = W := ⟨_, rfl⟩
 have hF : Four W w.heap.size 0 ⟨2, 0, some ⟨b, o, none⟩, n, cb, L, 0, cl⟩ := by rw [← hW]; exact f_ w ⟨2, 0, some ⟨b, o, none⟩, n, cb, L, 0, cl⟩
 have Em : Hid (App base w (.slice A N cp) xs [] W (.slice A N cp)) := aa (by rw [← hW]; exact App.alloc ho.out _)
 have hbW : base ≤ W.heap.size := by rw [← hW]; simp; omega
 have LU : Hid (W.heap.size = w.heap.size + 1) := aa (by rw [← hW]; simp)
 obtain ⟨c0, c1, c2, c3⟩ := hF.get
 have HC := aa hF
 have hown := Em.out.1.row (n := N) (by rw [List.append_nil, HN.out])
 rw [List.append_nil] at hown
 have HW := aa hW
 clear hN hF hW
 go_in
 go_upto_region 3 with (fail)
 rw [HW.out]
 go_upto_region 4 with (at_builtin; refine wpList_append_lies rfl _ _ 78 rfl base 5 i0 (.int .u8 0) 1 1 Tryz.underlying78 hi hz0 hz1 hz2 rfl (by decide) _ _ _ rfl (hown.alloc _) ⟨W.heap.size, 0, none⟩ 1 1 [.int .u8 2] rfl rfl (cell_one_new _ _ _) (ints_oneCell .u8 [2]) (by decide) (by unfold maxLen; omega) (by omega) (by simp; omega) _ rfl ?_; intro g cap w2 hown2 hgrow2 mP hlt2)
 have HA1 := App.of_lies (v := .slice A N cp) (xs := xs) (ys := [2]) HN.out rfl rfl hown2 hgrow2 mP
 have HA2 : Hid (App base w (.slice A N cp) xs [2] w2 (.slice (some ⟨g, 0, none⟩) (N + 1) cap)) := aa (Em.out.pre (((App.alloc (by have h := Em.out.1; rwa [List.append_nil] at h) _)).pre HA1))
 have hb2 : base ≤ w2.heap.size := Nat.le_trans hbase HA2.out.2.1.size
 have e0 := HA1.cell (cell_below c0 (af _ _)) hlt
 have e1 := HA1.cell (cell_below c1 (af _ _)) hlt
 have e2 := HA1.cell (cell_below c2 (af _ _)) hlt
 have e3 := HA1.cell (cell_below c3 (af _ _)) hlt
 rw [Nat.zero_add] at e1 e2 e3
 have hne2 : (Value.slice (some ⟨g, 0, none⟩) (N + 1) cap).ownBlock ≠ some w.heap.size := fun e => by
  rcases HA1.2.2 with e5 | e5
  · exact hlt (e5 ▸ e)
  · have h5 := e5 _ e; simp at h5; have := LU.out; omega
 clear c0 c1 c2 c3 hown hown2 hgrow2 mP HA1 HC HW
 have u1 : IntKind.u64.wrap (n : Int) = (n : Int) := by simp [IntKind.wrap, IntKind.bits, IntKind.signed]; omega
 go_wp2_with fail
 have HE2 := aa e2
 clear e0 e1 e2 e3
 refine bq (S := fun w' => w'.cell? ⟨w.heap.size, 2, none⟩ = some (.slice (some ⟨b, o, none⟩) n cb)) (E := [8, 9]) (by kernel_rfl) (cell_below HE2.out (Below.refl _ _).drew) (fun hHeld => ?_)
 refine bz 0 ?_
 refine bz 1 ?_
 refine bz 2 ?_
 refine bz 3 ?_
 refine bz 4 ?_
 refine bz 6 ?_
 refine bz 7 ?_
 refine dK 5 fun K hK => ?_
 go_simp
 refine (jB base _ (xs ++ [2]) (N + 1) n 4 (Or.inl rfl) (aa (by rw [List.length_append, HN.out]; rfl)) (by omega) _ (aa (HA2.out.1.keep (Below.refl _ _).drew)) hb2).mono ?_
 rintro e w3 ⟨v3, rfl, AQ⟩
 have EE : Hid (App base w (.slice A N cp) xs (2 :: nU 4 n) w3 v3) := aa (HA2.out.trans ((App.calm HA2.out.1 (Below.refl _ _).drew).pre AQ))
 have hsb := hs.out.below (EE.out.below ho.out hw0.out Fx hw0.out.size)
 have hb3 : base ≤ w3.heap.size := Nat.le_trans hbase EE.out.2.1.size
 have hl3 : (xs ++ 2 :: nU 4 (n : Int)).length = N + 1 + 4 := by rw [List.length_append, HN.out, List.length_cons, l7 (Or.inl rfl)]
 have hrow3 := EE.out.1.row hl3
 refine hK.out _ _ ?_ (fun hHeld => ?_)
 · exact AQ.cell (cell_below HE2.out (Below.refl _ _).drew) hne2
 clear hK K
 try simp only [qq]
 refine En 8 fun K hK => ?_
 refine step_append_lies _ (by rfl) _ _ _ (by rfl) base 5 i0 _ 1 1 Tryz.underlying78 hi hz0 hz1 hz2 rfl (by omega) v3 (N + 1 + 4) ((xs ++ 2 :: nU 4 (n : Int)).map (.int .u8)) (by rfl) hrow3 ⟨b, o, none⟩ n cb (l.map (.int .u8)) (by rfl) (by simp [hn.out]) hsb.news (ints_oneCell .u8 _) hn0 (by unfold maxLen; omega) (by omega) hb3 w3.heap.size rfl ?_
 intro g4 cap4 w4 zJ xL Lf Ot
 have NR := App.of_lies (v := v3) (xs := xs ++ 2 :: nU 4 (n : Int)) (ys := l) hl3 hn.out rfl zJ xL Lf
 refine hK.out _ _ ?_
 clear hK K
 try simp only [qq]
 refine En 9 fun K hK => ?_
 go_simp
 refine hK.out _ _ ?_
 clear hK K
 try simp only [qq]
 refine kT ?_
 have HF : Hid (App base w (.slice A N cp) xs (enc (.byt l)) w4 (.slice (some ⟨g4, 0, none⟩) (N + 1 + 4 + n) cap4)) := aa (by
  rw [iO, hn.out]
  exact EE.out.trans NR)
 clear NR EE HA2 HE2
 go_wp2
 go_ret
 exact ⟨_, rfl, HF.out⟩
theorem Aa (l : List It) (n : Nat) (hn : Hid (l.length = n)) (hn1 : n ≤ 1000) (f : Nat → Ic) (B : Option Addr) (cb : Nat) (L : Option Addr) (cl : Nat) (w0 w : World) (base : Nat) (v : Value) (xs : List Int)
  (h5 : Hid (∀ k, k < l.length → ∃ b o, L = some ⟨b, o, none⟩ ∧ Four w0 b (o + k * 4) (f k))) (h6 : Hid (∀ k, k < l.length → nM w0 (l.getD k default) (f k))) (hw0 : Hid (Below w0.heap.size w0 w)) (Fx : w0.heap.size ≤ base) (ho : Hid (aX .u8 5 w base v xs)) (hbase : base ≤ w.heap.size)
  (hsm : Hid (xs.length + (enc (.lst l)).length ≤ 16384))
  (ih : ∀ (k : Nat), k < l.length → ∀ (w : World) (v : Value) (ys : List Int), Below w0.heap.size w0 w → aX .u8 5 w base v ys → base ≤ w.heap.size → ys.length + (enc (l.getD k default)).length ≤ 16384 → Calls Tryz.prog 129 #[v, (f k).val] w (jF base v ys (enc (l.getD k default)) w)) :
  Calls Tryz.prog 129 #[v, .agg #[.int .i64 3, .int .i64 0, .slice B 0 cb, .slice L n cl]] w (jF base v xs (enc (.lst l)) w) := by
 have hlen : xs.length + 5 ≤ 16384 := by have h := hsm.out; rw [iN, List.length_cons, List.length_append, iU] at h; omega
 have Mo := aa ih
 clear ih
 obtain ⟨i0, hi, hz0, hz1, hz2⟩ := info_parts gq
 obtain ⟨A, cp, rfl, -, -, -⟩ := ho.out.sk
 obtain ⟨N, hN⟩ : ∃ n, xs.length = n := ⟨_, rfl⟩
 rw [hN] at hlen ho ⊢
 have HN := aa hN
 have hlt : (Value.slice A N cp).ownBlock ≠ some w.heap.size := fun e => by have := (ho.out.lt _ e).2; omega
 obtain ⟨W, hW⟩ : ∃ W, w.alloc (.cells #[.int .i64 3, .int .i64 0, .slice B 0 cb, .slice L n cl] 142) = W := ⟨_, rfl⟩
 have hF : Four W w.heap.size 0 ⟨3, 0, B, 0, cb, L, n, cl⟩ := by rw [← hW]; exact f_ w ⟨3, 0, B, 0, cb, L, n, cl⟩
 have Em : Hid (App base w (.slice A N cp) xs [] W (.slice A N cp)) := aa (by rw [← hW]; exact App.alloc ho.out _)
 have hbW : base ≤ W.heap.size := by rw [← hW]; simp; omega
 have LU : Hid (W.heap.size = w.heap.size + 1) := aa (by rw [← hW]; simp)
 obtain ⟨c0, c1, c2, c3⟩ := hF.get
 have HC := aa hF
 have hown := Em.out.1.row (n := N) (by rw [List.append_nil, HN.out])
 rw [List.append_nil] at hown
 have HW := aa hW
 clear hN hF hW
 go_in
 go_upto_region 3 with (fail)
 rw [HW.out]
 go_upto_region 4 with (at_builtin; refine wpList_append_lies rfl _ _ 78 rfl base 5 i0 (.int .u8 0) 1 1 Tryz.underlying78 hi hz0 hz1 hz2 rfl (by decide) _ _ _ rfl (hown.alloc _) ⟨W.heap.size, 0, none⟩ 1 1 [.int .u8 3] rfl rfl (cell_one_new _ _ _) (ints_oneCell .u8 [3]) (by decide) (by unfold maxLen; omega) (by omega) (by simp; omega) _ rfl ?_; intro g cap w2 hown2 hgrow2 mP hlt2)
 have HA1 := App.of_lies (v := .slice A N cp) (xs := xs) (ys := [3]) HN.out rfl rfl hown2 hgrow2 mP
 have HA2 : Hid (App base w (.slice A N cp) xs [3] w2 (.slice (some ⟨g, 0, none⟩) (N + 1) cap)) := aa (Em.out.pre (((App.alloc (by have h := Em.out.1; rwa [List.append_nil] at h) _)).pre HA1))
 have hb2 : base ≤ w2.heap.size := Nat.le_trans hbase HA2.out.2.1.size
 have e0 := HA1.cell (cell_below c0 (af _ _)) hlt
 have e1 := HA1.cell (cell_below c1 (af _ _)) hlt
 have e2 := HA1.cell (cell_below c2 (af _ _)) hlt
 have e3 := HA1.cell (cell_below c3 (af _ _)) hlt
 rw [Nat.zero_add] at e1 e2 e3
 have hne2 : (Value.slice (some ⟨g, 0, none⟩) (N + 1) cap).ownBlock ≠ some w.heap.size := fun e => by
  rcases HA1.2.2 with e5 | e5
  · exact hlt (e5 ▸ e)
  · have h5 := e5 _ e; simp at h5; have := LU.out; omega
 clear c0 c1 c2 c3 hown hown2 hgrow2 mP HA1 HC HW
 have u1 : IntKind.u64.wrap (n : Int) = (n : Int) := by simp [IntKind.wrap, IntKind.bits, IntKind.signed]; omega
 go_wp2_with fail
 refine (jB base _ (xs ++ [3]) (N + 1) n 4 (Or.inl rfl) (aa (by rw [List.length_append, HN.out]; rfl)) (by omega) _ (aa HA2.out.1) hb2).mono ?_
 rintro e w3 ⟨v3, rfl, AQ⟩
 have f3 := AQ.cell e3 hne2
 have EE : Hid (App base w (.slice A N cp) xs (3 :: nU 4 n) w3 v3) := aa (HA2.out.trans AQ)
 clear AQ HA2 e0 e1 e2 e3
 have NR : Hid (App base w (.slice A N cp) xs ((3 :: nU 4 n) ++ eF (l.take 0)) w3 v3) := aa (by rw [List.take_zero]; simpa [eF] using EE.out)
 clear EE
 go_wp2_with fail
 clear f3
 go_loopw [0, 46] (fun p i u => ∃ k : Nat, k ≤ n ∧ i = .int .i64 k ∧ Hid (App base w (.slice A N cp) xs ((3 :: nU 4 n) ++ eF (l.take k)) u p)) (fun _ i _ => n - (intOf i).toNat)
 case atStart => exact ⟨0, by omega, rfl, NR⟩
 case round =>
  obtain ⟨k, hk, rfl, HA⟩ := hrel
  by_cases hlk : k < n
  ·
   have hkl : k < l.length := by rw [hn.out]; exact hlk
   obtain ⟨b, o, hL, h4⟩ := h5.out k hkl
   subst hL
   have hbw := HA.out.below ho.out hw0.out Fx hw0.out.size
   have hle : (xs ++ ((3 :: nU 4 (n : Int)) ++ eF (l.take k))).length + (enc (l.getD k default)).length ≤ 16384 := by
    have h := hsm.out
    have t1 := rC hkl
    have t2 := sI (l := l) (k := k + 1)
    rw [t1, List.length_append] at t2
    rw [iN, List.length_cons, List.length_append, iU] at h
    rw [List.length_append, List.length_append, List.length_cons, l7 (Or.inl rfl)]
    omega
   have hbs : base ≤ wr.heap.size := Nat.le_trans hbase HA.out.2.1.size
   have hstep := rC hkl
   obtain ⟨ic, hic⟩ : ∃ x, f k = x := ⟨_, rfl⟩
   obtain ⟨kd, nn, B', nb, cb', L', nl, cl'⟩ := ic
   obtain ⟨WX, M_⟩ : ∃ u, wr.alloc (.cells #[.int .i64 kd, .int .i64 nn, .slice B' nb cb', .slice L' nl cl'] 142) = u := ⟨_, rfl⟩
   have NQ : Hid (App base w (.slice A N cp) xs ((3 :: nU 4 n) ++ eF (l.take k)) WX u0) := aa (by
    have h := HA.out.trans (App.alloc HA.out.1 (.cells #[.int .i64 kd, .int .i64 nn, .slice B' nb cb', .slice L' nl cl'] 142))
    rw [List.append_nil] at h
    rwa [← M_])
   have Lb : Below w0.heap.size w0 WX := NQ.out.below ho.out hw0.out Fx hw0.out.size
   have OA : base ≤ WX.heap.size := by rw [← M_]; simp; omega
   have Gb := Mo.out k hkl WX u0 _ Lb NQ.out.1 OA hle
   rw [hic] at h4 Gb
   have HC : Hid (Calls Tryz.prog 129 #[u0, .agg #[.int .i64 kd, .int .i64 nn, .slice B' nb cb', .slice L' nl cl']] WX (jF base u0 (xs ++ ((3 :: nU 4 (n : Int)) ++ eF (l.take k))) (enc (l.getD k default)) WX)) := aa Gb
   obtain ⟨Tg, Tf, Te, Td⟩ := (h4.below hbw).get
   obtain ⟨et, het⟩ : ∃ x, enc (l.getD k default) = x := ⟨_, rfl⟩
   rw [het] at HC hstep
   have HST := aa hstep
   have RF := aa M_
   clear hkl h4 hbw hle hstep hic M_ Lb Gb het HA
   go_wp2_with fail
   rw [RF.out]
   refine HC.out.mono ?_
   rintro e w5 ⟨v5, rfl, QY⟩
   have U8 : Hid (App base w (.slice A N cp) xs ((3 :: nU 4 n) ++ eF (l.take (k + 1))) w5 v5) := aa (by
    rw [HST.out, ← List.append_assoc]
    exact NQ.out.trans QY)
   clear QY HC NQ Tg Tf Te Td RF
   go_wp2
   go_roundw
   case rel => exact ⟨k + 1, by omega, by go_num, U8⟩
   case measure => simp [intOf]; omega
  ·
   have HF : Hid (App base w (.slice A N cp) xs (enc (.lst l)) wr u0) := aa (by
    have h := HA.out
    rw [show k = l.length by rw [hn.out]; omega, List.take_length] at h
    rw [iN, hn.out]
    exact h)
   clear HA
   go_wp2
   go_ret
   exact ⟨_, rfl, HF.out⟩
theorem Ab : ∀ (d : Nat) (i : It) (c : Ic) (w0 w : World) (base : Nat) (v : Value) (xs : List Int), fits d i → nM w0 i c → Below w0.heap.size w0 w → w0.heap.size ≤ base → aX .u8 5 w base v xs → base ≤ w.heap.size → xs.length + (enc i).length ≤ 16384 →
  Calls Tryz.prog 129 #[v, c.val] w (jF base v xs (enc i) w) := by
 intro d
 induction d with
 | zero =>
  intro i c w0 w base v xs hf hr hw hwb ho hb hl
  obtain ⟨kd, nn, B, nb, cb, L, nl, cl⟩ := c
  cases hr with
  | int n _ h1 h2 h3 h4 =>
   dsimp only at h1 h2 h3 h4
   subst h1; subst h2; subst h3; subst h4
   exact qK nn hf.1 hf.2 B cb L cl w base v xs (aa ho) hb hl
  | byt b _ h1 h2 h3 h4 h5 =>
   dsimp only at h1 h2 h3 h4 h5
   subst h1; subst h2; subst h4; subst h3
   obtain ⟨b', o', rfl, _⟩ := h5.at0 hf.1.1
   rw [iO, List.length_cons, List.length_append, iU] at hl
   exact qL b b.length (aa rfl) hf.1.1 b' o' cb L cl w0 w base v xs (aa h5) (aa hw) hwb (aa ho) hb (by omega)
  | lst l _ h1 h2 h3 h4 f h5 h6 => exact absurd hf (by simp [fits])
 | succ d ih =>
  intro i c w0 w base v xs hf hr hw hwb ho hb hl
  obtain ⟨kd, nn, B, nb, cb, L, nl, cl⟩ := c
  cases hr with
  | int n _ h1 h2 h3 h4 =>
   dsimp only at h1 h2 h3 h4
   subst h1; subst h2; subst h3; subst h4
   exact qK nn hf.1 hf.2 B cb L cl w base v xs (aa ho) hb hl
  | byt b _ h1 h2 h3 h4 h5 =>
   dsimp only at h1 h2 h3 h4 h5
   subst h1; subst h2; subst h4; subst h3
   obtain ⟨b', o', rfl, _⟩ := h5.at0 hf.1.1
   rw [iO, List.length_cons, List.length_append, iU] at hl
   exact qL b b.length (aa rfl) hf.1.1 b' o' cb L cl w0 w base v xs (aa h5) (aa hw) hwb (aa ho) hb (by omega)
  | lst l _ h1 h2 h3 h4 f h5 h6 =>
   dsimp only at h1 h2 h3 h4 h5
   subst h1; subst h2; subst h3; subst h4
   refine Aa l l.length (aa rfl) hf.1 f B cb L cl w0 w base v xs (aa h5) (aa h6) (aa hw) hwb (aa ho) hb (aa hl) ?_
   intro k hk w' v' ys hw' ho' hb' hl'
   exact ih _ (f k) w0 w' base v' ys (hf.2 _ (by rw [List.getD_eq_getElem?_getD, List.getElem?_eq_getElem hk]; exact List.getElem_mem hk)) (h6 k hk) hw' hwb ho' hb' hl'
def G_ (ys : List Int) (w : World) (e : Ending) (w' : World) : Prop := ∃ v, e = .returned (.tuple #[v, .int .i64 0]) ∧ aX .u8 5 w' w.heap.size v ys ∧ Below w.heap.size w w'
theorem pK (i : It) (c : Ic) (w : World) (hf : fits 8 i) (hr : nM w i c) (hl : (enc i).length ≤ 16384) :
  Calls Tryz.prog 120 #[c.val] w (G_ (enc i) w) := by
 have HV := aa (xV i c (w.alloc (lQ c)) hf (hr.kept (af _ _)))
 have hF := f_ w c
 have HE : Hid (∀ u, Below (w.alloc (lQ c)).heap.size (w.alloc (lQ c)) u → Calls Tryz.prog 129 #[.slice none 0 0, c.val] u (jF u.heap.size (.slice none 0 0) [] (enc i) u)) := aa (fun u hu =>
  Ab 8 i c w u u.heap.size (.slice none 0 0) [] hf hr (ag (af _ _) hu) (by have := hu.size; simp at this; omega) (uJ _ _) (Nat.le_refl _) (by simpa using hl))
 obtain ⟨ys, hys⟩ : ∃ ys, enc i = ys := ⟨_, rfl⟩
 rw [hys] at HE hl ⊢
 obtain ⟨kd, nn, B, nb, cb, L, nl, cl⟩ := c
 obtain ⟨W, hW⟩ : ∃ W, w.alloc (lQ ⟨kd, nn, B, nb, cb, L, nl, cl⟩) = W := ⟨_, rfl⟩
 rw [hW] at HV HE hF
 have cK : Hid (Below w.heap.size w W) := aa (by rw [← hW]; exact af _ _)
 have HF := aa hF
 have HW : Hid (w.alloc (.cells #[.int .i64 kd, .int .i64 nn, .slice B nb cb, .slice L nl cl] 142) = W) := aa hW
 show Calls Tryz.prog 120 #[.agg #[.int .i64 kd, .int .i64 nn, .slice B nb cb, .slice L nl cl]] w (G_ ys w)
 obtain ⟨c0, c1, c2, c3⟩ := hF.get
 clear hf hr hys hW hF
 go_in
 go_wp2_with fail
 rw [HW.out]
 refine HV.out.mono ?_
 rintro e w2 ⟨rfl, hb0⟩
 obtain ⟨d0, d1, d2, d3⟩ := (HF.out.below hb0).get
 have HE2 := aa (HE.out w2 hb0)
 have HB2 := aa (ag cK.out hb0)
 clear c0 c1 c2 c3 hb0 HE HV HW
 go_wp2_with fail
 refine HE2.out.mono ?_
 rintro e w3 ⟨v3, rfl, AQ⟩
 have Bo : Hid (aX .u8 5 w3 w2.heap.size v3 ys) := aa (by have h := AQ.1; rwa [List.nil_append] at h)
 have HB3 : Hid (Below w.heap.size w w3) := aa (AQ.below (B := w.heap.size) (uJ _ _) HB2.out HB2.out.size HB2.out.size)
 have hz : w.heap.size ≤ w2.heap.size := HB2.out.size
 clear AQ HE2 d0 d1 d2 d3
 obtain ⟨A, cp, rfl, -, -, -⟩ := Bo.out.sk
 obtain ⟨N, hN⟩ : ∃ n, ys.length = n := ⟨_, rfl⟩
 rw [hN] at hl Bo ⊢
 clear hN
 have t1 : ¬ 16384 < N := by omega
 go_wp2
 go_ret2
 exact ⟨_, rfl, Bo.out.mono hz, HB3.out⟩
def aI (c : Ic) : List Value := [.int .i64 c.kind, .int .i64 c.n, .slice c.B c.nb c.cb, .slice c.L c.nl c.cl]
theorem lN : (Tryz.prog.info? 142).map (fun i => (i.zero, i.size, i.bytes)) = some (some (.agg #[.int .i64 0, .int .i64 0, .slice none 0 0, .slice none 0 0]), 4, 64) := by kernel_rfl
theorem pI (w : World) (a j : Nat) (v : Value) : w.grownBy (w.setCell ⟨a, j, none⟩ v) (some a) :=
 ⟨rfl, rfl, rfl, by simp [World.setCell], fun k hk hne => by
  have : a ≠ k := fun e => hne (by rw [e])
  simp [World.setCell, Array.getElem?_modify, this]⟩
theorem iI {w w1 : World} {row : Option Nat} {p : Addr} {v : Value} (h : Own w p v) (hg : w.grownBy w1 row) (hne : row ≠ some p.block) : Own w1 p v := by
 have hlt := World.block_lt_of_cell? _ _ h.1
 exact ⟨by rw [hg.cell_far _ hlt (Ne.symm hne)]; exact h.1, by rw [hg.frozen_far _ hlt (Ne.symm hne)]; exact h.2⟩
theorem jo {w : World} {p q : Addr} {v u : Value} (h : Own w p v) (hne : q ≠ p) : Own (w.setCell q u) p v :=
 ⟨by rw [World.cell?_setCell_other _ _ _ _ hne]; exact h.1, by rw [World.frozen?_setCell]; exact h.2⟩
theorem gG {w : World} {p : Addr} {v u : Value} (h : Own w p v) : Own (w.setCell p u) p u :=
 ⟨World.cell?_setCell_same _ _ _ h.1, by rw [World.frozen?_setCell]; exact h.2⟩
theorem gL {P : Program} {fn : Func} {p : Tmp} {ty : TypeId} (h : fn.results = #[.cell p ty]) (tmps : Array Value) (w : World) (a : Addr) (v : Value)
  (hp : tmps.getD p undef = .pointer (some a)) (hl : (loadVar ty a).run P w = .ok v w) : (results fn tmps).run P w = .ok v w := by
 have hp' : tmps[p]?.getD undef = .pointer (some a) := by simpa using hp
 simp [results, h, hp', asAddr, hl]
def dJ (w : World) (base : Nat) (v : Value) (cs : List Ic) : Prop := w.ownsRow base 142 4 v cs.length (cs.flatMap aI)
instance QB : Inhabited Ic := ⟨⟨0, 0, none, 0, 0, none, 0, 0⟩⟩
theorem Dt (cs : List Ic) (k r : Nat) (hr : r < 4) (hk : k < cs.length) : (cs.flatMap aI)[k * 4 + r]? = (aI (cs.getD k default))[r]? := by
 induction cs generalizing k with
 | nil => simp at hk
 | cons c cs ih =>
  cases k with
  | zero =>
   rw [List.flatMap_cons, Nat.zero_mul, Nat.zero_add, List.getElem?_append_left (by simpa [aI] using hr)]
   rfl
  | succ k =>
   rw [List.flatMap_cons, List.getElem?_append_right (by simp [aI]; omega)]
   rw [show (k + 1) * 4 + r - (aI c).length = k * 4 + r by simp [aI]; omega]
   rw [ih k (by simpa using hk)]
   rfl
theorem dJ.four {w : World} {base : Nat} {v : Value} {cs : List Ic} (h : dJ w base v cs) (h0 : 0 < cs.length) : ∃ g cap, v = .slice (some ⟨g, 0, none⟩) cs.length cap ∧ base ≤ g ∧ cs.length ≤ cap ∧ ∀ k, k < cs.length → Four w g (0 + k * 4) (cs.getD k default) := by
 obtain ⟨h1, h2⟩ := h
 rcases h2 with ⟨_, h3⟩ | ⟨g, cap, cur, rfl, hg, hh, hn, hc, hs, ht⟩
 · omega
 ·
  refine ⟨g, cap, rfl, hg, hn, fun k hk => ?_⟩
  have key : ∀ r, r < 4 → w.cell? ⟨g, k * 4 + r, none⟩ = (aI (cs.getD k default))[r]? := fun r hr => by
   rw [aj hh, ← Array.getElem?_toList, ← Dt cs k r hr hk, ← ht, List.getElem?_take_of_lt (by omega)]
  rw [Nat.zero_add]
  exact ⟨key 0 (by omega), key 1 (by omega), key 2 (by omega), key 3 (by omega)⟩
theorem CF (w : World) (base : Nat) : dJ w base (.slice none 0 0) [] := World.ownsRow_nil _ _ _ _
theorem dJ.len {w : World} {base : Nat} {v : Value} {cs : List Ic} (h : dJ w base v cs) : ∃ A cap, v = .slice A cs.length cap := by
 by_cases h0 : 0 < cs.length
 ·
  obtain ⟨g, cap, e, _⟩ := h.four h0
  exact ⟨_, cap, e⟩
 ·
  obtain ⟨_, h2⟩ := h
  rcases h2 with ⟨hv, _⟩ | ⟨g, cap, cur, hv, _⟩
  · exact ⟨none, 0, by rw [hv]; congr 1; omega⟩
  · exact ⟨_, cap, hv⟩
theorem dJ.keep {w w' : World} {B : Nat} {v : Value} {xs : List Ic} (h : dJ w B v xs) (hb : Below w.heap.size w w') : dJ w' B v xs := by
 obtain ⟨h1, h2⟩ := h
 refine ⟨h1, h2.imp id ?_⟩
 rintro ⟨g, cap, cur, rfl, hg, hh, rest⟩
 exact ⟨g, cap, cur, rfl, hg, (hb.block g (Array.getElem?_eq_some_iff.1 hh).1).trans hh, rest⟩
theorem dJ.app {w1 : World} {base k : Nat} {v' : Value} {xs : List Ic} {c : Ic} (hk : k = xs.length)
  (h : w1.ownsRow base 142 4 v' (k + 1) (xs.flatMap aI ++ aI c)) : dJ w1 base v' (xs ++ [c]) := by
 unfold dJ
 rw [List.length_append, List.flatMap_append, List.length_singleton, ← hk]
 simpa using h
theorem dJ.no {w : World} {base a : Nat} {v : Value} {cs : List Ic} (h : dJ w base v cs) (ha : a < base) : v.ownBlock ≠ some a := fun e => by
 have := (World.ownsRow.lt h _ e).1
 omega
theorem dJ.set {w : World} {base a j : Nat} {v u : Value} {cs : List Ic} (h : dJ w base v cs) (ha : a < base) : dJ (w.setCell ⟨a, j, none⟩ u) base v cs :=
 World.ownsRow.kept h (pI w a j u) (Or.inr (h.no ha))
def fU (n : Int) : Ic := ⟨1, n, none, 0, 0, none, 0, 0⟩
theorem xI {l : List Int} {k : Nat} (hk : k < l.length) : (l.take (k + 1)).map fU = (l.take k).map fU ++ [fU (l.getD k 0)] := by
 rw [take_one hk, List.map_append]; rfl
def GJ (i : It) (w : World) (e : Ending) (w' : World) : Prop := ∃ c : Ic, e = .returned c.val ∧ nM w' i c ∧ Below w.heap.size w w'
theorem CZ {w : World} {base : Nat} {v : Value} {l : List Int} (h : dJ w base v (l.map fU)) : ∃ L cl, v = .slice L l.length cl ∧ nM w (.lst (l.map .int)) ⟨3, 0, none, 0, 0, L, l.length, cl⟩ := by
 by_cases h0 : 0 < l.length
 ·
  obtain ⟨g, cap, e, _, _, hf⟩ := h.four (by rw [List.length_map]; exact h0)
  rw [List.length_map] at e hf
  refine ⟨_, cap, e, .lst _ _ rfl rfl rfl (by rw [List.length_map]) (fun k => fU (l.getD k 0)) (fun k hk => ⟨g, 0, rfl, ?_⟩) (fun k hk => ?_)⟩
  ·
   rw [List.length_map] at hk
   have := hf k hk
   have e2 : (l.map fU).getD k default = fU (l.getD k 0) := by
    simp [List.getD_eq_getElem?_getD, List.getElem?_eq_getElem hk]
   rwa [e2] at this
  ·
   rw [List.length_map] at hk
   have e2 : (l.map It.int).getD k default = It.int (l.getD k 0) := by
    simp [List.getD_eq_getElem?_getD, List.getElem?_eq_getElem hk]
   rw [e2]
   exact .int _ _ rfl rfl rfl rfl
 ·
  have e : l = [] := List.eq_nil_of_length_eq_zero (by omega)
  subst e
  obtain ⟨L, cl, hv⟩ := h.len
  exact ⟨L, cl, hv, .lst [] _ rfl rfl rfl rfl (fun _ => default) (fun k hk => absurd hk (by simp)) (fun k hk => absurd hk (by simp))⟩
def Nq (lo : Nat) (w : World) (i : It) (c : Ic) : Prop := ∀ w' : World, (∀ b, lo ≤ b → b < w.heap.size → w'.heap[b]? = w.heap[b]?) → nM w' i c
theorem Nq.it {lo : Nat} {w : World} {i : It} {c : Ic} (h : Nq lo w i c) : nM w i c := h w fun _ _ _ => rfl
theorem xy {w w' : World} {B : Nat} {v : Value} {cs : List Ic} (h : dJ w B v cs) (hw : ∀ b, B ≤ b → b < w.heap.size → w'.heap[b]? = w.heap[b]?) : dJ w' B v cs := by
 obtain ⟨h1, h2⟩ := h
 refine ⟨h1, h2.imp id ?_⟩
 rintro ⟨g, cap, cur, rfl, hg, hh, rest⟩
 exact ⟨g, cap, cur, rfl, hg, (hw g hg (Array.getElem?_eq_some_iff.1 hh).1).trans hh, rest⟩
def yP (i : It) (w : World) (e : Ending) (w' : World) : Prop := ∃ c : Ic, e = .returned c.val ∧ Nq w.heap.size w' i c ∧ Below w.heap.size w w'
theorem yP.it {i : It} {w w' : World} {e : Ending} (h : yP i w e w') : GJ i w e w' := by
 obtain ⟨c, h1, h2, h3⟩ := h
 exact ⟨c, h1, h2.it, h3⟩
theorem CY {w : World} {base lo : Nat} {L : Option Addr} {n cl : Nat} {l : List Int} (h : dJ w base (.slice L n cl) (l.map fU)) (hlo : lo ≤ base) : Nq lo w (.lst (l.map .int)) ⟨3, 0, none, 0, 0, L, l.length, cl⟩ := fun w' hw => by
 obtain ⟨L', cl', e, hr⟩ := CZ (xy h fun b h1 h2 => hw b (by omega) h2)
 simp only [Value.slice.injEq] at e
 obtain ⟨rfl, _, rfl⟩ := e
 exact hr
theorem AB (A : Option Addr) (l : List Int) (n c : Nat) (hn : Hid (l.length = n)) (hbig : n ≤ 1000000) (w : World) (hs : Hid (Sl w A l)) :
  Calls Tryz.prog 106 #[.slice A n c] w (yP (.lst (l.map .int)) w) := by
 obtain ⟨i0, hi, hz0, hz1, hz2⟩ := info_parts lN
 obtain ⟨W, hW⟩ : ∃ W, (w.alloc (.cells #[.int .i64 0, .int .i64 0, .slice none 0 0, .slice none 0 0] 142)).alloc (.cells #[.int .i64 3, .int .i64 0, .slice none 0 0, .slice none 0 0] 142) = W := ⟨_, rfl⟩
 have cK : Hid (Below w.heap.size w W) := aa (by rw [← hW]; exact aB (Below.refl _ _))
 have rJ : Hid (W.heap.size = w.heap.size + 2) := aa (by rw [← hW]; simp)
 have hF : Four W (w.heap.size + 1) 0 ⟨3, 0, none, 0, 0, none, 0, 0⟩ := by
  rw [← hW]
  have h := heap_alloc2_new w (.cells #[.int .i64 0, .int .i64 0, .slice none 0 0, .slice none 0 0] 142) (.cells #[.int .i64 3, .int .i64 0, .slice none 0 0, .slice none 0 0] 142)
  exact ⟨aj h 0, aj h 1, aj h 2, aj h 3⟩
 have hf0 : ∀ j, W.frozen? ⟨w.heap.size + 1, j, none⟩ = false := by
  rw [← hW]
  exact fun j => aP (heap_alloc2_new _ _ _) j
 have HG : Hid ((Four W w.heap.size 0 ⟨0, 0, none, 0, 0, none, 0, 0⟩) ∧ ∀ j, W.frozen? ⟨w.heap.size, j, none⟩ = false) := aa (by
  rw [← hW]
  have h := heap_alloc2_old w (.cells #[.int .i64 0, .int .i64 0, .slice none 0 0, .slice none 0 0] 142) (.cells #[.int .i64 3, .int .i64 0, .slice none 0 0, .slice none 0 0] 142)
  exact ⟨⟨aj h 0, aj h 1, aj h 2, aj h 3⟩, fun j => aP h j⟩)
 have wK : Hid (W.heap[w.heap.size]? = some (.cells #[.int .i64 0, .int .i64 0, .slice none 0 0, .slice none 0 0] 142 (0, 0))) := aa (by rw [← hW]; exact heap_alloc2_old w _ _)
 have HS := aa hs.out
 have HW := aa hW
 have HX : Hid (Own W ⟨w.heap.size + 1, 0, none⟩ (.int .i64 3) ∧ Own W ⟨w.heap.size + 1, 1, none⟩ (.int .i64 0) ∧ Own W ⟨w.heap.size + 1, 2, none⟩ (.slice none 0 0)) := aa ⟨⟨hF.1, hf0 0⟩, ⟨hF.2.1, hf0 1⟩, ⟨hF.2.2.1, hf0 2⟩⟩
 have HL : Hid (Own W ⟨w.heap.size + 1, 3, none⟩ (.slice none 0 0)) := aa ⟨hF.2.2.2, hf0 3⟩
 clear hW hs hF hf0
 go_in
 go_wp2
 rw [HW.out]
 go_loopw [9] (fun i u => ∃ (k : Nat) (v : Value), k ≤ n ∧ i = .int .i64 k ∧ Hid (Own u ⟨w.heap.size + 1, 3, none⟩ v) ∧ Hid (dJ u (w.heap.size + 2) v ((l.take k).map fU)) ∧ Hid (Own u ⟨w.heap.size + 1, 0, none⟩ (.int .i64 3) ∧ Own u ⟨w.heap.size + 1, 1, none⟩ (.int .i64 0) ∧ Own u ⟨w.heap.size + 1, 2, none⟩ (.slice none 0 0)) ∧ Hid (Below (w.heap.size + 1) W u)) (fun i _ => n - (intOf i).toNat)
 case atStart => exact ⟨0, _, by omega, rfl, HL, aa (CF _ _), HX, aa (Below.refl _ _)⟩
 case round =>
  obtain ⟨k, v, hk, rfl, HV, HO, Bw, aG⟩ := hrel
  by_cases hlt : k < n
  ·
   have hkl : k < l.length := by rw [hn.out]; exact hlt
   obtain ⟨b, o, hA, hc⟩ := (HS.out.below (cK.out.trans (aG.out.mono (Nat.le_succ _)))) k hkl
   subst hA
   have GR := aa (xI hkl)
   obtain ⟨x, hx⟩ : ∃ x, l.getD k 0 = x := ⟨_, rfl⟩
   rw [hx] at hc GR
   have wI : Hid (((l.take k).map fU).length = k) := aa (by rw [List.length_map, List.length_take]; omega)
   have hown : wr.ownsRow (w.heap.size + 2) 142 4 v k (((l.take k).map fU).flatMap aI) := by have h := HO.out; unfold dJ at h; rwa [wI.out] at h
   have hbs : w.heap.size + 2 ≤ wr.heap.size := by have := aG.out.size; have := rJ.out; omega
   have hno : v.ownBlock ≠ some (w.heap.size + 1) := HO.out.no (by omega)
   obtain ⟨v3, SL⟩ := HV.out
   have RJ := aa (HV.out.below (af wr (.cells #[.int .i64 1, .int .i64 x, .slice none 0 0, .slice none 0 0] 142)))
   have b1 : k + 1 ≤ maxLen := by unfold maxLen; omega
   have b2 : (k + 1) * 64 ≤ 140737488355328 := by omega
   have b3 : w.heap.size + 2 ≤ (wr.alloc (.cells #[.int .i64 1, .int .i64 x, .slice none 0 0, .slice none 0 0] 142)).heap.size := by simp; omega
   clear hx hkl
   go_wp2_with (at_builtin; refine wpList_append_lies rfl _ _ 140 rfl (w.heap.size + 2) 142 i0 (.agg #[.int .i64 0, .int .i64 0, .slice none 0 0, .slice none 0 0]) 4 64 Tryz.underlying140 hi hz0 hz1 hz2 rfl (by decide) _ _ _ rfl (hown.alloc _) ⟨wr.heap.size, 0, none⟩ 1 1 [.int .i64 1, .int .i64 x, .slice none 0 0, .slice none 0 0] rfl rfl (World.news_of_block (cs := #[.int .i64 1, .int .i64 x, .slice none 0 0, .slice none 0 0]) (t := 142) (fr := (0, 0)) (heap_alloc_new wr _)) (by simp [Value.oneCell']) (by decide) b1 b2 b3 _ rfl ?_; intro g2 cap2 w2 hown2 hgrow2 mP hlt2; obtain ⟨q1, q2⟩ := iI RJ.out hgrow2 hno)
   obtain ⟨v', hv'⟩ : ∃ v', Value.slice (some ⟨g2, 0, none⟩) (k + 1) cap2 = v' := ⟨_, rfl⟩
   rw [hv'] at hown2
   have Uq := aa hv'
   clear hv' mP hlt2
   rw [Uq.out]
   have HB2 : Hid (Below (w.heap.size + 1) W w2) := aa ((aG.out.alloc (by omega) _).grown hgrow2 (by simp; omega) (fun j hj => by have := (World.ownsRow.lt hown j hj).1; omega))
   have Bz : Hid (dJ w2 (w.heap.size + 2) v' ((l.take (k + 1)).map fU)) := aa (by
    rw [GR.out]
    exact dJ.app wI.out.symm hown2)
   have a0 := iI (Bw.out.1.below (af wr (.cells #[.int .i64 1, .int .i64 x, .slice none 0 0, .slice none 0 0] 142))) hgrow2 hno
   have a1 := iI (Bw.out.2.1.below (af wr (.cells #[.int .i64 1, .int .i64 x, .slice none 0 0, .slice none 0 0] 142))) hgrow2 hno
   have a2 := iI (Bw.out.2.2.below (af wr (.cells #[.int .i64 1, .int .i64 x, .slice none 0 0, .slice none 0 0] 142))) hgrow2 hno
   have wF : Hid (Own (w2.setCell ⟨w.heap.size + 1, 3, none⟩ v') ⟨w.heap.size + 1, 3, none⟩ v') := aa (gG ⟨q1, q2⟩)
   have Me : Hid (dJ (w2.setCell ⟨w.heap.size + 1, 3, none⟩ v') (w.heap.size + 2) v' ((l.take (k + 1)).map fU)) := aa (Bz.out.set (by omega))
   have Un : Hid (Own (w2.setCell ⟨w.heap.size + 1, 3, none⟩ v') ⟨w.heap.size + 1, 0, none⟩ (.int .i64 3) ∧ Own (w2.setCell ⟨w.heap.size + 1, 3, none⟩ v') ⟨w.heap.size + 1, 1, none⟩ (.int .i64 0) ∧ Own (w2.setCell ⟨w.heap.size + 1, 3, none⟩ v') ⟨w.heap.size + 1, 2, none⟩ (.slice none 0 0)) :=
    aa ⟨jo a0 (by simp), jo a1 (by simp), jo a2 (by simp)⟩
   have qg : Hid (Below (w.heap.size + 1) W (w2.setCell ⟨w.heap.size + 1, 3, none⟩ v')) := aa (HB2.out.setCell (Nat.le_refl _) _)
   clear b1 b2 b3 hown hown2 hgrow2 HO Bw HV v3 SL q1 q2 a0 a1 a2 HB2 Bz RJ hc
   go_roundw
   case rel => exact ⟨k + 1, v', by omega, by go_num, wF, Me, Un, qg⟩
   case measure => simp [intOf]; omega
  ·
   have Md : Hid (dJ wr (w.heap.size + 2) v (l.map fU)) := aa (by
    have h := HO.out
    rwa [List.take_of_length_le (by have := hn.out; omega)] at h)
   obtain ⟨L, cl, Nf⟩ := Md.out.len
   rw [List.length_map, hn.out] at Nf
   subst Nf
   obtain ⟨p0, Vx⟩ := Bw.out.1
   obtain ⟨p1, Vw⟩ := Bw.out.2.1
   obtain ⟨p2, Vv⟩ := Bw.out.2.2
   obtain ⟨p3, Vu⟩ := HV.out
   have Ke := HG.out
   have r0 := (aG.out.cell (p := ⟨w.heap.size, 0, none⟩) (Nat.lt_succ_self _)).trans HG.out.1.1
   have r1 := (aG.out.cell (p := ⟨w.heap.size, 1, none⟩) (Nat.lt_succ_self _)).trans HG.out.1.2.1
   have r2 := (aG.out.cell (p := ⟨w.heap.size, 2, none⟩) (Nat.lt_succ_self _)).trans HG.out.1.2.2.1
   have r3 := (aG.out.cell (p := ⟨w.heap.size, 3, none⟩) (Nat.lt_succ_self _)).trans HG.out.1.2.2.2
   have z0 := (aG.out.frozen (p := ⟨w.heap.size, 0, none⟩) (Nat.lt_succ_self _)).trans (HG.out.2 0)
   have z1 := (aG.out.frozen (p := ⟨w.heap.size, 1, none⟩) (Nat.lt_succ_self _)).trans (HG.out.2 1)
   have z2 := (aG.out.frozen (p := ⟨w.heap.size, 2, none⟩) (Nat.lt_succ_self _)).trans (HG.out.2 2)
   have z3 := (aG.out.frozen (p := ⟨w.heap.size, 3, none⟩) (Nat.lt_succ_self _)).trans (HG.out.2 3)
   have Gd := aa (cK.out.trans (aG.out.mono (Nat.le_succ _)))
   clear Bw HV HO Ke
   obtain ⟨WF, Lh⟩ : ∃ u, (((wr.setCell ⟨w.heap.size, 0, none⟩ (.int .i64 3)).setCell ⟨w.heap.size, 1, none⟩ (.int .i64 0)).setCell ⟨w.heap.size, 2, none⟩ (.slice none 0 0)).setCell ⟨w.heap.size, 3, none⟩ (.slice L n cl) = u := ⟨_, rfl⟩
   have hgB : WF.heap[w.heap.size]? = some (.cells #[.int .i64 3, .int .i64 0, .slice none 0 0, .slice L n cl] 142 (0, 0)) := by
    have h0 := (aG.out.block w.heap.size (Nat.lt_succ_self _)).trans wK.out
    rw [← Lh, heap_setCell_same _ _ _ _ _ _ (heap_setCell_same _ _ _ _ _ _ (heap_setCell_same _ _ _ _ _ _ (heap_setCell_same _ _ _ _ _ _ h0)))]
    rfl
   have R6 : Hid (dJ WF (w.heap.size + 2) (.slice L n cl) (l.map fU)) := aa (by
    rw [← Lh]
    exact (((Md.out.set (by omega)).set (by omega)).set (by omega)).set (by omega))
   have fO : Hid (Below w.heap.size w WF) := aa (by
    rw [← Lh]
    exact (((Gd.out.setCell (Nat.le_refl _) _).setCell (Nat.le_refl _) _).setCell (Nat.le_refl _) _).setCell (Nat.le_refl _) _)
   have IE := CY (lo := w.heap.size) R6.out (by omega)
   rw [hn.out] at IE
   have HIT := aa IE
   have PO : Kp ((loadVar 142 ⟨w.heap.size, 0, none⟩).run Tryz.prog WF = .ok (.agg #[.int .i64 3, .int .i64 0, .slice none 0 0, .slice L n cl]) WF) := ⟨run_loadVar_row _ _ _ _ _ _ _ hgB Tryz.underlying142 rfl (by kernel_rfl)⟩
   have Uo := aa Lh
   clear IE Md R6 hgB Lh
   go_wp2
   rw [Uo.out]
   exact bodyPost_ret (v := .agg #[.int .i64 3, .int .i64 0, .slice none 0 0, .slice L n cl]) (gL (p := 2) (ty := 142) rfl _ _ ⟨w.heap.size, 0, none⟩ _ rfl PO.out) rfl ⟨⟨3, 0, none, 0, 0, L, n, cl⟩, rfl, HIT.out, fO.out⟩
theorem C8 (A : Option Addr) (l : List Int) (n c : Nat) (hn : Hid (l.length = n)) (hbig : n ≤ 1000000) (w : World) (hs : Hid (Sl w A l)) :
  Calls Tryz.prog 106 #[.slice A n c] w (GJ (.lst (l.map .int)) w) :=
 (AB A l n c hn hbig w hs).mono (fun _ _ h => h.it)
def bW (x : Int) : Bool := decide (x < 33) || decide (126 < x)
def cZ (l : List Int) : Bool := decide (1 ≤ l.length) && decide (l.length ≤ 24) && !(l.any bW)
theorem vZ (x : Int) (w : World) : Calls Tryz.prog 103 #[.int .u8 x] w fun e w' => e = .returned (.bool (bW x)) ∧ w = w' := by
 by_cases h1 : x < 33
 ·
  have e : bW x = true := by simp [bW, h1]
  have d1 : decide (x < 33) = true := by simp [h1]
  rw [e]
  clear e
  go_in
  go_wp2
  go_ret
  exact ⟨rfl, rfl⟩
 ·
  have d1 : decide (x < 33) = false := by simp [h1]
  have e : bW x = decide (126 < x) := by simp [bW, h1]
  rw [e]
  clear e
  go_in
  go_wp2
  go_ret
  exact ⟨rfl, rfl⟩
theorem Fv (A : Option Addr) (xs : List Int) (n c : Nat) (hn : Hid (xs.length = n)) (hbig : n ≤ 100000) (w : World) (hs : Hid (Sk .u8 w A xs)) :
  Calls Tryz.prog 76 #[.slice A n c, .func (.func 103) #[] #[]] w (ng bW xs w) := by
 go_in
 go_wp2
 go_loopw [8] (fun i wr => ∃ k : Nat, k ≤ n ∧ i = .int .i64 k ∧ Hid (xs.any bW = (xs.drop k).any bW) ∧ Hid (Below w.heap.size w wr)) (fun i _ => n - (intOf i).toNat)
 case atStart => exact ⟨0, by omega, rfl, aa rfl, aa (Below.refl _ _)⟩
 case round =>
  obtain ⟨k, hk, rfl, HR, aG⟩ := hrel
  by_cases hlt : k < n
  ·
   have hkl : k < xs.length := by rw [hn.out]; exact hlt
   obtain ⟨b, o, hA, hi⟩ := (hs.out.below aG.out) k hkl
   subst hA
   cases hpx : bW (xs.getD k 0) with
   | false =>
    have HN : Hid (xs.any bW = (xs.drop (k + 1)).any bW) := aa (HR.out.trans (bT hkl hpx))
    obtain ⟨x, hx⟩ : ∃ x, xs.getD k 0 = x := ⟨_, rfl⟩
    rw [hx] at hi hpx
    have pY := aa hpx
    clear hx hkl hpx HR
    go_wp2_with fail
    refine (vZ x _).mono ?_
    rintro e w2 ⟨rfl, rfl⟩
    rw [pY.out]
    go_wp2
    go_roundw
    case rel => exact ⟨k + 1, by omega, by go_num, HN, aG⟩
    case measure => simp [intOf]; omega
   | true =>
    have HN : Hid (xs.any bW = true) := aa (HR.out.trans (bL hkl hpx))
    obtain ⟨x, hx⟩ : ∃ x, xs.getD k 0 = x := ⟨_, rfl⟩
    rw [hx] at hi hpx
    have pY := aa hpx
    clear hx hkl hpx HR
    go_wp2_with fail
    refine (vZ x _).mono ?_
    rintro e w2 ⟨rfl, rfl⟩
    rw [pY.out]
    go_wp2
    go_ret
    exact ⟨_, rfl, by rw [HN.out]; simp, aG.out⟩
  ·
   have HN : Hid (xs.any bW = false) := aa (by
    have h := HR.out
    rwa [List.drop_of_length_le (by have := hn.out; omega)] at h)
   clear HR
   go_wp2
   go_ret
   exact ⟨_, rfl, by rw [HN.out]; rfl, aG.out⟩
theorem I8 (A : Option Addr) (xs : List Int) (n c : Nat) (r : Bool) (hr : Hid (xs.any bW = r)) (hn : Hid (xs.length = n)) (hbig : n ≤ 100000) (w : World) (hs : Hid (Sk .u8 w A xs)) :
  Calls Tryz.prog 45 #[.slice A n c, .func (.func 103) #[] #[]] w (Rt w (.bool r)) := by
 go_in
 go_wp2_with fail
 refine (Fv A xs n c hn hbig _ hs).mono ?_
 rintro e w' ⟨i, rfl, hdi, hb0⟩
 have HD : Hid (decide (0 ≤ i) = r) := aa (hdi.trans hr.out)
 clear hdi
 go_wp2
 go_ret
 exact ⟨by first | rfl | (rw [← HD.out]; rfl), hb0⟩
theorem kr (s : ByteArray) (hs : s.size ≤ 1000) (r : Bool) (hr : Hid (cZ (aO s) = r)) (w : World) :
  Calls Tryz.prog 84 #[.string s] w (Rt w (.bool r)) := by
 by_cases h1 : s.size < 1
 ·
  have e : r = false := by rw [← hr.out, cZ, aN, decide_eq_false (by omega)]; rfl
  have d1 : decide ((1 : Int) ≤ (s.size : Int)) = false := by simp; omega
  subst e
  clear hr
  go_in
  go_wp2
  go_ret
  exact ⟨rfl, Below.refl _ _⟩
 ·
  have d1 : decide ((1 : Int) ≤ (s.size : Int)) = true := by simp; omega
  by_cases h2 : 24 < s.size
  ·
   have e : r = false := by rw [← hr.out, cZ, aN, decide_eq_false (show ¬ s.size ≤ 24 by omega)]; simp
   have d2 : decide ((s.size : Int) ≤ 24) = false := by simp; omega
   subst e
   clear hr
   go_in
   go_wp2
   go_ret
   exact ⟨rfl, Below.refl _ _⟩
  ·
   have d2 : decide ((s.size : Int) ≤ 24) = true := by simp; omega
   obtain ⟨q, hq⟩ : ∃ q, (aO s).any bW = q := ⟨_, rfl⟩
   have e : r = !q := by rw [← hr.out, cZ, aN, decide_eq_true (by omega), decide_eq_true (by omega), hq]; rfl
   subst e
   have HQ := aa hq
   have hcv := fun w => run_bytes_of_string (P := Tryz.prog) w 9 78 5 s Tryz.underlying9 Tryz.underlying78 Tryz.underlying5
   clear hr hq
   go_in
   go_wp2_with fail
   clear hcv
   obtain ⟨Wc, hWc⟩ : ∃ u, (w.alloc (.cells (bytesRow s (grownCap w s.size 0 5)) 5 ((bytesRow s (grownCap w s.size 0 5)).size, (bytesRow s (grownCap w s.size 0 5)).size + 1))).drew = u := ⟨_, rfl⟩
   have qf : Hid (Below w.heap.size w Wc) := aa (by rw [← hWc]; exact (af _ _).drew)
   have HSc : Hid (Sk .u8 Wc (some ⟨w.heap.size, 0, none⟩) (aO s)) := aa (by
    rw [← hWc]
    exact mX (heap_alloc_new w _))
   obtain ⟨gc, hgc⟩ : ∃ g, grownCap w s.size 0 5 = g := ⟨_, rfl⟩
   rw [hWc, hgc]
   clear hWc hgc
   refine (I8 (some ⟨w.heap.size, 0, none⟩) (aO s) s.size gc q HQ (aa (aN s)) (by omega) _ HSc).mono ?_
   rintro e w2 ⟨rfl, hb2⟩
   have hbf := ag qf.out hb2
   clear hb2
   go_wp2
   go_ret
   exact ⟨by first | rfl | simp, hbf⟩
theorem FT {s : ByteArray} {k : Nat} (h : k < s.size) : (aO s).getD k 0 = ((s[k]'h).toNat : Int) := by
 have h2 : k < s.data.toList.length := by simpa using h
 rw [aO, List.getD_eq_getElem?_getD, List.getElem?_map, List.getElem?_eq_getElem h2]
 rfl
theorem wZ (s : ByteArray) (hs : s.size ≤ 1000) (r : Bool) (hr : Hid (cZ (aO s) = r)) (w : World) :
  Calls Tryz.prog 6 #[.string s] w fun e w' => e = .returned (.bool r) ∧ w = w' := by
 by_cases h1 : s.size < 1
 ·
  have e : r = false := by rw [← hr.out, cZ, aN, decide_eq_false (by omega)]; rfl
  have d1 : decide ((s.size : Int) < 1) = true := by simp; omega
  subst e
  clear hr
  go_in
  go_wp2
  go_ret
  exact ⟨rfl, rfl⟩
 ·
  have d1 : decide ((s.size : Int) < 1) = false := by simp; omega
  by_cases h2 : 24 < s.size
  ·
   have e : r = false := by rw [← hr.out, cZ, aN, decide_eq_false (show ¬ s.size ≤ 24 by omega)]; simp
   have d2 : decide ((24 : Int) < (s.size : Int)) = true := by simp; omega
   subst e
   clear hr
   go_in
   go_wp2
   go_ret
   exact ⟨rfl, rfl⟩
  ·
   have d2 : decide ((24 : Int) < (s.size : Int)) = false := by simp; omega
   have HE : Hid (r = !((aO s).any bW)) := aa (by rw [← hr.out, cZ, aN, decide_eq_true (by omega), decide_eq_true (by omega)]; rfl)
   clear hr
   go_in
   go_wp2
   go_loop [3] (fun i => ∃ k : Nat, k ≤ s.size ∧ i = .int .i64 k ∧ Hid ((aO s).any bW = ((aO s).drop k).any bW)) (fun i => s.size - (intOf i).toNat)
   case atStart => exact ⟨0, by omega, rfl, aa rfl⟩
   case round =>
    obtain ⟨k, hk, rfl, HR⟩ := hrel
    by_cases hlt : k < s.size
    ·
     have hkl : k < (aO s).length := by rw [aN]; exact hlt
     have hg := FT hlt
     by_cases t1 : ((s[k]'hlt).toNat : Int) < 33
     ·
      have hN : (aO s).any bW = true := HR.out.trans (bL hkl (by rw [hg]; simp [bW, t1]))
      have e : r = false := by rw [HE.out, hN]; rfl
      have d3 : decide (((s[k]'hlt).toNat : Int) < 33) = true := by simp [t1]
      subst e
      clear hN hg hkl HR HE
      go_wp2
      go_ret
      exact ⟨rfl, rfl⟩
     ·
      have d3 : decide (((s[k]'hlt).toNat : Int) < 33) = false := by simp [t1]
      by_cases t2 : (126 : Int) < ((s[k]'hlt).toNat : Int)
      ·
       have hN : (aO s).any bW = true := HR.out.trans (bL hkl (by rw [hg]; simp [bW, t1, t2]))
       have e : r = false := by rw [HE.out, hN]; rfl
       have d4 : decide ((126 : Int) < ((s[k]'hlt).toNat : Int)) = true := by simp [t2]
       subst e
       clear hN hg hkl HR HE
       go_wp2
       go_ret
       exact ⟨rfl, rfl⟩
      ·
       have HN : Hid ((aO s).any bW = ((aO s).drop (k + 1)).any bW) := aa (HR.out.trans (bT hkl (by rw [hg]; simp [bW, t1, t2])))
       have d4 : decide ((126 : Int) < ((s[k]'hlt).toNat : Int)) = false := by simp [t2]
       clear hg hkl HR
       go_wp2
       go_round
       case rel => exact ⟨k + 1, by omega, by go_num, HN⟩
       case measure => simp [intOf]; omega
    ·
     have e : r = true := by
      rw [HE.out, HR.out, List.drop_of_length_le (by rw [aN]; omega)]; rfl
     subst e
     clear HR HE
     go_wp2
     go_ret
     exact ⟨rfl, rfl⟩
theorem aV {P : Program} {S : World → Prop} {o : Oper} {a : Act} (ty : TypeId) (x : Operand) (ho : o.op = .load ty x)
  (g : Nat) (hx : a.eval x = .pointer (some ⟨g, 0, none⟩)) (t : TypeId) (cs : Array Value) (fr : Nat × Nat) (d : TypeDesc) (hg : ∀ w, S w → w.heap[g]? = some (.cells cs t fr))
  (hu : P.underlying ty = some d) (hd : (match d with | .struct _ | .array _ _ => true | _ => false) = true) (hi : (P.info? ty).map (·.size) = some cs.size) :
  ∀ w, S w → (execOp a.eval o).run P w = .ok (.value (.agg cs)) w := fun w hw => by
 unfold execOp
 simp only [ho, hx, Instr.loadAt, Instr.sureAddr, Sem.run_bind, Sem.run_pure, Result.andThen_ok, run_loadVar_row w g t ty cs fr d (hg w hw) hu hd hi]
def sj (m : Int) (h : List Int) : Nat → Int
 | 0 => 0
 | k + 1 => (sj m h k * 256 + h.getD k 0) % m
def Ff (m : Int) (h : List Int) : Int := sj m h 16
theorem si {m : Int} {h : List Int} (hm : 1 ≤ m) (k : Nat) : 0 ≤ sj m h k ∧ sj m h k < m := by
 cases k with
 | zero => exact ⟨Int.le_refl _, by simp [sj]; omega⟩
 | succ k => exact ⟨Int.emod_nonneg _ (by omega), Int.emod_lt_of_pos _ (by omega)⟩
theorem Dn {acc m a : Int} {j : Nat} (h : acc * 2 ^ j % m = a) : acc * 2 ^ (j + 1) % m = (a + a) % m := by
 rw [← h, Int.pow_succ, ← Int.mul_assoc, Int.mul_comm _ 2, Int.add_emod_emod, Int.emod_add_emod]
 congr 1
 omega
theorem CG {acc m a c : Int} (h : acc * 2 ^ 8 % m = a) : (a + c % m) % m = (acc * 256 + c) % m := by
 rw [← h, Int.add_emod_emod, Int.emod_add_emod]
 rfl
theorem xD (h : List Int) (hh : Hid (h.length = 32)) (hb : Hid (au h = true)) (m : Int) (h1 : 1 ≤ m) (h2 : m < 2305843009213693952) (w : World) :
  Calls Tryz.prog 109 #[.agg (arr .u8 h), .int .i64 m] w (Rt w (.tuple #[.int .i64 (Ff m h), .int .i64 0])) := by
 obtain ⟨W, hW⟩ : ∃ W, w.alloc (.cells (arr .u8 h) 27) = W := ⟨_, rfl⟩
 have cK : Hid (Below w.heap.size w W) := aa (by rw [← hW]; exact af _ _)
 have jT : Hid (bf .u8 27 W w.heap.size h) := aa (by rw [← hW]; exact bf.new _ _)
 have HW := aa hW
 clear hW
 have hm0 : ((m : Int) == 0) = false := by simp; omega
 have hm1 : ¬ m < 1 := by omega
 have hm2 : ¬ 2305843009213693952 ≤ m := by omega
 go_in
 go_wp2
 rw [HW.out]
 go_loopw [6, 17] (fun p i u => ∃ (k : Nat) (acc : Int), k ≤ 16 ∧ i = .int .i64 k ∧ p = .int .i64 acc ∧ Hid (sj m h k = acc) ∧ Hid (Below W.heap.size W u)) (fun _ i _ => 16 - (intOf i).toNat)
 case atStart => exact ⟨0, 0, by omega, rfl, rfl, aa rfl, aa (Below.refl _ _)⟩
 case round =>
  obtain ⟨k, acc, hk, rfl, rfl, HN, aG⟩ := hrel
  have ha := si (m := m) (h := h) h1 k
  rw [HN.out] at ha
  obtain ⟨a0, a1⟩ := ha
  by_cases hlt : k < 16
  ·
   have hc := (jT.out.below aG.out).cell (j := k) (by have := hh.out; omega)
   obtain ⟨c0, c1⟩ := eO hb.out k
   have hnx : sj m h (k + 1) = (acc * 256 + h.getD k 0) % m := by rw [sj, HN.out]
   obtain ⟨c, hcc⟩ : ∃ c, h.getD k 0 = c := ⟨_, rfl⟩
   rw [hcc] at hc c0 c1 hnx
   have D_ := aa hnx
   clear hcc hnx
   have dk : decide ((k : Int) < 16) = true := by simp; omega
   go_wp2
   go_loopw [6, 21] (fun p i u => ∃ (j : Nat) (a : Int), j ≤ 8 ∧ i = .int .i64 j ∧ p = .int .i64 a ∧ Hid (acc * 2 ^ j % m = a) ∧ 0 ≤ a ∧ a < m ∧ Hid (Below W.heap.size W u)) (fun _ i _ => 8 - (intOf i).toNat)
   case atStart => exact ⟨0, acc, by omega, rfl, rfl, aa (by rw [Int.pow_zero, Int.mul_one]; exact Int.emod_eq_of_lt a0 a1), a0, a1, aG⟩
   case round =>
    obtain ⟨j, a, hj, rfl, rfl, HA, b0, b1, mq⟩ := hrel
    by_cases hlj : j < 8
    ·
     have HA2 := aa (Dn HA.out)
     have e0 : 0 ≤ (a + a) % m := Int.emod_nonneg _ (by omega)
     have e1 : (a + a) % m < m := Int.emod_lt_of_pos _ (by omega)
     obtain ⟨q, hq⟩ : ∃ q, (a + a) % m = q := ⟨_, rfl⟩
     rw [hq] at e0 e1 HA2
     have HQ := aa hq
     clear hq HA
     go_wp2_with fail
     refine (sP a a m h2 b0 b1 b0 b1 _).mono ?_
     rintro e w' ⟨rfl, rfl⟩
     rw [HQ.out]
     go_wp2
     go_roundw
     case rel => exact ⟨j + 1, q, by omega, by go_num, rfl, HA2, e0, e1, mq⟩
     case measure => simp [intOf]; omega
    ·
     have SG : Hid (acc * 2 ^ 8 % m = a) := aa (by have h := HA.out; rwa [show j = 8 by omega] at h)
     have HE : Hid ((a + c % m) % m = (acc * 256 + c) % m) := aa (CG SG.out)
     have f0 : 0 ≤ c % m := Int.emod_nonneg _ (by omega)
     have f1 : c % m < m := Int.emod_lt_of_pos _ (by omega)
     obtain ⟨cm, hcm⟩ : ∃ x, c % m = x := ⟨_, rfl⟩
     rw [hcm] at f0 f1 HE
     obtain ⟨q, hq⟩ : ∃ q, (a + cm) % m = q := ⟨_, rfl⟩
     have UJ : Hid (sj m h (k + 1) = q) := aa (by rw [D_.out, ← HE.out, hq])
     have HQ := aa hq
     clear hq HA SG HE D_ HN
     go_wp2_with fail
     refine (sP a cm m h2 b0 b1 f0 f1 _).mono ?_
     rintro e w' ⟨rfl, rfl⟩
     rw [HQ.out]
     go_wp2
     go_roundw
     case rel => exact ⟨k + 1, q, by omega, by go_num, rfl, UJ, mq⟩
     case measure => simp [intOf]; omega
  ·
   have HF : Hid (Ff m h = acc) := aa (by have e := HN.out; rwa [show k = 16 by omega] at e)
   have hbf := ag cK.out aG.out
   clear HN
   go_wp2
   go_ret2
   exact ⟨by rw [HF.out]; rfl, hbf⟩
def ak (h : List Int) (c : Int) : Array Value := arr .u8 h ++ #[.int .i64 c]
theorem sD : ∀ h : List Int, h.length = 32 → ∃ a0 a1 a2 a3 a4 a5 a6 a7 a8 a9 Jr Jq a12 Jp Jo Jn a16 a17 Jm Jl a20 a21 a22 a23 a24 a25 a26 a27 a28 a29 a30 a31, h = [a0, a1, a2, a3, a4, a5, a6, a7, a8, a9, Jr, Jq, a12, Jp, Jo, Jn, a16, a17, Jm, Jl, a20, a21, a22, a23, a24, a25, a26, a27, a28, a29, a30, a31]
 | [a0, a1, a2, a3, a4, a5, a6, a7, a8, a9, Jr, Jq, a12, Jp, Jo, Jn, a16, a17, Jm, Jl, a20, a21, a22, a23, a24, a25, a26, a27, a28, a29, a30, a31], _ => ⟨a0, a1, a2, a3, a4, a5, a6, a7, a8, a9, Jr, Jq, a12, Jp, Jo, Jn, a16, a17, Jm, Jl, a20, a21, a22, a23, a24, a25, a26, a27, a28, a29, a30, a31, rfl⟩
theorem Jg (h : List Int) (hl : h.length = 32) : Tryz.prog.built 90 [(0, .agg (arr .u8 h))] = some (ak h 0) := by
 obtain ⟨a0, a1, a2, a3, a4, a5, a6, a7, a8, a9, Jr, Jq, a12, Jp, Jo, Jn, a16, a17, Jm, Jl, a20, a21, a22, a23, a24, a25, a26, a27, a28, a29, a30, a31, rfl⟩ := sD h hl
 kernel_rfl
theorem Jf (h : List Int) (hl : h.length = 32) (c : Int) : Tryz.prog.built 90 [(0, .agg (arr .u8 h)), (1, .int .i64 c)] = some (ak h c) := by
 obtain ⟨a0, a1, a2, a3, a4, a5, a6, a7, a8, a9, Jr, Jq, a12, Jp, Jo, Jn, a16, a17, Jm, Jl, a20, a21, a22, a23, a24, a25, a26, a27, a28, a29, a30, a31, rfl⟩ := sD h hl
 kernel_rfl
theorem dX {P : Program} {ops : Array Oper} {rest : List Oper} {o : Oper} {a : Act} {w : World} {Q : Exit → Act → World → Prop} (hg : o.guard = none) (t : TypeId) (l : List (Nat × Operand)) (ho : o.op = .build t l.toArray) (cells : Array Value)
  (hf : P.built t (l.map fun x => (x.1, a.eval x.2)) = some cells) (h : wpList P ops Q rest (a.put o.dst (.agg cells)) w) : wpList P ops Q (o :: rest) a w := by
 have e : (l.toArray.map fun (x : Nat × Operand) => (x.1, a.eval x.2)).toList = l.map fun x => (x.1, a.eval x.2) := by simp
 refine wpList_build hg t l.toArray ho ?_ ?_
 ·
  show (P.built t (l.toArray.map fun (x : Nat × Operand) => (x.1, a.eval x.2)).toList).isSome = true
  rw [e, hf]; rfl
 ·
  show wpList P ops Q rest (a.put o.dst (.agg ((P.built t (l.toArray.map fun (x : Nat × Operand) => (x.1, a.eval x.2)).toList).getD #[]))) w
  rw [e, hf]; exact h
theorem fQ {h : List Int} {c : Int} (hl : h.length = 32) : (ak h c).size = 33 := by simp [ak, aK, hl]
theorem KE : (Tryz.prog.info? 90).map (·.size) = some 33 := by kernel_rfl
theorem aY {h : List Int} {c : Int} (hl : h.length = 32) : (Tryz.prog.info? 90).map (·.size) = some (ak h c).size := KE.trans (congrArg some (fQ hl).symm)
theorem ay (h : List Int) (c : Int) : (ak h c).all (·.oneCell') = true := by simp [ak, arr, Value.oneCell']
theorem nO : (#[.int .u8 0, .int .u8 0, .int .u8 0, .int .u8 0, .int .u8 0, .int .u8 0, .int .u8 0, .int .u8 0, .int .u8 0, .int .u8 0, .int .u8 0, .int .u8 0, .int .u8 0, .int .u8 0, .int .u8 0, .int .u8 0, .int .u8 0, .int .u8 0, .int .u8 0, .int .u8 0, .int .u8 0, .int .u8 0, .int .u8 0, .int .u8 0, .int .u8 0, .int .u8 0, .int .u8 0, .int .u8 0, .int .u8 0, .int .u8 0, .int .u8 0, .int .u8 0, .int .i64 0] : Array Value) = ak (aR 32) 0 := rfl
theorem aH {h h' : List Int} {c c' : Int} (hl : h.length = 32) (hl' : h'.length = 32) : (ak h c).size = (ak h' c').size := by rw [fQ hl, fQ hl']
def bX (w : World) (b : Nat) (h : List Int) (c : Int) : Prop := w.heap[b]? = some (.cells (ak h c) 90 (0, 0))
theorem bX.below {w w' : World} {b : Nat} {h : List Int} {c : Int} (hh : bX w b h c) (hb : Below w.heap.size w w') : bX w' b h c := (hb.block b (Array.getElem?_eq_some_iff.1 hh).1).trans hh
theorem bX.new (w : World) (h : List Int) (c : Int) : bX (w.alloc (.cells (ak h c) 90)) w.heap.size h c := heap_alloc_new _ _
theorem bX.lt {w : World} {b : Nat} {h : List Int} {c : Int} (hh : bX w b h c) : b < w.heap.size := (Array.getElem?_eq_some_iff.1 hh).1
theorem bX.setRow {w : World} {b : Nat} {h h' : List Int} {c c' : Int} (hh : bX w b h c) : bX (w.setRow b (ak h' c')) b h' c' := setRow_heap w b _ _ _ _ hh
theorem bX.count {w : World} {b : Nat} {h : List Int} {c : Int} (hh : bX w b h c) (hl : h.length = 32) : w.cell? ⟨b, 32, none⟩ = some (.int .i64 c) := by
 rw [aj hh, ak, Array.getElem?_append_right (by rw [aK, hl]; exact Nat.le_refl _), aK, hl]
 rfl
theorem bX.sk {w : World} {b : Nat} {h : List Int} {c : Int} (hh : bX w b h c) : Sk .u8 w (some ⟨b, 0, none⟩) h := fun j hj => ⟨b, 0, rfl, by
 rw [Nat.zero_add, aj hh, ak, Array.getElem?_append_left (by rw [aK]; exact hj)]
 exact sO hj⟩
theorem oI (h : List Int) (hl : Hid (h.length = 32)) (c : Int) (h0 : 0 ≤ c) (h1 : c ≤ 1000) (w : World) :
  Calls Tryz.prog 107 #[.agg (ak h c)] w (Rt w (.bool true)) := by
 have hc := (bX.new w h c).count hl.out
 have d1 : decide ((0 : Int) ≤ c) = true := by simp [h0]
 have d2 : decide (c ≤ 1000) = true := by simp [h1]
 go_in
 go_wp2
 go_ret
 exact ⟨rfl, af _ _⟩
def Ht : ByteArray := ⟨#[115, 112, 101, 99, 105, 101, 47, 116, 114, 97, 110, 115, 99, 114, 105, 112, 116]⟩
def DT (h : List Int) (c e : Int) : Value := .tuple #[.agg (ak h c), .int .i64 e]
def newL (l : List Int) : List Int := tagged (aO Ht) l
theorem zi (s : ByteArray) (hs : s.size ≤ 1000) (hr : Hid (cZ (aO s) = true)) (w : World) (hv : Hid (bu w)) :
  Calls Tryz.prog 53 #[.string s] w (Rt w (DT (newL (aO s)) 0 0)) := by
 have hs0 : 1 ≤ s.size := by
  have h := hr.out
  rw [cZ, aN] at h
  simp at h
  exact h.1.1
 obtain ⟨W, hW⟩ : ∃ W, w.alloc (.cells #[.int .u8 0, .int .u8 0, .int .u8 0, .int .u8 0, .int .u8 0, .int .u8 0, .int .u8 0, .int .u8 0, .int .u8 0, .int .u8 0, .int .u8 0, .int .u8 0, .int .u8 0, .int .u8 0, .int .u8 0, .int .u8 0, .int .u8 0, .int .u8 0, .int .u8 0, .int .u8 0, .int .u8 0, .int .u8 0, .int .u8 0, .int .u8 0, .int .u8 0, .int .u8 0, .int .u8 0, .int .u8 0, .int .u8 0, .int .u8 0, .int .u8 0, .int .u8 0, .int .i64 0] 90) = W := ⟨_, rfl⟩
 have cK : Hid (Below w.heap.size w W) := aa (by rw [← hW]; exact af _ _)
 have HT0 : Hid (bX W w.heap.size (aR 32) 0) := aa (by rw [← hW, nO]; exact bX.new _ _ _)
 have HV := aa (hv.out.below cK.out)
 have HW := aa hW
 have hcv := fun w => run_bytes_of_string (P := Tryz.prog) w 9 78 5 s Tryz.underlying9 Tryz.underlying78 Tryz.underlying5
 clear hW hv
 go_in
 go_wp2_with fail
 rw [HW.out]
 refine (kr s hs true hr _).mono ?_
 rintro e w1 ⟨rfl, hb1⟩
 have HT1 := aa (HT0.out.below hb1)
 have HB1 := aa (ag cK.out hb1)
 have jV := aa (HV.out.below hb1)
 clear hb1 HW
 go_wp2_with fail
 clear hcv
 obtain ⟨Wc, hWc⟩ : ∃ u, (w1.alloc (.cells (bytesRow s (grownCap w1 s.size 0 5)) 5 ((bytesRow s (grownCap w1 s.size 0 5)).size, (bytesRow s (grownCap w1 s.size 0 5)).size + 1))).drew = u := ⟨_, rfl⟩
 have qf : Hid (Below w1.heap.size w1 Wc) := aa (by rw [← hWc]; exact (af _ _).drew)
 have HSc : Hid (Sk .u8 Wc (some ⟨w1.heap.size, 0, none⟩) (aO s)) := aa (by
  rw [← hWc]
  exact mX (heap_alloc_new w1 _))
 obtain ⟨gc, hgc⟩ : ∃ g, grownCap w1 s.size 0 5 = g := ⟨_, rfl⟩
 rw [hWc, hgc]
 clear hWc hgc
 refine (ku Ht (by decide) (by decide) w1.heap.size 0 gc (aO s) s.size (aa (aN s)) hs0 (by omega) (aa (jP s)) _ HSc (aa (jV.out.below qf.out))).mono ?_
 rintro e w2 ⟨rfl, hb2⟩
 have HT2 := aa ((HT1.out.below qf.out).below hb2)
 have HB2 := aa (ag (ag HB1.out qf.out) hb2)
 obtain ⟨R, hR⟩ : ∃ R, tagged (aO Ht) (aO s) = R := ⟨_, rfl⟩
 have hRl : R.length = 32 := by rw [← hR]; exact dO _ _
 have HN : Kp (newL (aO s) = R) := ⟨hR⟩
 have gy := aa hRl
 rw [hR, show gu R = .tuple #[.agg (arr .u8 R), .int .i64 0] from rfl]
 clear hb2 HSc qf HT1 HB1 jV hR hRl
 go_upto_region 4 with ((with_reducible show wpList _ _ _ (⟨none, _, _, _, _, _⟩ :: _) _ _); refine wpList_store_row rfl 27 _ _ rfl w2.heap.size (arr .u8 R) rfl rfl _ _ (heap_alloc_new _ _) (aF gy.out) (dF (l := aR 32) rfl gy.out) (bF _) ?_)
 rw [World.setRow_alloc_new]
 try simp only [Act.put]
 have Sj : Hid (bf .u8 27 (w2.alloc (.cells (arr .u8 R) 27)) w2.heap.size R) := aa (bf.new _ _)
 have HT3 := aa (HT2.out.below (af w2 (.cells (arr .u8 R) 27)))
 have HB3 := aa (ag HB2.out (af w2 (.cells (arr .u8 R) 27)))
 obtain ⟨W3, hW3⟩ : ∃ u, w2.alloc (.cells (arr .u8 R) 27) = u := ⟨_, rfl⟩
 rw [hW3] at Sj HT3 HB3 ⊢
 clear hW3
 go_wp2_with (first
  | ((with_reducible show wpList _ _ _ (⟨some 16, _, _, _, _, _⟩ :: _) _ _); refine wpList_load_row rfl 27 _ rfl w2.heap.size rfl _ _ _ _ Sj.out Tryz.underlying27 rfl (aF gy.out) ?_)
  | ((with_reducible show wpList _ _ _ (⟨some 17, _, _, _, _, _⟩ :: _) _ _); refine dX rfl 90 _ rfl _ (Jg R gy.out) ?_)
  | ((with_reducible show wpList _ _ _ (⟨none, _, _, _, _, _⟩ :: _) _ _); refine wpList_store_row rfl 90 _ _ rfl w.heap.size (ak R 0) rfl rfl _ _ HT3.out (aY gy.out) (aH rfl gy.out) (ay _ _) ?_))
 have HRR : Hid (bX (W3.setRow w.heap.size (ak R 0)) w.heap.size R 0) := aa HT3.out.setRow
 have fO : Below w.heap.size w (W3.setRow w.heap.size (ak R 0)) := ah HB3.out (Nat.le_refl _)
 exact bodyPost_ret (v := DT R 0 0) (aQ (p := 2) (q := 3) (ty := 90) rfl _ _ ⟨w.heap.size, 0, none⟩ _ _ rfl rfl (run_loadVar_row _ _ _ _ _ _ _ HRR.out Tryz.underlying90 rfl (aY gy.out))) rfl ⟨by rw [HN.out], fO⟩
theorem uV {w : World} {base : Nat} {v : Value} {cs : List Ic} {l : List It} {n : Nat} (h : dJ w base v cs) (hc : cs.length = n) (hl : l.length = n) (hpos : 0 < n) (hr : ∀ k, k < n → nM w (l.getD k default) (cs.getD k default)) :
  ∃ g cap, v = .slice (some ⟨g, 0, none⟩) n cap ∧ nM w (.lst l) ⟨3, 0, none, 0, 0, some ⟨g, 0, none⟩, n, cap⟩ := by
 obtain ⟨g, cap, e, _, _, hf⟩ := h.four (by omega)
 rw [hc] at e hf
 exact ⟨g, cap, e, .lst l _ rfl rfl rfl hl.symm (fun k => cs.getD k default) (fun k hk => ⟨g, 0, rfl, hf k (by omega)⟩) (fun k hk => hr k (by omega))⟩
def fV (A : Option Addr) (n c : Nat) : Ic := ⟨2, 0, A, n, c, none, 0, 0⟩
theorem nZ {w : World} {A : Option Addr} {n c : Nat} {b : List Int} (h : Sk .u8 w A b) (hn : b.length = n) : nM w (.byt b) (fV A n c) := .byt b _ rfl rfl hn.symm rfl h
theorem uK (w : World) (a b : Ic) : dJ (w.alloc (.cells #[.int .i64 a.kind, .int .i64 a.n, .slice a.B a.nb a.cb, .slice a.L a.nl a.cl, .int .i64 b.kind, .int .i64 b.n, .slice b.B b.nb b.cb, .slice b.L b.nl b.cl] 142)) w.heap.size (.slice (some ⟨w.heap.size, 0, none⟩) 2 2) [a, b] :=
 ⟨rfl, Or.inr ⟨w.heap.size, 2, _, rfl, Nat.le_refl _, heap_alloc_new _ _, Nat.le_refl _, by decide, rfl, rfl⟩⟩
theorem AU {w : World} {b : Nat} {c : Ic} (h : Four w b 0 c) (j : Nat) (u : Value) (hj : (aI c)[j]? = some u) : w.cell? ((⟨b, 0, none⟩ : Addr).add j) = some u := by
 obtain ⟨h0, h1, h2, h3⟩ := h
 match j, hj with
 | 0, e => simp [aI] at e; subst e; exact h0
 | 1, e => simp [aI] at e; subst e; exact h1
 | 2, e => simp [aI] at e; subst e; exact h2
 | 3, e => simp [aI] at e; subst e; exact h3
 | j + 4, e => simp [aI] at e
theorem qw (c : Ic) : ∀ u ∈ aI c, u.oneCell' = true := by
 intro u hu
 simp [aI] at hu
 rcases hu with rfl | rfl | rfl | rfl <;> rfl
theorem Hy {K : IntKind} {w w' : World} {B b : Nat} {l : List Int} (h : Sk K w (some ⟨b, 0, none⟩) l) (hb : Below B w w') (hl : b < B) : Sk K w' (some ⟨b, 0, none⟩) l := by
 intro j hj
 obtain ⟨b1, o, e, hc⟩ := h j hj
 injection e with e
 injection e with e1 e2 e3
 subst e1
 subst e2
 exact ⟨b, 0, rfl, (hb.cell (p := ⟨b, 0 + j, none⟩) hl).trans hc⟩
theorem AP (tg : ByteArray) (ht1 : 1 ≤ tg.size) (ht2 : tg.size ≤ 100) (h : List Int) (hl : Hid (h.length = 32)) (hb : Hid (au h = true)) (c : Int) (s : ByteArray) (hs0 : 1 ≤ s.size) (hs : s.size ≤ 1000) (w : World) (hv : Hid (bu w)) :
  Calls Tryz.prog 108 #[.string tg, .agg (ak h c), .string s, .slice none 0 0] w (Rt w (gu (tagged (aO tg) (enc (.lst [.byt h, .byt (aO s)]))))) := by
 obtain ⟨i0, hi, hz0, hz1, hz2⟩ := info_parts lN
 obtain ⟨RR, hRR⟩ : ∃ R, tagged (aO tg) (enc (.lst [.byt h, .byt (aO s)])) = R := ⟨_, rfl⟩
 rw [hRR]
 have JD : Kp (tagged (aO tg) (enc (.lst [.byt h, .byt (aO s)])) = RR) := ⟨hRR⟩
 clear hRR
 obtain ⟨W, hW⟩ : ∃ W, (w.alloc (.cells (ak h c) 90)).alloc (.cells z32 27) = W := ⟨_, rfl⟩
 have cK : Hid (Below w.heap.size w W) := aa (by rw [← hW]; exact aB (Below.refl _ _))
 have HT0 : Hid (bX W w.heap.size h c) := aa (by rw [← hW]; exact heap_alloc2_old _ _ _)
 have jT : Hid (bf .u8 27 W (w.heap.size + 1) (aR 32)) := aa (by rw [← hW, ow]; exact heap_alloc2_new _ _ _)
 have rJ : Hid (W.heap.size = w.heap.size + 2) := aa (by rw [← hW]; simp)
 have HV := aa (hv.out.below cK.out)
 have HW := aa hW
 have hcv := fun w => run_bytes_of_string (P := Tryz.prog) w 9 78 5 s Tryz.underlying9 Tryz.underlying78 Tryz.underlying5
 clear hW hv
 go_in
 go_upto_region 1 with (fail)
 rw [HW.out]
 go_upto_region 2 with (fail)
 clear hcv HW
 obtain ⟨gc, hgc⟩ : ∃ g, grownCap W s.size 0 5 = g := ⟨_, rfl⟩
 rw [hgc]
 obtain ⟨Wc, hWc⟩ : ∃ u, W.alloc (.cells (bytesRow s gc) 5 ((bytesRow s gc).size, (bytesRow s gc).size + 1)) = u := ⟨_, rfl⟩
 rw [hWc]
 have qf : Hid (Below W.heap.size W Wc) := aa (by rw [← hWc]; exact af _ _)
 have HSc : Hid (Sk .u8 Wc (some ⟨W.heap.size, 0, none⟩) (aO s)) := aa (by rw [← hWc]; exact mX (heap_alloc_new W _))
 have JJ : Hid (Wc.heap.size = W.heap.size + 1) := aa (by rw [← hWc]; simp)
 obtain ⟨W2, hW2⟩ : ∃ u, (Wc.alloc (.cells #[.int .i64 2, .int .i64 0, .slice (some ⟨w.heap.size, 0, none⟩) 32 32, .slice none 0 0, .int .i64 2, .int .i64 0, .slice (some ⟨W.heap.size, 0, none⟩) s.size gc, .slice none 0 0] 142)).drew = u := ⟨_, rfl⟩
 have Bz : Hid (dJ W2 Wc.heap.size (.slice (some ⟨W.heap.size + 1, 0, none⟩) 2 2) [fV (some ⟨w.heap.size, 0, none⟩) 32 32, fV (some ⟨W.heap.size, 0, none⟩) s.size gc]) := aa (by
  rw [← hW2]
  have h := (uK Wc (fV (some ⟨w.heap.size, 0, none⟩) 32 32) (fV (some ⟨W.heap.size, 0, none⟩) s.size gc)).keep (Below.refl _ _).drew
  rw [JJ.out] at h ⊢
  exact h)
 have HB2 : Hid (Below W.heap.size W W2) := aa (ag qf.out (by rw [← hW2]; exact (af _ _).drew))
 have HS2 : Hid (Sk .u8 W2 (some ⟨W.heap.size, 0, none⟩) (aO s)) := aa (HSc.out.below (by rw [← hW2]; exact (af _ _).drew))
 have Ti : Wc.heap.size < W2.heap.size := by rw [← hW2]; simp
 rw [hW2]
 clear hW2 hWc hgc HSc qf
 have hrow : W2.ownsRow Wc.heap.size 142 4 (.slice (some ⟨W.heap.size + 1, 0, none⟩) 2 2) 2 ([fV (some ⟨w.heap.size, 0, none⟩) 32 32, fV (some ⟨W.heap.size, 0, none⟩) s.size gc].flatMap aI) := Bz.out
 have Po := hs
 go_wp2_with (at_builtin; refine wpList_append_own_none rfl _ _ 140 rfl Wc.heap.size 142 i0 4 Tryz.underlying140 hi _ _ _ rfl hrow rfl ?_)
 have jW : Hid (∃ g cap, (Value.slice (some ⟨W.heap.size + 1, 0, none⟩) 2 2) = .slice (some ⟨g, 0, none⟩) 2 cap ∧ nM W2 (.lst [.byt h, .byt (aO s)]) ⟨3, 0, none, 0, 0, some ⟨g, 0, none⟩, 2, cap⟩) := aa (uV Bz.out rfl rfl (by decide) (fun k hk => by
  rcases (show k = 0 ∨ k = 1 by omega) with rfl | rfl
  · exact nZ (HT0.out.below HB2.out).sk hl.out
  · exact nZ HS2.out (aN s)))
 obtain ⟨g3, Dx, e3, hit⟩ := jW.out
 simp only [Value.slice.injEq, Option.some.injEq, Addr.mk.injEq] at e3
 obtain ⟨⟨rfl, -⟩, -, rfl⟩ := e3
 have HIT := aa hit
 have HB3 := HB2
 have yX : Hid (fits 8 (.lst [.byt h, .byt (aO s)])) := aa (by
  refine ⟨by simp, fun x hx => ?_⟩
  rcases (by simpa using hx : x = .byt h ∨ x = .byt (aO s)) with rfl | rfl
  · exact ⟨⟨by rw [hl.out]; decide, by rw [hl.out]; decide⟩, hb.out⟩
  · exact ⟨⟨by rw [aN]; omega, by rw [aN]; omega⟩, jP s⟩)
 have HLEN : Hid ((enc (.lst [.byt h, .byt (aO s)])).length ≤ 16384) := aa (by
  rw [iN]
  simp only [eF, iO, List.length_cons, List.length_append, iU, hl.out, aN, List.length_nil]
  omega)
 clear hit jW hrow
 rw [show (Value.agg #[.int .i64 3, .int .i64 0, .slice none 0 0, .slice (some ⟨W.heap.size + 1, 0, none⟩) 2 2]) = (Ic.mk 3 0 none 0 0 (some ⟨W.heap.size + 1, 0, none⟩) 2 2).val from rfl]
 refine (pK _ _ _ yX.out HIT.out HLEN.out).mono ?_
 rintro e w4 ⟨v4, rfl, IB, hb4⟩
 obtain ⟨E, hE⟩ : ∃ E, enc (.lst [.byt h, .byt (aO s)]) = E := ⟨_, rfl⟩
 have Mx : Hid (au E = true) := aa (by rw [← hE]; exact rA yX.out)
 have wL : Hid (0 < E.length ∧ E.length ≤ 16384) := aa (by rw [← hE]; exact ⟨zN _, HLEN.out⟩)
 rw [hE] at IB
 obtain ⟨g4, cap4, e4, hg4, -, -, qx⟩ := IB.cells wL.out.1
 obtain ⟨n4, IC⟩ : ∃ n, E.length = n := ⟨_, rfl⟩
 rw [IC] at e4 wL
 subst e4
 have PI := aa IC
 have wH := aa qx
 have qg := aa (ag HB3.out hb4)
 have Qa : Kp (enc (.lst [.byt h, .byt (aO s)]) = E) := ⟨hE⟩
 clear hE qx IB hb4 IC HIT HLEN yX
 obtain ⟨he0, he1⟩ := wL.out
 go_wp2_with fail
 refine (ku tg ht1 ht2 g4 0 cap4 E n4 PI he0 (by omega) Mx _ wH (aa (HV.out.below qg.out))).mono ?_
 rintro e w5 ⟨rfl, hb5⟩
 have mD := aa (ag qg.out hb5)
 obtain ⟨R, hR⟩ : ∃ R, tagged (aO tg) E = R := ⟨_, rfl⟩
 have gy : Hid (R.length = 32) := aa (by rw [← hR]; exact dO _ _)
 have hRe : RR = R := by rw [← JD.1, Qa.1, hR]
 subst hRe
 rw [hR, show gu RR = .tuple #[.agg (arr .u8 RR), .int .i64 0] from rfl]
 clear hb5 hR wH qg
 have sW : Hid (bf .u8 27 w5 (w.heap.size + 1) (aR 32)) := aa (jT.out.below mD.out)
 go_wp2_with ((with_reducible show wpList _ _ _ (⟨none, _, _, _, _, _⟩ :: _) _ _); refine wpList_store_row rfl 27 _ _ rfl (w.heap.size + 1) (arr .u8 RR) rfl rfl _ _ sW.out (aF gy.out) (dF (l := aR 32) rfl gy.out) (bF _) ?_)
 have HRR : Hid (bf .u8 27 (w5.setRow (w.heap.size + 1) (arr .u8 RR)) (w.heap.size + 1) RR) := aa sW.out.setRow
 have fO : Below w.heap.size w (w5.setRow (w.heap.size + 1) (arr .u8 RR)) := ah (ag cK.out mD.out) (Nat.le_succ _)
 exact bodyPost_ret (v := gu RR) (aQ (p := 8) (q := 9) (ty := 27) rfl _ _ ⟨w.heap.size + 1, 0, none⟩ _ _ rfl rfl (run_loadVar_row _ _ _ _ _ _ _ HRR.out Tryz.underlying27 rfl (aF gy.out))) rfl ⟨rfl, fO⟩
theorem AO (tg : ByteArray) (ht1 : 1 ≤ tg.size) (ht2 : tg.size ≤ 100) (h : List Int) (hl : Hid (h.length = 32)) (hb : Hid (au h = true)) (c : Int) (s : ByteArray) (hs0 : 1 ≤ s.size) (hs : s.size ≤ 1000) (item : It) (cI : Ic) (gm cm : Nat) (w : World) (hv : Hid (bu w)) (hF : Hid (Four w gm 0 cI)) (hI : Hid (nM w item cI)) (hfi : Hid (fits 7 item)) (hle : Hid ((enc item).length ≤ 14000)) :
  Calls Tryz.prog 108 #[.string tg, .agg (ak h c), .string s, .slice (some ⟨gm, 0, none⟩) 1 cm] w (Rt w (gu (tagged (aO tg) (enc (.lst [.byt h, .byt (aO s), item]))))) := by
 obtain ⟨i0, hi, hz0, hz1, hz2⟩ := info_parts lN
 obtain ⟨RR, hRR⟩ : ∃ R, tagged (aO tg) (enc (.lst [.byt h, .byt (aO s), item])) = R := ⟨_, rfl⟩
 rw [hRR]
 have JD : Kp (tagged (aO tg) (enc (.lst [.byt h, .byt (aO s), item])) = RR) := ⟨hRR⟩
 clear hRR
 obtain ⟨W, hW⟩ : ∃ W, (w.alloc (.cells (ak h c) 90)).alloc (.cells z32 27) = W := ⟨_, rfl⟩
 have cK : Hid (Below w.heap.size w W) := aa (by rw [← hW]; exact aB (Below.refl _ _))
 have HT0 : Hid (bX W w.heap.size h c) := aa (by rw [← hW]; exact heap_alloc2_old _ _ _)
 have jT : Hid (bf .u8 27 W (w.heap.size + 1) (aR 32)) := aa (by rw [← hW, ow]; exact heap_alloc2_new _ _ _)
 have rJ : Hid (W.heap.size = w.heap.size + 2) := aa (by rw [← hW]; simp)
 have HV := aa (hv.out.below cK.out)
 have HW := aa hW
 have hcv := fun w => run_bytes_of_string (P := Tryz.prog) w 9 78 5 s Tryz.underlying9 Tryz.underlying78 Tryz.underlying5
 clear hW hv
 go_in
 go_upto_region 1 with (fail)
 rw [HW.out]
 go_upto_region 2 with (fail)
 clear hcv HW
 obtain ⟨gc, hgc⟩ : ∃ g, grownCap W s.size 0 5 = g := ⟨_, rfl⟩
 rw [hgc]
 obtain ⟨Wc, hWc⟩ : ∃ u, W.alloc (.cells (bytesRow s gc) 5 ((bytesRow s gc).size, (bytesRow s gc).size + 1)) = u := ⟨_, rfl⟩
 rw [hWc]
 have qf : Hid (Below W.heap.size W Wc) := aa (by rw [← hWc]; exact af _ _)
 have HSc : Hid (Sk .u8 Wc (some ⟨W.heap.size, 0, none⟩) (aO s)) := aa (by rw [← hWc]; exact mX (heap_alloc_new W _))
 have JJ : Hid (Wc.heap.size = W.heap.size + 1) := aa (by rw [← hWc]; simp)
 obtain ⟨W2, hW2⟩ : ∃ u, (Wc.alloc (.cells #[.int .i64 2, .int .i64 0, .slice (some ⟨w.heap.size, 0, none⟩) 32 32, .slice none 0 0, .int .i64 2, .int .i64 0, .slice (some ⟨W.heap.size, 0, none⟩) s.size gc, .slice none 0 0] 142)).drew = u := ⟨_, rfl⟩
 have Bz : Hid (dJ W2 Wc.heap.size (.slice (some ⟨W.heap.size + 1, 0, none⟩) 2 2) [fV (some ⟨w.heap.size, 0, none⟩) 32 32, fV (some ⟨W.heap.size, 0, none⟩) s.size gc]) := aa (by
  rw [← hW2]
  have h := (uK Wc (fV (some ⟨w.heap.size, 0, none⟩) 32 32) (fV (some ⟨W.heap.size, 0, none⟩) s.size gc)).keep (Below.refl _ _).drew
  rw [JJ.out] at h ⊢
  exact h)
 have HB2 : Hid (Below W.heap.size W W2) := aa (ag qf.out (by rw [← hW2]; exact (af _ _).drew))
 have HS2 : Hid (Sk .u8 W2 (some ⟨W.heap.size, 0, none⟩) (aO s)) := aa (HSc.out.below (by rw [← hW2]; exact (af _ _).drew))
 have Ti : Wc.heap.size < W2.heap.size := by rw [← hW2]; simp
 rw [hW2]
 clear hW2 hWc hgc HSc qf
 have hrow : W2.ownsRow Wc.heap.size 142 4 (.slice (some ⟨W.heap.size + 1, 0, none⟩) 2 2) 2 ([fV (some ⟨w.heap.size, 0, none⟩) 32 32, fV (some ⟨W.heap.size, 0, none⟩) s.size gc].flatMap aI) := Bz.out
 have Po := hs
 have NK : Hid (Four W2 gm 0 cI) := aa ((hF.out.below cK.out).below HB2.out)
 have HI2 : Hid (nM W2 item cI) := aa ((hI.out.kept cK.out).kept HB2.out)
 have Gd : Wc.heap.size ≤ W2.heap.size := by omega
 have b1 : 2 + 1 ≤ maxLen := by unfold maxLen; omega
 have b2 : (2 + 1) * 64 ≤ 140737488355328 := by omega
 have R7 : ∀ (j : Nat) (u : Value), (aI cI)[j]? = some u → W2.cell? ((⟨gm, 0, none⟩ : Addr).add j) = some u := AU NK.out
 go_wp2_with (at_builtin; refine wpList_append_lies rfl _ _ 140 rfl Wc.heap.size 142 i0 (.agg #[.int .i64 0, .int .i64 0, .slice none 0 0, .slice none 0 0]) 4 64 Tryz.underlying140 hi hz0 hz1 hz2 rfl (by decide) _ _ _ rfl hrow ⟨gm, 0, none⟩ 1 cm (aI cI) rfl rfl R7 (qw cI) (by decide) b1 b2 Gd _ rfl ?_; intro g3 Dx w3 hown3 hgrow3 OE hlt3)
 have HB3 : Hid (Below W.heap.size W w3) := aa (HB2.out.grown hgrow3 (by have := JJ.out; omega) (fun j hj => by have := JJ.out; have := (World.ownsRow.lt hrow j hj).1; omega))
 have MR : Hid (Below (W.heap.size + 1) W2 w3) := aa ((Below.refl _ _).grown hgrow3 (by have := JJ.out; omega) (fun j hj => by have := JJ.out; have := (World.ownsRow.lt hrow j hj).1; omega))
 have Bo : Hid (dJ w3 Wc.heap.size (.slice (some ⟨g3, 0, none⟩) 3 Dx) [fV (some ⟨w.heap.size, 0, none⟩) 32 32, fV (some ⟨W.heap.size, 0, none⟩) s.size gc, cI]) := aa hown3
 have jW : Hid (∃ g cap, (Value.slice (some ⟨g3, 0, none⟩) 3 Dx) = .slice (some ⟨g, 0, none⟩) 3 cap ∧ nM w3 (.lst [.byt h, .byt (aO s), item]) ⟨3, 0, none, 0, 0, some ⟨g, 0, none⟩, 3, cap⟩) := aa (uV Bo.out rfl rfl (by decide) (fun k hk => by
  rcases (show k = 0 ∨ k = 1 ∨ k = 2 by omega) with rfl | rfl | rfl
  · exact nZ (HT0.out.below HB3.out).sk hl.out
  · exact nZ (Hy HS2.out MR.out (by omega)) (aN s)
  · exact ((hI.out.kept cK.out).kept HB3.out)))
 obtain ⟨g, cap, e3, hit⟩ := jW.out
 simp only [Value.slice.injEq, Option.some.injEq, Addr.mk.injEq] at e3
 obtain ⟨⟨rfl, -⟩, -, rfl⟩ := e3
 have HIT := aa hit
 have yX : Hid (fits 8 (.lst [.byt h, .byt (aO s), item])) := aa (by
  refine ⟨by simp, fun x hx => ?_⟩
  rcases (by simpa using hx : x = .byt h ∨ x = .byt (aO s) ∨ x = item) with rfl | rfl | rfl
  · exact ⟨⟨by rw [hl.out]; decide, by rw [hl.out]; decide⟩, hb.out⟩
  · exact ⟨⟨by rw [aN]; omega, by rw [aN]; omega⟩, jP s⟩
  · exact hfi.out)
 have HLEN : Hid ((enc (.lst [.byt h, .byt (aO s), item])).length ≤ 16384) := aa (by
  have := hle.out
  rw [iN]
  simp only [eF, iO, List.length_cons, List.length_append, iU, hl.out, aN, List.length_nil]
  omega)
 clear hit jW hrow Bo hown3 hgrow3 OE hlt3 R7 NK HI2 MR
 rw [show (Value.agg #[.int .i64 3, .int .i64 0, .slice none 0 0, .slice (some ⟨g3, 0, none⟩) 3 Dx]) = (Ic.mk 3 0 none 0 0 (some ⟨g3, 0, none⟩) 3 Dx).val from rfl]
 refine (pK _ _ _ yX.out HIT.out HLEN.out).mono ?_
 rintro e w4 ⟨v4, rfl, IB, hb4⟩
 obtain ⟨E, hE⟩ : ∃ E, enc (.lst [.byt h, .byt (aO s), item]) = E := ⟨_, rfl⟩
 have Mx : Hid (au E = true) := aa (by rw [← hE]; exact rA yX.out)
 have wL : Hid (0 < E.length ∧ E.length ≤ 16384) := aa (by rw [← hE]; exact ⟨zN _, HLEN.out⟩)
 rw [hE] at IB
 obtain ⟨g4, cap4, e4, hg4, -, -, qx⟩ := IB.cells wL.out.1
 obtain ⟨n4, IC⟩ : ∃ n, E.length = n := ⟨_, rfl⟩
 rw [IC] at e4 wL
 subst e4
 have PI := aa IC
 have wH := aa qx
 have qg := aa (ag HB3.out hb4)
 have Qa : Kp (enc (.lst [.byt h, .byt (aO s), item]) = E) := ⟨hE⟩
 clear hE qx IB hb4 IC HIT HLEN yX
 obtain ⟨he0, he1⟩ := wL.out
 go_wp2_with fail
 refine (ku tg ht1 ht2 g4 0 cap4 E n4 PI he0 (by omega) Mx _ wH (aa (HV.out.below qg.out))).mono ?_
 rintro e w5 ⟨rfl, hb5⟩
 have mD := aa (ag qg.out hb5)
 obtain ⟨R, hR⟩ : ∃ R, tagged (aO tg) E = R := ⟨_, rfl⟩
 have gy : Hid (R.length = 32) := aa (by rw [← hR]; exact dO _ _)
 have hRe : RR = R := by rw [← JD.1, Qa.1, hR]
 subst hRe
 rw [hR, show gu RR = .tuple #[.agg (arr .u8 RR), .int .i64 0] from rfl]
 clear hb5 hR wH qg
 have sW : Hid (bf .u8 27 w5 (w.heap.size + 1) (aR 32)) := aa (jT.out.below mD.out)
 go_wp2_with ((with_reducible show wpList _ _ _ (⟨none, _, _, _, _, _⟩ :: _) _ _); refine wpList_store_row rfl 27 _ _ rfl (w.heap.size + 1) (arr .u8 RR) rfl rfl _ _ sW.out (aF gy.out) (dF (l := aR 32) rfl gy.out) (bF _) ?_)
 have HRR : Hid (bf .u8 27 (w5.setRow (w.heap.size + 1) (arr .u8 RR)) (w.heap.size + 1) RR) := aa sW.out.setRow
 have fO : Below w.heap.size w (w5.setRow (w.heap.size + 1) (arr .u8 RR)) := ah (ag cK.out mD.out) (Nat.le_succ _)
 exact bodyPost_ret (v := gu RR) (aQ (p := 8) (q := 9) (ty := 27) rfl _ _ ⟨w.heap.size + 1, 0, none⟩ _ _ rfl rfl (run_loadVar_row _ _ _ _ _ _ _ HRR.out Tryz.underlying27 rfl (aF gy.out))) rfl ⟨rfl, fO⟩
def BL : ByteArray := { data := #[115, 112, 101, 99, 105, 101, 47, 97, 98, 115, 111, 114, 98] }
def Eu (h s : List Int) (i : It) : List Int := tagged (aO BL) (enc (.lst [.byt h, .byt s, i]))
theorem mo (h s : List Int) (i : It) : (Eu h s i).length = 32 := dO _ _
theorem pJ {w : World} {b : Nat} {c : Ic} {t : TypeId} (h : w.heap[b]? = some (.cells #[.int .i64 c.kind, .int .i64 c.n, .slice c.B c.nb c.cb, .slice c.L c.nl c.cl] t)) : Four w b 0 c :=
 ⟨aj h 0, aj h 1, aj h 2, aj h 3⟩
theorem oJ (h : List Int) (hl : Hid (h.length = 32)) (hb : Hid (au h = true)) (c : Int) (hc0 : 0 ≤ c) (hc1 : c < 1000) (s : ByteArray) (hs : s.size ≤ 1000) (hr : Hid (cZ (aO s) = true)) (item : It) (cI : Ic) (w : World) (hv : Hid (bu w)) (hI : Hid (nM w item cI)) (hfi : Hid (fits 7 item)) (hle : Hid ((enc item).length ≤ 14000)) :
  Calls Tryz.prog 105 #[.agg (ak h c), .string s, .agg #[.int .i64 cI.kind, .int .i64 cI.n, .slice cI.B cI.nb cI.cb, .slice cI.L cI.nl cI.cl]] w (Rt w (DT (Eu h (aO s) item) (c + 1) 0)) := by
 have hs0 : 1 ≤ s.size := by
  have h := hr.out
  rw [cZ, aN] at h
  simp at h
  exact h.1.1
 obtain ⟨i0, hi, hz0, hz1, hz2⟩ := info_parts lN
 obtain ⟨W, hW⟩ : ∃ W, ((w.alloc (.cells (ak h c) 90)).alloc (.cells #[.int .i64 cI.kind, .int .i64 cI.n, .slice cI.B cI.nb cI.cb, .slice cI.L cI.nl cI.cl] 142)).alloc (.cells #[.int .u8 0, .int .u8 0, .int .u8 0, .int .u8 0, .int .u8 0, .int .u8 0, .int .u8 0, .int .u8 0, .int .u8 0, .int .u8 0, .int .u8 0, .int .u8 0, .int .u8 0, .int .u8 0, .int .u8 0, .int .u8 0, .int .u8 0, .int .u8 0, .int .u8 0, .int .u8 0, .int .u8 0, .int .u8 0, .int .u8 0, .int .u8 0, .int .u8 0, .int .u8 0, .int .u8 0, .int .u8 0, .int .u8 0, .int .u8 0, .int .u8 0, .int .u8 0, .int .i64 0] 90) = W := ⟨_, rfl⟩
 have cK : Hid (Below w.heap.size w W) := aa (by rw [← hW]; exact ag (aB (Below.refl _ _)) (af _ _))
 have HT0 : Hid (bX W w.heap.size h c) := aa (by rw [← hW]; exact ((bX.new _ _ _).below (af _ _)).below (af _ _))
 have Si : Hid (W.heap[w.heap.size + 1]? = some (.cells #[.int .i64 cI.kind, .int .i64 cI.n, .slice cI.B cI.nb cI.cb, .slice cI.L cI.nl cI.cl] 142 (0, 0))) := aa (by rw [← hW, ← (show (w.alloc (.cells (ak h c) 90)).heap.size = w.heap.size + 1 by simp)]; exact heap_alloc2_old _ _ _)
 have jT : Hid (bX W (w.heap.size + 1 + 1) (aR 32) 0) := aa (by rw [← hW, nO, show w.heap.size + 1 + 1 = (w.alloc (.cells (ak h c) 90)).heap.size + 1 by simp]; exact heap_alloc2_new _ _ _)
 have rJ : Hid (W.heap.size = w.heap.size + 3) := aa (by rw [← hW]; simp)
 have HV := aa (hv.out.below cK.out)
 have JG := aa (hI.out.kept cK.out)
 have HW := aa hW
 clear hW hv
 go_in
 go_upto_region 1 with (fail)
 rw [HW.out]
 clear HW
 go_wp2_with ((with_reducible show wpList _ _ _ (⟨some 10, _, _, _, _, _⟩ :: _) _ _); refine wpList_load_row rfl 90 _ rfl w.heap.size rfl _ _ _ _ HT0.out Tryz.underlying90 rfl (aY hl.out) ?_)
 refine (oI h hl c hc0 (by omega) _).mono ?_
 rintro e w1 ⟨rfl, hb1⟩
 have HB1 := aa (ag cK.out hb1)
 have HT1 := aa (HT0.out.below hb1)
 have HI1 := aa (JG.out.kept hb1)
 have jV := aa (HV.out.below hb1)
 have HR1 := aa (jT.out.below hb1)
 have Mr : Hid (Four w1 (w.heap.size + 1) 0 cI) := aa (pJ ((hb1.block _ (by have := rJ.out; omega)).trans Si.out))
 clear hb1 HT0 JG HV jT Si cK
 go_wp2_with fail
 refine (kr s hs true hr _).mono ?_
 rintro e w2 ⟨rfl, hb2⟩
 have HT2 := aa (HT1.out.below hb2)
 have HI2 := aa (HI1.out.kept hb2)
 have qd := aa (jV.out.below hb2)
 have HR2 := aa (HR1.out.below hb2)
 have Mq := aa (Mr.out.below hb2)
 have HB2 := aa (ag HB1.out hb2)
 clear hb2 HT1 HI1 jV HR1 Mr HB1
 obtain ⟨f0, f1, f2, f3⟩ := Mq.out
 go_wp2_with ((with_reducible show wpList _ _ _ (⟨some 20, _, _, _, _, _⟩ :: _) _ _); refine wpList_load_row rfl 90 _ rfl w.heap.size rfl _ _ _ _ HT2.out Tryz.underlying90 rfl (aY hl.out) ?_)
 clear f0 f1 f2 f3
 obtain ⟨W3, hW3⟩ : ∃ u, w2.alloc (.cells #[.int .i64 cI.kind, .int .i64 cI.n, .slice cI.B cI.nb cI.cb, .slice cI.L cI.nl cI.cl] 142) = u := ⟨_, rfl⟩
 have Su : Hid (Four W3 w2.heap.size 0 cI) := aa (by rw [← hW3]; exact pJ (heap_alloc_new _ _))
 have hb3 : Below w2.heap.size w2 W3 := by rw [← hW3]; exact af _ _
 rw [hW3]
 have HI3 := aa (HI2.out.kept hb3)
 have Ju := aa (qd.out.below hb3)
 refine (AO BL (by decide) (by decide) h hl hb c s hs0 hs item cI w2.heap.size 1 W3 Ju Su HI3 hfi hle).mono ?_
 rintro e w4 ⟨rfl, hb4⟩
 have J9 := aa ((HT2.out.below hb3).below hb4)
 have HR4 := aa ((HR2.out.below hb3).below hb4)
 have qg := aa (ag (ag HB2.out hb3) hb4)
 obtain ⟨R, hR⟩ : ∃ R, tagged (aO BL) (enc (.lst [.byt h, .byt (aO s), item])) = R := ⟨_, rfl⟩
 have hRl : R.length = 32 := by rw [← hR]; exact dO _ _
 have HN : Kp (Eu h (aO s) item = R) := ⟨hR⟩
 have gy := aa hRl
 rw [hR, show gu R = .tuple #[.agg (arr .u8 R), .int .i64 0] from rfl]
 clear hb3 hb4 hW3 Su HI3 Ju HT2 HI2 qd HR2 HB2 Mq hR hRl
 go_upto_region 4 with ((with_reducible show wpList _ _ _ (⟨none, _, _, _, _, _⟩ :: _) _ _); refine wpList_store_row rfl 27 _ _ rfl w4.heap.size (arr .u8 R) rfl rfl _ _ (heap_alloc_new _ _) (aF gy.out) (dF (l := aR 32) rfl gy.out) (bF _) ?_)
 rw [World.setRow_alloc_new]
 try simp only [Act.put]
 have G7 : Hid (bf .u8 27 (w4.alloc (.cells (arr .u8 R) 27)) w4.heap.size R) := aa (bf.new _ _)
 have F6 := aa (J9.out.below (af w4 (.cells (arr .u8 R) 27)))
 have sW := aa (HR4.out.below (af w4 (.cells (arr .u8 R) 27)))
 have mD := aa (ag qg.out (af w4 (.cells (arr .u8 R) 27)))
 obtain ⟨W5, GA⟩ : ∃ u, w4.alloc (.cells (arr .u8 R) 27) = u := ⟨_, rfl⟩
 rw [GA] at G7 F6 sW mD ⊢
 clear GA
 have hcnt := F6.out.count hl.out
 have hcn : ¬ (c = 1000) := by omega
 have hwr : IntKind.i64.wrap (c + 1) = c + 1 := IntWalk.i64_in _ (by omega)
 go_wp2_with (first
  | ((with_reducible show wpList _ _ _ (⟨some 40, _, _, _, _, _⟩ :: _) _ _); refine wpList_load_row rfl 27 _ rfl w4.heap.size rfl _ _ _ _ G7.out Tryz.underlying27 rfl (aF gy.out) ?_)
  | ((with_reducible show wpList _ _ _ (⟨some 44, _, _, _, _, _⟩ :: _) _ _); refine dX rfl 90 _ rfl _ (Jf R gy.out (c + 1)) ?_)
  | ((with_reducible show wpList _ _ _ (⟨none, _, _, _, _, _⟩ :: _) _ _); refine wpList_store_row rfl 90 _ _ rfl (w.heap.size + 1 + 1) (ak R (c + 1)) rfl rfl _ _ sW.out (aY gy.out) (aH rfl gy.out) (ay _ _) ?_))
 have HRR : Hid (bX (W5.setRow (w.heap.size + 1 + 1) (ak R (c + 1))) (w.heap.size + 1 + 1) R (c + 1)) := aa sW.out.setRow
 have fO : Below w.heap.size w (W5.setRow (w.heap.size + 1 + 1) (ak R (c + 1))) := ah mD.out (by omega)
 exact bodyPost_ret (v := DT R (c + 1) 0) (aQ (p := 6) (q := 7) (ty := 90) rfl _ _ ⟨w.heap.size + 1 + 1, 0, none⟩ _ _ rfl rfl (run_loadVar_row _ _ _ _ _ _ _ HRR.out Tryz.underlying90 rfl (aY gy.out))) rfl ⟨by rw [HN.out], fO⟩
theorem BI (h : List Int) (hl : Hid (h.length = 32)) (hb : Hid (au h = true)) (c : Int) (hc0 : 0 ≤ c) (hc1 : c < 1000) (s : ByteArray) (hs : s.size ≤ 1000) (hr : Hid (cZ (aO s) = true)) (A : Option Addr) (l : List Int) (n cA : Nat) (hn : Hid (l.length = n)) (hbig : n ≤ 1000) (w : World) (hv : Hid (bu w)) (hS : Hid (Sl w A l)) (hfi : Hid (fits 7 (.lst (l.map .int)))) (hle : Hid ((enc (.lst (l.map .int))).length ≤ 14000)) :
  Calls Tryz.prog 88 #[.agg (ak h c), .string s, .slice A n cA] w (Rt w (DT (Eu h (aO s) (.lst (l.map .int))) (c + 1) 0)) := by
 obtain ⟨W, hW⟩ : ∃ W, (w.alloc (.cells (ak h c) 90)).alloc (.cells #[.int .u8 0, .int .u8 0, .int .u8 0, .int .u8 0, .int .u8 0, .int .u8 0, .int .u8 0, .int .u8 0, .int .u8 0, .int .u8 0, .int .u8 0, .int .u8 0, .int .u8 0, .int .u8 0, .int .u8 0, .int .u8 0, .int .u8 0, .int .u8 0, .int .u8 0, .int .u8 0, .int .u8 0, .int .u8 0, .int .u8 0, .int .u8 0, .int .u8 0, .int .u8 0, .int .u8 0, .int .u8 0, .int .u8 0, .int .u8 0, .int .u8 0, .int .u8 0, .int .i64 0] 90) = W := ⟨_, rfl⟩
 have cK : Hid (Below w.heap.size w W) := aa (by rw [← hW]; exact aB (Below.refl _ _))
 have HT0 : Hid (bX W w.heap.size h c) := aa (by rw [← hW]; exact heap_alloc2_old _ _ _)
 have jT : Hid (bX W (w.heap.size + 1) (aR 32) 0) := aa (by rw [← hW, nO]; exact heap_alloc2_new _ _ _)
 have HV := aa (hv.out.below cK.out)
 have UA := aa (hS.out.below cK.out)
 have HW := aa hW
 clear hW hv
 go_in
 go_upto_region 1 with (fail)
 rw [HW.out]
 clear HW
 have EB := aa ((Below.refl W.heap.size W).drew)
 have GM := aa (HT0.out.below EB.out)
 have RS := aa (jT.out.below EB.out)
 have RI := aa (HV.out.below EB.out)
 have z8 := aa (UA.out.below EB.out)
 have HB3 := aa (ag cK.out EB.out)
 obtain ⟨Wd, hWd⟩ : ∃ u, W.drew = u := ⟨_, rfl⟩
 refine bq (S := fun w' => w'.heap[w.heap.size]? = some (.cells (ak h c) 90 (0, 0))) (E := [7, 8]) (by kernel_rfl) (GM.out) (fun hHeld => ?_)
 refine ql 0 (.agg (ak h c)) rfl (aV 90 _ rfl w.heap.size rfl _ _ _ _ (fun _ h => h) Tryz.underlying90 rfl (aY hl.out)) ?_
 refine bz 1 ?_
 refine bz 2 ?_
 refine dK 3 fun K hK => ?_
 go_simp
 try rw [hWd]
 rw [hWd] at EB GM RS RI z8 HB3
 refine (C8 A l n cA hn (by omega) _ z8).mono ?_
 rintro e w4 ⟨cI, rfl, J5, hb4⟩
 refine hK.out _ _ ?_ (fun hHeld => ?_)
 · exact GM.out.below hb4
 clear hK K
 try simp only [qq]
 refine dK 4 fun K hK => ?_
 go_simp
 have wF := aa (RI.out.below hb4)
 rw [show cI.val = (.agg #[.int .i64 cI.kind, .int .i64 cI.n, .slice cI.B cI.nb cI.cb, .slice cI.L cI.nl cI.cl] : Value) from rfl]
 refine (oJ h hl hb c hc0 hc1 s hs hr _ cI _ wF (aa J5) hfi hle).mono ?_
 rintro e w5 ⟨rfl, hb5⟩
 have sW := aa ((RS.out.below hb4).below hb5)
 have mD := aa (ag (ag HB3.out hb4) hb5)
 obtain ⟨R, hR⟩ : ∃ R, Eu h (aO s) (.lst (l.map .int)) = R := ⟨_, rfl⟩
 have hRl : R.length = 32 := by rw [← hR]; exact mo _ _ _
 have HN : Kp (Eu h (aO s) (.lst (l.map .int)) = R) := ⟨hR⟩
 have gy := aa hRl
 rw [hR, show DT R (c + 1) 0 = .tuple #[.agg (ak R (c + 1)), .int .i64 0] from rfl]
 refine hK.out _ _ ?_ (fun hHeld => ?_)
 · exact (GM.out.below hb4).below hb5
 clear hK K
 try simp only [qq]
 refine bz 5 ?_
 refine bz 6 ?_
 refine En 7 fun K hK => ?_
 rw [show (if Region.wanted _ _ = true then _ else _ : Prop) = _ from if_pos rfl]
 refine wp_store_row 90 _ _ rfl (w.heap.size + 1) (ak R (c + 1)) rfl rfl 90 _ sW.out (aY gy.out) (aH rfl gy.out) (ay _ _) ?_
 refine hK.out _ _ ?_
 clear hK K
 try simp only [qq]
 refine En 8 fun K hK => ?_
 go_simp
 refine hK.out _ _ ?_
 clear hK K
 try simp only [qq]
 refine kT ?_
 have HRR : Hid (bX (w5.setRow (w.heap.size + 1) (ak R (c + 1))) (w.heap.size + 1) R (c + 1)) := aa sW.out.setRow
 have fO : Below w.heap.size w (w5.setRow (w.heap.size + 1) (ak R (c + 1))) := ah mD.out (by omega)
 clear hR hRl hb4 hb5 J5 wF mD sW hWd
 go_wp2
 exact bodyPost_ret (v := DT R (c + 1) 0) (aQ (p := 6) (q := 7) (ty := 90) rfl _ _ ⟨w.heap.size + 1, 0, none⟩ _ _ rfl rfl (run_loadVar_row _ _ _ _ _ _ _ HRR.out Tryz.underlying90 rfl (aY gy.out))) rfl ⟨by rw [HN.out], fO⟩
def BK : ByteArray := { data := #[115, 112, 101, 99, 105, 101, 47, 99, 104, 97, 108, 108, 101, 110, 103, 101] }
def OZ (h s : List Int) : List Int := tagged (aO BK) (enc (.lst [.byt h, .byt s]))
def Dr (q : Int) (h s : List Int) : Int := Ff q (OZ h s)
def Nn (q : Int) (h s : List Int) : List Int := Eu h s (.int (Dr q h s))
theorem Bc (h s : List Int) : au (OZ h s) = true := gY _
theorem I4 {q : Int} (hq : 1 ≤ q) (h s : List Int) : 0 ≤ Dr q h s ∧ Dr q h s < q := si hq 16
theorem gF {P : Program} {fn : Func} {p q r : Tmp} {ty : TypeId} (h : fn.results = #[.cell p ty, .tmp q, .tmp r]) (tmps : Array Value) (w : World) (a : Addr) (v u x : Value)
  (hp : tmps.getD p undef = .pointer (some a)) (hq : tmps.getD q undef = u) (hr : tmps.getD r undef = x) (hl : (loadVar ty a).run P w = .ok v w) : (results fn tmps).run P w = .ok (.tuple #[v, u, x]) w := by
 have hp' : tmps[p]?.getD undef = .pointer (some a) := by simpa using hp
 have hq' : tmps[q]?.getD undef = u := by simpa using hq
 have hr' : tmps[r]?.getD undef = x := by simpa using hr
 simp [results, h, hp', hq', hr', asAddr, hl]
def Hf (h : List Int) (c n e : Int) : Value := .tuple #[.agg (ak h c), .int .i64 n, .int .i64 e]
theorem BJ (h : List Int) (hl : Hid (h.length = 32)) (hb : Hid (au h = true)) (c : Int) (hc0 : 0 ≤ c) (hc1 : c < 1000) (s : ByteArray) (hs : s.size ≤ 1000) (hr : Hid (cZ (aO s) = true)) (q : Int) (hq1 : 2 ≤ q) (hq2 : q < 2305843009213693952) (w : World) (hv : Hid (bu w)) :
  Calls Tryz.prog 89 #[.agg (ak h c), .string s, .int .i64 q] w (Rt w (Hf (Nn q h (aO s)) (c + 1) (Dr q h (aO s)) 0)) := by
 have hs0 : 1 ≤ s.size := by
  have h := hr.out
  rw [cZ, aN] at h
  simp at h
  exact h.1.1
 obtain ⟨W, hW⟩ : ∃ W, (w.alloc (.cells (ak h c) 90)).alloc (.cells #[.int .u8 0, .int .u8 0, .int .u8 0, .int .u8 0, .int .u8 0, .int .u8 0, .int .u8 0, .int .u8 0, .int .u8 0, .int .u8 0, .int .u8 0, .int .u8 0, .int .u8 0, .int .u8 0, .int .u8 0, .int .u8 0, .int .u8 0, .int .u8 0, .int .u8 0, .int .u8 0, .int .u8 0, .int .u8 0, .int .u8 0, .int .u8 0, .int .u8 0, .int .u8 0, .int .u8 0, .int .u8 0, .int .u8 0, .int .u8 0, .int .u8 0, .int .u8 0, .int .i64 0] 90) = W := ⟨_, rfl⟩
 have cK : Hid (Below w.heap.size w W) := aa (by rw [← hW]; exact aB (Below.refl _ _))
 have HT0 : Hid (bX W w.heap.size h c) := aa (by rw [← hW]; exact heap_alloc2_old _ _ _)
 have jT : Hid (bX W (w.heap.size + 1) (aR 32) 0) := aa (by rw [← hW, nO]; exact heap_alloc2_new _ _ _)
 have HV := aa (hv.out.below cK.out)
 have HW := aa hW
 have hcn : ¬ (c = 1000) := by omega
 have VF : ¬ (q < 2) := by omega
 have VE : ¬ (2305843009213693952 ≤ q) := by omega
 clear hW hv
 go_in
 go_upto_region 1 with (fail)
 rw [HW.out]
 clear HW
 go_wp2_with ((with_reducible show wpList _ _ _ (⟨some 14, _, _, _, _, _⟩ :: _) _ _); refine wpList_load_row rfl 90 _ rfl w.heap.size rfl _ _ _ _ HT0.out Tryz.underlying90 rfl (aY hl.out) ?_)
 refine (oI h hl c hc0 (by omega) _).mono ?_
 rintro e w1 ⟨rfl, hb1⟩
 have HB1 := aa (ag cK.out hb1)
 have HT1 := aa (HT0.out.below hb1)
 have jV := aa (HV.out.below hb1)
 have HR1 := aa (jT.out.below hb1)
 clear hb1 HT0 HV jT cK
 go_wp2_with fail
 refine (kr s hs true hr _).mono ?_
 rintro e w2 ⟨rfl, hb2⟩
 have HT2 := aa (HT1.out.below hb2)
 have qd := aa (jV.out.below hb2)
 have HR2 := aa (HR1.out.below hb2)
 have HB2 := aa (ag HB1.out hb2)
 clear hb2 HT1 jV HR1 HB1
 have hcnt := HT2.out.count hl.out
 go_wp2_with ((with_reducible show wpList _ _ _ (⟨some 37, _, _, _, _, _⟩ :: _) _ _); refine wpList_load_row rfl 90 _ rfl w.heap.size rfl _ _ _ _ HT2.out Tryz.underlying90 rfl (aY hl.out) ?_)
 clear hcnt
 refine (AP BK (by decide) (by decide) h hl hb c s hs0 hs _ qd).mono ?_
 rintro e w4 ⟨rfl, hb4⟩
 have J9 := aa (HT2.out.below hb4)
 have HR4 := aa (HR2.out.below hb4)
 have wF := aa (qd.out.below hb4)
 have qg := aa (ag HB2.out hb4)
 obtain ⟨R, hR⟩ : ∃ R, tagged (aO BK) (enc (.lst [.byt h, .byt (aO s)])) = R := ⟨_, rfl⟩
 have hRl : R.length = 32 := by rw [← hR]; exact dO _ _
 have Pw : Hid (au R = true) := aa (by rw [← hR]; exact Bc _ _)
 have HN : Kp (OZ h (aO s) = R) := ⟨hR⟩
 have gy := aa hRl
 rw [hR, show gu R = .tuple #[.agg (arr .u8 R), .int .i64 0] from rfl]
 clear hb4 HT2 qd HR2 HB2 hR hRl
 go_upto_region 8 with ((with_reducible show wpList _ _ _ (⟨none, _, _, _, _, _⟩ :: _) _ _); refine wpList_store_row rfl 27 _ _ rfl w4.heap.size (arr .u8 R) rfl rfl _ _ (heap_alloc_new _ _) (aF gy.out) (dF (l := aR 32) rfl gy.out) (bF _) ?_)
 rw [World.setRow_alloc_new]
 try simp only [Act.put]
 have PT : Hid (bf .u8 27 (w4.alloc (.cells (arr .u8 R) 27)) w4.heap.size R) := aa (bf.new _ _)
 have F6 := aa (J9.out.below (af w4 (.cells (arr .u8 R) 27)))
 have sW := aa (HR4.out.below (af w4 (.cells (arr .u8 R) 27)))
 have HV5 := aa (wF.out.below (af w4 (.cells (arr .u8 R) 27)))
 have mD := aa (ag qg.out (af w4 (.cells (arr .u8 R) 27)))
 obtain ⟨W5, GA⟩ : ∃ u, w4.alloc (.cells (arr .u8 R) 27) = u := ⟨_, rfl⟩
 rw [GA] at PT F6 sW mD HV5 ⊢
 clear GA J9 HR4 wF qg
 go_wp2_with ((with_reducible show wpList _ _ _ (⟨some 47, _, _, _, _, _⟩ :: _) _ _); refine wpList_load_row rfl 27 _ rfl w4.heap.size rfl _ _ _ _ PT.out Tryz.underlying27 rfl (aF gy.out) ?_)
 refine (xD R gy Pw q (by omega) hq2 _).mono ?_
 rintro e w6 ⟨rfl, hb6⟩
 have J8 := aa (F6.out.below hb6)
 have G5 := aa (sW.out.below hb6)
 have RL := aa (HV5.out.below hb6)
 have El := aa (ag mD.out hb6)
 obtain ⟨n, hn⟩ : ∃ n, Ff q R = n := ⟨_, rfl⟩
 have hn0 : 0 ≤ n ∧ n < q := by rw [← hn]; exact si (by omega) 16
 obtain ⟨hn1, hn2⟩ := hn0
 have R8 : Kp (Dr q h (aO s) = n) := ⟨by rw [Dr, HN.1]; exact hn⟩
 rw [hn]
 clear hb6 hn F6 sW HV5 mD PT
 go_wp2_with ((with_reducible show wpList _ _ _ (⟨some 57, _, _, _, _, _⟩ :: _) _ _); refine wpList_load_row rfl 90 _ rfl w.heap.size rfl _ _ _ _ J8.out Tryz.underlying90 rfl (aY hl.out) ?_)
 refine (oJ h hl hb c hc0 hc1 s hs hr (.int n) ⟨1, n, none, 0, 0, none, 0, 0⟩ _ RL (aa (.int n _ rfl rfl rfl rfl)) (aa ⟨by omega, by omega⟩) (aa (by rw [om, List.length_cons, fo]; decide))).mono ?_
 rintro e w7 ⟨rfl, rz⟩
 have GZ := aa (G5.out.below rz)
 have MQ := aa (ag El.out rz)
 obtain ⟨G, hG⟩ : ∃ G, Eu h (aO s) (.int n) = G := ⟨_, rfl⟩
 have Kg : Hid (G.length = 32) := aa (by rw [← hG]; exact mo _ _ _)
 have UI : Kp (Nn q h (aO s) = G) := ⟨by rw [Nn, R8.1]; exact hG⟩
 rw [hG, show DT G (c + 1) 0 = .tuple #[.agg (ak G (c + 1)), .int .i64 0] from rfl]
 clear rz hG G5 El J8 RL
 go_upto_region 14 with ((with_reducible show wpList _ _ _ (⟨none, _, _, _, _, _⟩ :: _) _ _); refine wpList_store_row rfl 90 _ _ rfl w7.heap.size (ak G (c + 1)) rfl rfl _ _ (heap_alloc_new _ _) (aY Kg.out) (aH (h := aR 32) (c := 0) rfl Kg.out) (ay _ _) ?_)
 rw [World.setRow_alloc_new]
 try simp only [Act.put]
 have Sb : Hid (bX (w7.alloc (.cells (ak G (c + 1)) 90)) w7.heap.size G (c + 1)) := aa (bX.new _ _ _)
 have JE := aa (GZ.out.below (af w7 (.cells (ak G (c + 1)) 90)))
 have y9 := aa (ag MQ.out (af w7 (.cells (ak G (c + 1)) 90)))
 obtain ⟨W8, Li⟩ : ∃ u, w7.alloc (.cells (ak G (c + 1)) 90) = u := ⟨_, rfl⟩
 rw [Li] at Sb JE y9 ⊢
 clear Li GZ MQ
 go_wp2_with (first
  | ((with_reducible show wpList _ _ _ (⟨some 68, _, _, _, _, _⟩ :: _) _ _); refine wpList_load_row rfl 90 _ rfl w7.heap.size rfl _ _ _ _ Sb.out Tryz.underlying90 rfl (aY Kg.out) ?_)
  | ((with_reducible show wpList _ _ _ (⟨none, _, _, _, _, _⟩ :: _) _ _); refine wpList_store_row rfl 90 _ _ rfl (w.heap.size + 1) (ak G (c + 1)) rfl rfl _ _ JE.out (aY Kg.out) (aH rfl Kg.out) (ay _ _) ?_))
 have HRR : Hid (bX (W8.setRow (w.heap.size + 1) (ak G (c + 1))) (w.heap.size + 1) G (c + 1)) := aa JE.out.setRow
 have fO : Below w.heap.size w (W8.setRow (w.heap.size + 1) (ak G (c + 1))) := ah y9.out (by omega)
 exact bodyPost_ret (v := Hf G (c + 1) n 0) (gF (p := 6) (q := 7) (r := 8) (ty := 90) rfl _ _ ⟨w.heap.size + 1, 0, none⟩ _ _ _ rfl rfl rfl (run_loadVar_row _ _ _ _ _ _ _ HRR.out Tryz.underlying90 rfl (aY Kg.out))) rfl ⟨by rw [UI.out, R8.out], fO⟩
theorem dD (w : World) (a : Nat) (cs : Array Value) : w.grownBy (w.setRow a cs) (some a) :=
 ⟨rfl, rfl, rfl, by simp [World.setRow], fun k hk hne => setRow_other w a k cs (fun e => hne (by rw [e]))⟩
theorem KG : (Tryz.prog.info? 29).map (·.size) = some 33 := by kernel_rfl
theorem ai {h : List Int} {c : Int} (hl : h.length = 32) : (Tryz.prog.info? 29).map (·.size) = some (ak h c).size := KG.trans (congrArg some (fQ hl).symm)
def aD (w : World) (b : Nat) (h : List Int) (c : Int) : Prop := w.heap[b]? = some (.cells (ak h c) 29 (0, 0))
theorem aD.below {w w' : World} {b : Nat} {h : List Int} {c : Int} (hh : aD w b h c) (hb : Below w.heap.size w w') : aD w' b h c := (hb.block b (Array.getElem?_eq_some_iff.1 hh).1).trans hh
theorem aD.new (w : World) (h : List Int) (c : Int) : aD (w.alloc (.cells (ak h c) 29)) w.heap.size h c := heap_alloc_new _ _
theorem aD.count {w : World} {b : Nat} {h : List Int} {c : Int} (hh : aD w b h c) (hl : h.length = 32) : w.cell? ⟨b, 32, none⟩ = some (.int .i64 c) := by
 rw [aj hh, ak, Array.getElem?_append_right (by rw [aK, hl]; exact Nat.le_refl _), aK, hl]
 rfl
theorem aD.sk {w : World} {b : Nat} {h : List Int} {c : Int} (hh : aD w b h c) : Sk .u8 w (some ⟨b, 0, none⟩) h := fun j hj => ⟨b, 0, rfl, by
 rw [Nat.zero_add, aj hh, ak, Array.getElem?_append_left (by rw [aK]; exact hj)]
 exact sO hj⟩
theorem aD.setRow {w : World} {b : Nat} {h h' : List Int} {c c' : Int} (hh : aD w b h c) : aD (w.setRow b (ak h' c')) b h' c' := setRow_heap w b _ _ _ _ hh
def nS (c : Int) : Bool := decide (0 ≤ c) && decide (c ≤ 1099511627776)
theorem eH (h : List Int) (hl : Hid (h.length = 32)) (c : Int) (r : Bool) (hr : Hid (nS c = r)) (w : World) :
  Calls Tryz.prog 25 #[.agg (ak h c)] w (Rt w (.bool r)) := by
 have hc := (aD.new w h c).count hl.out
 by_cases h0 : 0 ≤ c
 ·
  have d1 : decide ((0 : Int) ≤ c) = true := by simp [h0]
  obtain ⟨t, ht⟩ : ∃ t, decide (c ≤ 1099511627776) = t := ⟨_, rfl⟩
  obtain rfl : t = r := by rw [← hr.out, nS, d1, ht]; rfl
  clear hr
  go_in
  go_wp2
  go_ret
  exact ⟨by first | rfl | (rw [ht]), af _ _⟩
 ·
  have d1 : decide ((0 : Int) ≤ c) = false := by simp; omega
  obtain rfl : r = false := by rw [← hr.out, nS, d1]; rfl
  clear hr
  go_in
  go_wp2
  go_ret
  exact ⟨rfl, af _ _⟩
theorem AZ (h : List Int) (hl : Hid (h.length = 32)) (c : Int) (hv : Hid (nS c = true)) (n lo hi : Int) (h1 : lo ≤ n) (h2 : n ≤ hi) (w : World) :
  Calls Tryz.prog 47 #[.agg (ak h c), .int .i64 n, .int .i64 lo, .int .i64 hi] w (Rt w (.int .i64 0)) := by
 have HT0 : Hid (aD (w.alloc (.cells (ak h c) 29)) w.heap.size h c) := aa (aD.new _ _ _)
 have hb0 := af w (.cells (ak h c) 29)
 obtain ⟨W, hW⟩ : ∃ W, w.alloc (.cells (ak h c) 29) = W := ⟨_, rfl⟩
 rw [hW] at HT0 hb0
 have HB0 := aa hb0
 have HW := aa hW
 have d1 : decide (n < lo) = false := by simp; omega
 have d2 : decide (hi < n) = false := by simp; omega
 clear hW hb0
 go_in
 go_upto_region 1 with (fail)
 rw [HW.out]
 clear HW
 go_wp2_with ((with_reducible show wpList _ _ _ (⟨some 10, _, _, _, _, _⟩ :: _) _ _); refine wpList_load_row rfl 29 _ rfl w.heap.size rfl _ _ _ _ HT0.out Tryz.underlying29 rfl (ai hl.out) ?_)
 refine (eH h hl c true hv _).mono ?_
 rintro e w1 ⟨rfl, hb1⟩
 have kI := ag HB0.out hb1
 go_wp2
 go_ret
 exact ⟨rfl, kI⟩
theorem qA (h : List Int) (hl : Hid (h.length = 32)) (c : Int) (hc0 : 0 ≤ c) (hc1 : c ≤ 1099511627776) (w : World) :
  Calls Tryz.prog 101 #[.agg (ak h c)] w (O4 .u8 5 (h ++ jb c) w) := by
 obtain ⟨i1, hi1, hy0, hy1, hy2⟩ := info_parts gq
 have HT0 : Hid (aD (w.alloc (.cells (ak h c) 29)) w.heap.size h c) := aa (aD.new _ _ _)
 have hb0 := af w (.cells (ak h c) 29)
 have rJ : Hid ((w.alloc (.cells (ak h c) 29)).heap.size = w.heap.size + 1) := aa (by simp)
 obtain ⟨W, hW⟩ : ∃ W, w.alloc (.cells (ak h c) 29) = W := ⟨_, rfl⟩
 rw [hW] at HT0 hb0 rJ
 have HB0 := aa hb0
 have HW := aa hW
 clear hW hb0
 go_in
 go_upto_region 1 with (fail)
 rw [HW.out]
 clear HW
 have HT1 := aa (HT0.out.below (af W (.cells #[] 5)))
 have hrow : (W.alloc (.cells #[] 5)).ownsRow W.heap.size 5 1 (.slice (some ⟨W.heap.size, 0, none⟩) 0 0) 0 [] := ⟨rfl, Or.inr ⟨W.heap.size, 0, #[], rfl, Nat.le_refl _, heap_alloc_new _ _, Nat.le_refl _, by decide, rfl, rfl⟩⟩
 have b1 : 0 + 32 ≤ maxLen := by unfold maxLen; omega
 have b2 : (0 + 32) * 1 ≤ 140737488355328 := by omega
 have b3 : W.heap.size ≤ (W.alloc (.cells #[] 5)).heap.size := by simp
 have hlen : (h.map (Value.int .u8)).length = 32 * 1 := by simp [hl.out]
 go_upto_region 2 with (at_builtin; refine wpList_append_lies rfl _ _ 78 rfl W.heap.size 5 i1 (.int .u8 0) 1 1 Tryz.underlying78 hi1 hy0 hy1 hy2 rfl (by decide) (.slice (some ⟨W.heap.size, 0, none⟩) 0 0) _ _ rfl hrow ⟨w.heap.size, 0, none⟩ 32 32 (h.map (.int .u8)) rfl hlen HT1.out.sk.news (ints_oneCell .u8 _) (by decide) b1 b2 b3 _ rfl ?_; intro g1 I_ w1 hown1 hgrow1 OG hlt1)
 have UG : Hid (aX .u8 5 w1 W.heap.size (.slice (some ⟨g1, 0, none⟩) 32 I_) (h ++ (jb c).take 0)) := aa (by unfold aX; rw [List.take_zero, List.append_nil, hl.out]; simpa using hown1)
 have HB1 : Hid (Below W.heap.size W w1) := aa (((Below.refl W.heap.size W).alloc (Nat.le_refl _) (.cells #[] 5)).grown hgrow1 (by simp) (fun j hj => by cases hj; exact Nat.le_refl _))
 clear hown1 hgrow1 OG hlt1 hrow b1 b2 b3 hlen HT1
 go_wp2_with fail
 go_loopw [3, 4] (fun p i u => ∃ k : Nat, k ≤ 8 ∧ i = .int .i64 (56 - 8 * (k : Int)) ∧ Hid (aX .u8 5 u W.heap.size p (h ++ (jb c).take k)) ∧ Hid (Below W.heap.size W u)) (fun _ i _ => (intOf i + 8).toNat)
 case atStart => exact ⟨0, by omega, by simp, UG, HB1⟩
 case round =>
  obtain ⟨k, hk, rfl, HO, aG⟩ := hrel
  by_cases hlt : k < 8
  ·
   have d1 : decide ((0 : Int) ≤ 56 - 8 * (k : Int)) = true := by simp; omega
   obtain ⟨q, hq⟩ : ∃ q, c / 2 ^ (56 - 8 * k) = q := ⟨_, rfl⟩
   have GR : Hid ((jb c).take (k + 1) = (jb c).take k ++ [q % 256]) := aa (by
    rw [take_one (show k < (jb c).length by rw [fo]; exact hlt)]
    have h2 := zU (s := 8) (Or.inr rfl) c k hlt
    rw [show nU 8 c = jb c from rfl] at h2
    rw [h2, ← hq, show 8 * (8 - 1 - k) = 56 - 8 * k by omega])
   have wI : Hid ((h ++ (jb c).take k).length = 32 + k) := aa (by rw [List.length_append, List.length_take, fo, hl.out]; omega)
   have j0 : (0 : Int) ≤ 56 - 8 * (k : Int) := by omega
   have j1 : (56 - 8 * (k : Int)).toNat = 56 - 8 * k := by omega
   have hown := HO.out.row wI.out
   have hbs := aG.out.size
   have hcnt := (HT0.out.below aG.out).count hl.out
   have b1 : 32 + k + 1 ≤ maxLen := by unfold maxLen; omega
   have b2 : (32 + k + 1) * 1 ≤ 140737488355328 := by omega
   have b3 : W.heap.size ≤ (wr.alloc (.cells #[.int .u8 (q % 256)] 5)).heap.size := by simp; omega
   go_wp2_with (at_builtin; refine wpList_append_lies rfl _ _ 78 rfl W.heap.size 5 i1 (.int .u8 0) 1 1 Tryz.underlying78 hi1 hy0 hy1 hy2 rfl (by decide) u3 _ _ rfl (hown.alloc _) ⟨wr.heap.size, 0, none⟩ 1 1 [.int .u8 (q % 256)] rfl rfl (World.news_of_block (cs := #[.int .u8 (q % 256)]) (t := 5) (fr := (0, 0)) (heap_alloc_new wr _)) (by simp [Value.oneCell']) (by decide) b1 b2 b3 _ rfl ?_; intro gg cap wz hown1 hgrow hat hlt2)
   have Bz : Hid (aX .u8 5 wz W.heap.size (.slice (some ⟨gg, 0, none⟩) (32 + k + 1) cap) (h ++ (jb c).take (k + 1))) := aa (by
    rw [GR.out, ← List.append_assoc]
    exact aX.app (ys := [q % 256]) wI.out.symm rfl hown1)
   have HB2 : Hid (Below W.heap.size W wz) := aa ((aG.out.alloc hbs (.cells #[.int .u8 (q % 256)] 5)).grown hgrow (by simp; omega) (fun j hj => (World.ownsRow.lt hown j hj).1))
   clear hown1 hgrow hown hat hlt2 b1 b2 b3 hcnt
   go_wp2
   go_roundw
   case rel => exact ⟨k + 1, by omega, by go_num, Bz, HB2⟩
   case measure => simp [intOf]; omega
  ·
   obtain rfl : k = 8 := by omega
   have HF : Hid (aX .u8 5 wr W.heap.size u3 (h ++ jb c)) := aa (by
    have h2 := HO.out
    rwa [List.take_of_length_le (by rw [fo]; exact Nat.le_refl _)] at h2)
   have kI := ag HB0.out aG.out
   have hz := HB0.out.size
   clear HO
   go_wp2
   go_ret
   exact ⟨_, rfl, HF.out.mono hz, kI⟩
end Go.Proofs.YtgbfhcfhopadaaaGreatDoor
namespace Go.Proofs.YtgbfhcfhopadaaaGreatDoor
open Go.ChangeShapes Go.WideShapes Go.ChangeAt Go.RowKit ou
def ze : Value := .agg (List.replicate 32 (Value.int .u8 0) ++ [Value.int .i64 0]).toArray
def Hl {H : Type} : DataW H := .agg [.agg (List.replicate 32 (.lit (Lit.int .u8 0))), .lit (Lit.int .i64 0)]
theorem vM {cl : List Value} : ∀ (k : Nat), (∀ i, i < k → ∃ z : Int, (cl.drop i).take 1 = [.int .u8 z] ∧ 0 ≤ z ∧ z < 256) → ∃ h : List Int, h.length = k ∧ cl.take k = h.map (.int .u8) ∧ au h = true
 | 0, _ => ⟨[], rfl, by simp, rfl⟩
 | k + 1, hf => by
  obtain ⟨h, h1, h2, h3⟩ := vM k (fun i hi => hf i (by omega))
  obtain ⟨z, hz, z0, z1⟩ := hf k (by omega)
  refine ⟨h ++ [z], by simp [h1], by rw [List.take_add, h2, hz, List.map_append]; rfl, ?_⟩
  rw [aT, h3]
  simp [au, z0, z1]
section
variable {H : Type} {enc : TypeId × Value → H} {w : World} {base : Nat} {held : Bool}
theorem Be : Tryz.prog.cellsOf 29 = 33 := by kernel_rfl
theorem Bd : Tryz.prog.cellsOf 27 = 32 := by kernel_rfl
theorem Aw {r : Reach} {b0 : Nat} {v : Value} {d : DataW H} {ps : List MemPlace} (hval : Value.okWide Tryz.prog w r b0 29 v) (hd : DataW.Trod enc Tryz.prog w base (fun _ => true) held 29 v d ps) :
  ∃ (h : List Int) (c : Int), v = .agg (ak h c) ∧ h.length = 32 ∧ au h = true := by
 obtain ⟨cs, rfl, hsz⟩ := okWide_struct Tryz.underlying29 hval
 obtain ⟨n, h⟩ := hd
 obtain ⟨xs, m, rfl, _, hl, hxl, hf⟩ := DataW.trod_struct Tryz.underlying29 h
 rw [Be] at hl
 obtain ⟨cl⟩ := cs
 simp only [Value.cells] at hl hf
 have f0 : DataW.trod enc Tryz.prog w base (fun _ => true) held m 27 ((cl.drop 0).take (Tryz.prog.cellsOf 27)) = xs[0]? := hf 0 _ rfl
 have f1 : DataW.trod enc Tryz.prog w base (fun _ => true) held m 3 ((cl.drop 32).take (Tryz.prog.cellsOf 3)) = xs[1]? := hf 1 _ rfl
 rw [Bd, List.drop_zero] at f0
 rw [pQ] at f1
 have hl2 : xs.length = 2 := hxl
 match xs, hl2 with
 | [x0, x1], _ =>
  obtain ⟨c, hc, _, wc⟩ := DataW.trod_int Tryz.underlying3 f1
  obtain ⟨ys, m', _, _, _, hyl, Tz⟩ := DataW.trod_array Tryz.underlying27 f0
  obtain ⟨hh, h1, h2, h3⟩ := vM (cl := cl.take 32) 32 (fun i hi => by
   have fi := Tz i hi
   rw [zQ, Nat.mul_one, List.getElem?_eq_getElem (by rw [hyl]; exact hi)] at fi
   obtain ⟨z, hz, _, wz⟩ := DataW.trod_int Tryz.underlying5 fi
   refine ⟨z, hz, ?_⟩
   simp [Lit.wf, IntKind.min, IntKind.max, IntKind.signed, IntKind.bits] at wz
   omega)
  refine ⟨hh, c, ?_, h1, h3⟩
  rw [List.take_take, Nat.min_self] at h2
  have e : cl = hh.map (.int .u8) ++ [.int .i64 c] := by
   rw [← h2, ← hc, ← List.take_append_drop 32 cl]
   congr 1
   · simp [List.take_append_drop]
   · rw [List.take_append_drop, List.take_of_length_le (by rw [List.length_drop, hl]; exact Nat.le_refl _)]
  rw [e]
  congr 1
  apply Array.ext'
  simp [ak, arr]
end
end Go.Proofs.YtgbfhcfhopadaaaGreatDoor
namespace Go.Proofs.YtgbfhcfhopadaaaGreatDoor
open Go.RowKit ou
def Dj (v x : Int) : Int := bits BinOp.or IntKind.u64 (IntKind.u64.wrap (v * 256)) (IntKind.u64.wrap x)
def vg (l : List Int) : Int := l.foldl Dj 0
def iL (h : List Int) : Int := vg (h.take 8)
theorem AR {h : List Int} {k : Nat} (hk : k < h.length) : vg (h.take (k + 1)) = Dj (vg (h.take k)) (h.getD k 0) := by
 rw [take_one hk, vg, List.foldl_append]; rfl
theorem x9 (h : List Int) (hl : Hid (h.length = 32)) (hb : Hid (au h = true)) (w : World) :
  Calls Tryz.prog 79 #[.agg (arr .u8 h)] w (Rt w (.int .u64 (iL h))) := by
 have HT0 : Hid (bf .u8 27 (w.alloc (.cells (arr .u8 h) 27)) w.heap.size h) := aa (bf.new _ _)
 have hb0 := af w (.cells (arr .u8 h) 27)
 obtain ⟨W, hW⟩ : ∃ W, w.alloc (.cells (arr .u8 h) 27) = W := ⟨_, rfl⟩
 rw [hW] at HT0 hb0
 have HB0 := aa hb0
 have HW := aa hW
 clear hW hb0
 go_in
 go_wp2_with fail
 rw [HW.out]
 clear HW
 go_loopw [3, 8] (fun x i u => ∃ k : Nat, k ≤ 8 ∧ i = .int .i64 k ∧ x = .int .u64 (vg (h.take k)) ∧ u = W) (fun _ i _ => 8 - (intOf i).toNat)
 case atStart => exact ⟨0, by omega, rfl, rfl, rfl⟩
 case round =>
  obtain ⟨k, hk, rfl, rfl, rfl⟩ := hrel
  by_cases hlt : k < 8
  ·
   have hkl : k < h.length := by rw [hl.out]; omega
   have hc := HT0.out.cell hkl
   obtain ⟨x, hx⟩ : ∃ x, h.getD k 0 = x := ⟨_, rfl⟩
   rw [hx] at hc
   obtain ⟨v, hv⟩ : ∃ v, vg (h.take k) = v := ⟨_, rfl⟩
   have HST : Hid (vg (h.take (k + 1)) = Dj v x) := aa (by rw [AR hkl, hx, hv])
   rw [hv]
   clear hx hv hkl
   go_wp2
   go_roundw
   case rel => exact ⟨k + 1, by omega, by go_num, by rw [HST.out]; rfl, trivial⟩
   case measure => simp [intOf]; omega
  ·
   obtain rfl : k = 8 := by omega
   clear hlt
   obtain ⟨v, hv⟩ : ∃ v, vg (h.take 8) = v := ⟨_, rfl⟩
   have HV : Hid (iL h = v) := aa hv
   rw [hv]
   clear hv
   go_wp2
   go_ret
   exact ⟨by rw [HV.out]; rfl, HB0.out⟩
def uw (h : List Int) (c : Int) (f : Bool) : Array Value := arr .u8 h ++ #[.int .i64 c, .bool f]
def dV (w : World) (b : Nat) (h : List Int) (c : Int) (f : Bool) : Prop := w.heap[b]? = some (.cells (uw h c f) 83 (0, 0))
variable {w : World} {b : Nat} {h : List Int} {c : Int} {f : Bool}
theorem dV.lt (hh : dV w b h c f) : b < w.heap.size := (Array.getElem?_eq_some_iff.1 hh).1
theorem dV.below {w' : World} (hh : dV w b h c f) (hb : Below w.heap.size w w') : dV w' b h c f := (hb.block b hh.lt).trans hh
theorem uu (hl : h.length = 32) : (uw h c f)[32]? = some (.int .i64 c) := by
 rw [uw, Array.getElem?_append_right (by rw [aK, hl]; exact Nat.le_refl _), aK, hl]; rfl
theorem BX (hl : h.length = 32) : (uw h c f)[33]? = some (.bool f) := by
 rw [uw, Array.getElem?_append_right (by rw [aK, hl]; decide), aK, hl]; rfl
theorem dV.count (hh : dV w b h c f) (hl : h.length = 32) : Own w ⟨b, 32, none⟩ (.int .i64 c) := ⟨(aj hh 32).trans (uu hl), aP hh 32⟩
theorem dV.full (hh : dV w b h c f) (hl : h.length = 32) : Own w ⟨b, 33, none⟩ (.bool f) := ⟨(aj hh 33).trans (BX hl), aP hh 33⟩
theorem Ak (hl : h.length = 32) (x : Int) : (uw h c f).setIfInBounds 32 (.int .i64 x) = uw h x f := by
 apply Array.ext'
 simp [uw, arr, List.set_append, hl]
theorem Aj (hl : h.length = 32) (x : Bool) : (uw h c f).setIfInBounds 33 (.bool x) = uw h c x := by
 apply Array.ext'
 simp [uw, arr, List.set_append, hl]
theorem dV.set32 (hh : dV w b h c f) (hl : h.length = 32) (x : Int) : dV (w.setCell ⟨b, 32, none⟩ (.int .i64 x)) b h x f := by
 unfold dV
 rw [heap_setCell_same w b 32 _ _ _ hh, Ak hl]
theorem dV.set33 (hh : dV w b h c f) (hl : h.length = 32) (x : Bool) : dV (w.setCell ⟨b, 33, none⟩ (.bool x)) b h c x := by
 unfold dV
 rw [heap_setCell_same w b 33 _ _ _ hh, Aj hl]
theorem dV.range (hh : dV w b h c f) (hl : h.length = 32) : w.rangeAt b 0 (ak h c).toList := fun j v hj => by
 have hlt : j < 33 := by
  have h2 := (List.getElem?_eq_some_iff.1 hj).1
  rw [Array.length_toList, fQ hl] at h2
  exact h2
 rw [Nat.zero_add, aj hh, ← hj, Array.getElem?_toList]
 by_cases h3 : j < 32
 · rw [uw, ak, Array.getElem?_append_left (by rw [aK, hl]; exact h3), Array.getElem?_append_left (by rw [aK, hl]; exact h3)]
 ·
  obtain rfl : j = 32 := by omega
  rw [uu hl, ak, Array.getElem?_append_right (by rw [aK, hl]; exact Nat.le_refl _), aK, hl]
  rfl
theorem lX (hl : h.length = 32) : (Tryz.prog.info? 29).map (·.size) = some (ak h c).toList.length := (ai (c := c) hl).trans (by simp)
theorem d_ {w w' : World} (h : Below w.heap.size w w') (r : Option Nat) : w.grownBy w' r := ⟨h.os, h.tape, h.output, h.size, fun k hk _ => h.block k hk⟩
theorem dZ {w w1 w2 : World} {r : Option Nat} (h1 : w.grownBy w1 r) (h2 : w1.grownBy w2 r) : w.grownBy w2 r :=
 ⟨h2.os.trans h1.os, h2.tape.trans h1.tape, h2.output.trans h1.output, Nat.le_trans h1.size h2.size, fun k hk hne => (h2.block k (Nat.lt_of_lt_of_le hk h1.size) hne).trans (h1.block k hk hne)⟩
theorem aZ {w : World} (b j : Nat) (v : Value) : w.grownBy (w.setCell ⟨b, j, none⟩ v) (some b) := pI w b j v
theorem iK {w w' : World} {b B : Nat} (h : w.grownBy w' (some b)) (hB : B ≤ b) (hs : B ≤ w.heap.size) : Below B w w' := (Below.refl B w).grown h hs (fun j hj => by cases hj; exact hB)
theorem j4 {w w1 : World} {r : Option Nat} (h : w.grownBy w1 r) (a : Nat) (ha : w.heap.size ≤ a) (cs : Array Value) : w.grownBy (w1.setRow a cs) r :=
 ⟨h.os, h.tape, h.output, by rw [setRow_size]; exact h.size, fun k hk hne => (setRow_other w1 a k cs (by omega)).trans (h.block k hk hne)⟩
theorem lU {w w1 : World} {r : Option Nat} (h : w.grownBy w1 r) (o : Obj) : w.grownBy (w1.alloc o) r := dZ h (d_ (af _ _) r)
def ja (h : List Int) (c : Int) : List Int := nQ (h ++ jb c)
theorem DF (h : List Int) (c : Int) : (ja h c).length = 32 := eX _
theorem yJ (h : List Int) (c : Int) : au (ja h c) = true := gY _
theorem vH (h : List Int) (hl : Hid (h.length = 32)) (b : Nat) (f0 : Bool) (w : World) (hS : Hid (dV w b h 1099511627776 f0)) :
  Calls Tryz.prog 78 #[.pointer (some ⟨b, 0, none⟩)] w fun e w' => e = .returned (.agg (arr .u8 (aR 32))) ∧ dV w' b h 1099511627776 true ∧ w.grownBy w' (some b) := by
 obtain ⟨W, hW⟩ : ∃ W, w.alloc (.cells z32 27) = W := ⟨_, rfl⟩
 have cK : Hid (Below w.heap.size w W) := aa (by rw [← hW]; exact af _ _)
 have jT : Hid (bf .u8 27 W w.heap.size (aR 32)) := aa (by rw [← hW, ow]; exact heap_alloc_new _ _)
 have HS := aa (hS.out.below cK.out)
 have Mg : Hid (b < w.heap.size) := aa hS.out.lt
 have HW := aa hW
 clear hW
 obtain ⟨c1, c2⟩ := HS.out.count hl.out
 obtain ⟨f1, f2⟩ := HS.out.full hl.out
 have HS2 := aa (HS.out.set33 hl.out true)
 have HR2 : Hid (bf .u8 27 (W.setCell ⟨b, 33, none⟩ (.bool true)) w.heap.size (aR 32)) := aa (jT.out.set_ne (by have := Mg.out; omega))
 go_in
 go_upto_region 1 with (fail)
 rw [HW.out]
 clear HW
 go_wp2_with ((with_reducible show wpList _ _ _ (⟨none, _, _, _, _, _⟩ :: _) _ _); refine wpList_store_row rfl 27 _ _ rfl w.heap.size (arr .u8 (aR 32)) rfl rfl _ _ HR2.out (aF rfl) (dF (l := aR 32) rfl rfl) (bF _) ?_)
 have HRR : Hid (bf .u8 27 ((W.setCell ⟨b, 33, none⟩ (.bool true)).setRow w.heap.size (arr .u8 (aR 32))) w.heap.size (aR 32)) := aa HR2.out.setRow
 have OL : dV ((W.setCell ⟨b, 33, none⟩ (.bool true)).setRow w.heap.size (arr .u8 (aR 32))) b h 1099511627776 true := (setRow_other _ _ b _ (by have := Mg.out; omega)).trans HS2.out
 have hGF : w.grownBy ((W.setCell ⟨b, 33, none⟩ (.bool true)).setRow w.heap.size (arr .u8 (aR 32))) (some b) := j4 (dZ (d_ cK.out _) (aZ b 33 _)) _ (Nat.le_refl _) _
 exact bodyPost_ret (v := .agg (arr .u8 (aR 32))) (gL (p := 2) (ty := 27) rfl _ _ ⟨w.heap.size, 0, none⟩ _ rfl (run_loadVar_row _ _ _ _ _ _ _ HRR.out Tryz.underlying27 rfl (aF rfl))) rfl ⟨rfl, OL, hGF⟩
theorem A7 (h : List Int) (hl : Hid (h.length = 32)) (hb : Hid (au h = true)) (c : Int) (hc0 : 0 ≤ c) (hc1 : c < 1099511627776) (b : Nat) (w : World) (hv : Hid (bu w)) (hS : Hid (dV w b h c false)) :
  Calls Tryz.prog 78 #[.pointer (some ⟨b, 0, none⟩)] w fun e w' => e = .returned (.agg (arr .u8 (ja h c))) ∧ dV w' b h (c + 1) false ∧ w.grownBy w' (some b) := by
 obtain ⟨W, hW⟩ : ∃ W, w.alloc (.cells z32 27) = W := ⟨_, rfl⟩
 have cK : Hid (Below w.heap.size w W) := aa (by rw [← hW]; exact af _ _)
 have jT : Hid (bf .u8 27 W w.heap.size (aR 32)) := aa (by rw [← hW, ow]; exact heap_alloc_new _ _)
 have HS := aa (hS.out.below cK.out)
 have HV := aa (hv.out.below cK.out)
 have Mg : Hid (b < w.heap.size) := aa hS.out.lt
 have HW := aa hW
 have hcn : ¬ (c = 1099511627776) := by omega
 have hwr : IntKind.i64.wrap (c + 1) = c + 1 := IntWalk.i64_in _ (by omega)
 clear hW
 obtain ⟨c1, c2⟩ := HS.out.count hl.out
 go_in
 go_upto_region 1 with (fail)
 rw [HW.out]
 clear HW
 go_wp2_with ((with_reducible show wpList _ _ _ (⟨some 17, _, _, _, _, _⟩ :: _) _ _); refine wpList_load_mid rfl 29 _ rfl b 0 rfl (ak h c).toList _ (HS.out.range hl.out) Tryz.underlying29 rfl (lX hl.out) ?_)
 clear c1 c2
 refine (qA h hl c hc0 (by omega) _).mono ?_
 rintro e w1 ⟨v1, rfl, ho1, hb1⟩
 have z_ := aa (HS.out.below hb1)
 have HR1 := aa (jT.out.below hb1)
 have jV := aa (HV.out.below hb1)
 have HB1 := aa (ag cK.out hb1)
 obtain ⟨E, hE⟩ : ∃ E, h ++ jb c = E := ⟨_, rfl⟩
 have wL : Hid (E.length = 40) := aa (by rw [← hE, List.length_append, hl.out, fo])
 have Mx : Hid (au E = true) := aa (by rw [← hE, aT, hb.out, jR]; rfl)
 rw [hE] at ho1
 obtain ⟨g1, I_, e1, hg1, -, -, KU⟩ := ho1.cells (by rw [wL.out]; decide)
 rw [wL.out] at e1
 subst e1
 have LX := aa KU
 have U5 : Kp (ja h c = nQ E) := ⟨by rw [ja, hE]⟩
 clear hb1 ho1 hE KU hg1
 go_wp2_with fail
 refine (rV g1 0 I_ E 40 wL (by omega) Mx _ LX jV).mono ?_
 rintro e w2 ⟨rfl, hb2⟩
 obtain ⟨R, hR⟩ : ∃ R, nQ E = R := ⟨_, rfl⟩
 have gy : Hid (R.length = 32) := aa (by rw [← hR]; exact eX _)
 have UH : Kp (ja h c = R) := ⟨by rw [U5.1, hR]⟩
 rw [hR]
 have HS2 := aa (z_.out.below hb2)
 have HR2 := aa (HR1.out.below hb2)
 have HB2 := aa (ag HB1.out hb2)
 clear hb2 hR LX
 go_upto_region 5 with ((with_reducible show wpList _ _ _ (⟨none, _, _, _, _, _⟩ :: _) _ _); refine wpList_store_row rfl 27 _ _ rfl w2.heap.size (arr .u8 R) rfl rfl _ _ (heap_alloc_new _ _) (aF gy.out) (dF (l := aR 32) rfl gy.out) (bF _) ?_)
 rw [World.setRow_alloc_new]
 try simp only [Act.put]
 have G7 : Hid (bf .u8 27 (w2.alloc (.cells (arr .u8 R) 27)) w2.heap.size R) := aa (bf.new _ _)
 have rM := aa (HS2.out.below (af w2 (.cells (arr .u8 R) 27)))
 have HR3 := aa (HR2.out.below (af w2 (.cells (arr .u8 R) 27)))
 have HB3 := aa (ag HB2.out (af w2 (.cells (arr .u8 R) 27)))
 have PM : Hid (b < w2.heap.size) := aa HS2.out.lt
 obtain ⟨W3, hW3⟩ : ∃ u, w2.alloc (.cells (arr .u8 R) 27) = u := ⟨_, rfl⟩
 rw [hW3] at G7 rM HR3 HB3 ⊢
 clear hW3 HS2 HR2 HB2
 obtain ⟨c1, c2⟩ := rM.out.count hl.out
 have wH := aa (rM.out.set32 hl.out (c + 1))
 have HR4 : Hid (bf .u8 27 (W3.setCell ⟨b, 32, none⟩ (.int .i64 (c + 1))) w.heap.size (aR 32)) := aa (HR3.out.set_ne (by have := Mg.out; omega))
 have UO : Hid (bf .u8 27 (W3.setCell ⟨b, 32, none⟩ (.int .i64 (c + 1))) w2.heap.size R) := aa (G7.out.set_ne (by have := PM.out; omega))
 go_wp2_with (first
  | ((with_reducible show wpList _ _ _ (⟨some 29, _, _, _, _, _⟩ :: _) _ _); refine wpList_load_row rfl 27 _ rfl w2.heap.size rfl _ _ _ _ UO.out Tryz.underlying27 rfl (aF gy.out) ?_)
  | ((with_reducible show wpList _ _ _ (⟨none, 28, _, _, _, _⟩ :: _) _ _); fail)
  | (refine wpList_store_row rfl 27 _ _ rfl w.heap.size (arr .u8 R) rfl rfl _ _ HR4.out (aF gy.out) (dF (l := aR 32) rfl gy.out) (bF _) ?_))
 have HRR : Hid (bf .u8 27 ((W3.setCell ⟨b, 32, none⟩ (.int .i64 (c + 1))).setRow w.heap.size (arr .u8 R)) w.heap.size R) := aa HR4.out.setRow
 have OL : dV ((W3.setCell ⟨b, 32, none⟩ (.int .i64 (c + 1))).setRow w.heap.size (arr .u8 R)) b h (c + 1) false := (setRow_other _ _ b _ (by have := Mg.out; omega)).trans wH.out
 have hGF : w.grownBy ((W3.setCell ⟨b, 32, none⟩ (.int .i64 (c + 1))).setRow w.heap.size (arr .u8 R)) (some b) := j4 (dZ (d_ HB3.out _) (aZ b 32 _)) _ (Nat.le_refl _) _
 exact bodyPost_ret (v := .agg (arr .u8 R)) (gL (p := 2) (ty := 27) rfl _ _ ⟨w.heap.size, 0, none⟩ _ rfl (run_loadVar_row _ _ _ _ _ _ _ HRR.out Tryz.underlying27 rfl (aF gy.out))) rfl ⟨by rw [UH.1], OL, hGF⟩
theorem Je : Tryz.prog.built 29 [] = some (ak (aR 32) 0) := by kernel_rfl
def He (h : List Int) (c e : Int) : Value := .tuple #[.agg (ak h c), .int .i64 e]
theorem vC (h : List Int) (hl : Hid (h.length = 32)) (c : Int) (f : Bool) (b : Nat) (w : World) (hS : Hid (dV w b h c f)) :
  Calls Tryz.prog 49 #[.pointer (some ⟨b, 0, none⟩)] w (Rt w (if f = true then He (aR 32) 0 5 else He h c 0)) := by
 obtain ⟨W, hW⟩ : ∃ W, w.alloc (.cells #[.int .u8 0, .int .u8 0, .int .u8 0, .int .u8 0, .int .u8 0, .int .u8 0, .int .u8 0, .int .u8 0, .int .u8 0, .int .u8 0, .int .u8 0, .int .u8 0, .int .u8 0, .int .u8 0, .int .u8 0, .int .u8 0, .int .u8 0, .int .u8 0, .int .u8 0, .int .u8 0, .int .u8 0, .int .u8 0, .int .u8 0, .int .u8 0, .int .u8 0, .int .u8 0, .int .u8 0, .int .u8 0, .int .u8 0, .int .u8 0, .int .u8 0, .int .u8 0, .int .i64 0] 29) = W := ⟨_, rfl⟩
 have cK : Hid (Below w.heap.size w W) := aa (by rw [← hW]; exact af _ _)
 have jT : Hid (aD W w.heap.size (aR 32) 0) := aa (by rw [← hW, nO]; exact heap_alloc_new _ _)
 have HS := aa (hS.out.below cK.out)
 have HW := aa hW
 clear hW
 obtain ⟨f1, f2⟩ := HS.out.full hl.out
 cases f with
 | true =>
  rw [if_pos rfl]
  go_in
  go_upto_region 1 with (fail)
  rw [HW.out]
  clear HW
  go_wp2_with (first
   | ((with_reducible show wpList _ _ _ (⟨some 8, _, _, _, _, _⟩ :: _) _ _); refine dX rfl 29 _ rfl _ Je ?_)
   | ((with_reducible show wpList _ _ _ (⟨none, _, _, _, _, _⟩ :: _) _ _); refine wpList_store_row rfl 29 _ _ rfl w.heap.size (ak (aR 32) 0) rfl rfl _ _ jT.out (ai rfl) rfl (ay _ _) ?_))
  have HRR : Hid (aD (W.setRow w.heap.size (ak (aR 32) 0)) w.heap.size (aR 32) 0) := aa jT.out.setRow
  exact bodyPost_ret (v := He (aR 32) 0 5) (aQ (p := 2) (q := 3) (ty := 29) rfl _ _ ⟨w.heap.size, 0, none⟩ _ _ rfl rfl (run_loadVar_row _ _ _ _ _ _ _ HRR.out Tryz.underlying29 rfl (ai rfl))) rfl ⟨rfl, ah cK.out (Nat.le_refl _)⟩
 | false =>
  rw [if_neg (by decide)]
  go_in
  go_upto_region 1 with (fail)
  rw [HW.out]
  clear HW
  go_wp2_with (first
   | ((with_reducible show wpList _ _ _ (⟨some 12, _, _, _, _, _⟩ :: _) _ _); refine wpList_load_mid rfl 29 _ rfl b 0 rfl (ak h c).toList _ (HS.out.range hl.out) Tryz.underlying29 rfl (lX hl.out) ?_)
   | ((with_reducible show wpList _ _ _ (⟨none, _, _, _, _, _⟩ :: _) _ _); refine wpList_store_row rfl 29 _ _ rfl w.heap.size (ak h c) rfl rfl _ _ jT.out (ai hl.out) (aH rfl hl.out) (ay _ _) ?_))
  have HRR : Hid (aD (W.setRow w.heap.size (ak h c)) w.heap.size h c) := aa jT.out.setRow
  exact bodyPost_ret (v := He h c 0) (aQ (p := 2) (q := 3) (ty := 29) rfl _ _ ⟨w.heap.size, 0, none⟩ _ _ rfl rfl (run_loadVar_row _ _ _ _ _ _ _ HRR.out Tryz.underlying29 rfl (ai hl.out))) rfl ⟨rfl, ah cK.out (Nat.le_refl _)⟩
def gI (q : Int) : Int := IntKind.u64.wrap (IntKind.u64.wrap (2 ^ min (Lib.bitLen (q - 1).toNat) 64) - 1)
def fE (h : List Int) (q m : Int) : Nat → Int → Int → Int × Int × Bool
 | 0, c, x => (x.tmod q, c, false)
 | k + 1, c, x => if c = 1099511627776 then (0, c, true) else if bits BinOp.and IntKind.u64 (iL (ja h c)) m < q then (bits BinOp.and IntKind.u64 (iL (ja h c)) m, c + 1, false) else fE h q m k (c + 1) (bits BinOp.and IntKind.u64 (iL (ja h c)) m)
theorem zD {h : List Int} {q m : Int} (hq : 1 ≤ q) : ∀ (k : Nat) (c x : Int), 0 ≤ x → 0 ≤ (fE h q m k c x).1 ∧ (fE h q m k c x).1 < q
 | 0, c, x, hx => by
  simp only [fE]
  rw [Int.tmod_eq_emod_of_nonneg hx]
  exact ⟨Int.emod_nonneg _ (by omega), Int.emod_lt_of_pos _ (by omega)⟩
 | k + 1, c, x, hx => by
  have hb := bits_lo_u64 BinOp.and (iL (ja h c)) m
  simp only [fE]
  by_cases hc : c = 1099511627776
  · rw [if_pos hc]; exact ⟨Int.le_refl _, by show (0 : Int) < q; omega⟩
  ·
   rw [if_neg hc]
   by_cases hy : bits BinOp.and IntKind.u64 (iL (ja h c)) m < q
   · rw [if_pos hy]; exact ⟨hb, hy⟩
   · rw [if_neg hy]; exact zD hq k _ _ hb
theorem uL {h : List Int} {q m : Int} : ∀ (k : Nat) (c x : Int), c ≤ 1099511627776 → c ≤ (fE h q m k c x).2.1 ∧ (fE h q m k c x).2.1 ≤ 1099511627776
 | 0, c, x, hc => ⟨Int.le_refl _, hc⟩
 | k + 1, c, x, hc => by
  simp only [fE]
  by_cases he : c = 1099511627776
  · rw [if_pos he]; exact ⟨Int.le_refl _, hc⟩
  ·
   rw [if_neg he]
   by_cases hy : bits BinOp.and IntKind.u64 (iL (ja h c)) m < q
   · rw [if_pos hy]; exact ⟨by show c ≤ c + 1; omega, by show c + 1 ≤ 1099511627776; omega⟩
   ·
    rw [if_neg hy]
    have h2 := uL (h := h) (q := q) (m := m) k (c + 1) (bits BinOp.and IntKind.u64 (iL (ja h c)) m) (by omega)
    exact ⟨by omega, h2.2⟩
theorem vD (h : List Int) (hl : Hid (h.length = 32)) (hb : Hid (au h = true)) (q : Int) (hq1 : 1 ≤ q) (hq2 : q < 2305843009213693952) (c : Int) (hc0 : 0 ≤ c) (hc1 : c ≤ 1099511627776) (b : Nat) (w0 : World) (hv : Hid (bu w0)) (w : World) (hB0 : Hid (Below w0.heap.size w0 w)) (hB : w0.heap.size ≤ b) (f0 : Bool) (hf0 : f0 = true → c = 1099511627776) (hS : Hid (dV w b h c f0)) (n c2 : Int) (f : Bool) (hN : Kp (fE h q (gI q) 256 c 0 = (n, c2, f))) :
  Calls Tryz.prog 48 #[.pointer (some ⟨b, 0, none⟩), .int .i64 q] w fun e w' => e = .returned (.int .i64 n) ∧ dV w' b h c2 f ∧ w.grownBy w' (some b) := by
 have q0 : IntKind.i64.wrap (q - 1) = q - 1 := IntWalk.i64_in _ (by omega)
 have q2 : IntKind.u64.wrap (q - 1) = q - 1 := by simp [IntKind.wrap, IntKind.bits, IntKind.signed]; omega
 have q3 : IntKind.u64.wrap q = q := by simp [IntKind.wrap, IntKind.bits, IntKind.signed]; omega
 go_in
 go_wp2_with fail
 refine (Tryz.bits_Len64 (q - 1) _ (by omega) (by omega)).mono ?_
 rintro e w1 ⟨rfl, rfl⟩
 obtain ⟨ln, hln⟩ : ∃ n, Lib.bitLen (q - 1).toNat = n := ⟨_, rfl⟩
 obtain ⟨m1, hm1⟩ : ∃ m, IntKind.u64.wrap (2 ^ min ln 64) = m := ⟨_, rfl⟩
 obtain ⟨m, hm⟩ : ∃ m, IntKind.u64.wrap (m1 - 1) = m := ⟨_, rfl⟩
 have HN : Kp (fE h q m 256 c 0 = (n, c2, f)) := ⟨by rw [← hN.1, gI, hln, hm1, hm]⟩
 rw [hln]
 go_wp2
 clear hln hm hm1 hN
 go_loopw [6, 14] (fun x i u => ∃ (k : Nat) (y cc : Int) (ff : Bool), k ≤ 256 ∧ i = .int .i64 k ∧ x = .int .u64 y ∧ Hid (0 ≤ y) ∧ Hid (0 ≤ cc ∧ cc ≤ 1099511627776) ∧ Kp (fE h q m (256 - k) cc y = (n, c2, f)) ∧ Hid (dV u b h cc ff) ∧ Hid ((ff = true → cc = 1099511627776) ∧ (0 < k → ff = false)) ∧ Hid (w1.grownBy u (some b))) (fun _ i _ => 256 - (intOf i).toNat)
 case atStart => exact ⟨0, 0, c, f0, by omega, rfl, rfl, aa (Int.le_refl _), aa ⟨hc0, hc1⟩, HN, hS, aa ⟨hf0, fun h0 => absurd h0 (Nat.lt_irrefl _)⟩, aa (d_ (Below.refl _ _) _)⟩
 case round =>
  obtain ⟨k, y, cc, ff, hk, rfl, rfl, HY, HC, Mf, GU, Sq, Ke⟩ := hrel
  obtain ⟨Oz, TD⟩ := HC.out
  by_cases hlt : k < 256
  ·
   have I1 : 256 - k = (256 - (k + 1)) + 1 := by omega
   by_cases hcf : cc = 1099511627776
   ·
    subst hcf
    have HE : Kp ((0, 1099511627776, true) = (n, c2, f)) := ⟨by rw [← Mf.1, I1, fE, if_pos rfl]⟩
    go_wp2_with fail
    refine (vH h hl b ff _ GU).mono ?_
    rintro e w2 ⟨rfl, hS2, hG2⟩
    have HS2 := aa hS2
    have HG2 := aa (dZ Ke.out hG2)
    clear hS2 hG2
    go_upto_region 6 with ((with_reducible show wpList _ _ _ (⟨none, _, _, _, _, _⟩ :: _) _ _); refine wpList_store_row rfl 27 _ _ rfl w2.heap.size (arr .u8 (aR 32)) rfl rfl _ _ (heap_alloc_new _ _) (aF rfl) (dF (l := aR 32) rfl rfl) (bF _) ?_)
    rw [World.setRow_alloc_new]
    try simp only [Act.put]
    have rM := aa (HS2.out.below (af w2 (.cells (arr .u8 (aR 32)) 27)))
    have F9 := aa (lU HG2.out (.cells (arr .u8 (aR 32)) 27))
    obtain ⟨W3, hW3⟩ : ∃ u, w2.alloc (.cells (arr .u8 (aR 32)) 27) = u := ⟨_, rfl⟩
    rw [hW3] at rM F9 ⊢
    clear hW3
    obtain ⟨f1, f2⟩ := rM.out.full hl.out
    have he1 : n = 0 := by have h2 := HE.1; simp only [Prod.mk.injEq] at h2; exact h2.1.symm
    have he2 : c2 = 1099511627776 := by have h2 := HE.1; simp only [Prod.mk.injEq] at h2; exact h2.2.1.symm
    have IJ : f = true := by have h2 := HE.1; simp only [Prod.mk.injEq] at h2; exact h2.2.2.symm
    go_wp2
    go_ret
    exact ⟨by rw [he1]; rfl, by rw [he2, IJ]; exact rM.out, F9.out⟩
   ·
    have hcl : cc < 1099511627776 := by omega
    have M8 : ff = false := by
     cases hq : ff with
     | false => rfl
     | true => exact absurd (Sq.out.1 hq) hcf
    subst M8
    have Ey := aa (hv.out.below (hB0.out.trans (iK Ke.out hB hB0.out.size)))
    go_wp2_with fail
    refine (A7 h hl hb cc Oz hcl b _ Ey GU).mono ?_
    rintro e w2 ⟨rfl, hS2, hG2⟩
    obtain ⟨R, hR⟩ : ∃ R, ja h cc = R := ⟨_, rfl⟩
    have gy : Hid (R.length = 32) := aa (by rw [← hR]; exact DF _ _)
    have Pw : Hid (au R = true) := aa (by rw [← hR]; exact yJ _ _)
    have Ea : Kp ((if bits BinOp.and IntKind.u64 (iL R) m < q then (bits BinOp.and IntKind.u64 (iL R) m, cc + 1, false) else fE h q m (256 - (k + 1)) (cc + 1) (bits BinOp.and IntKind.u64 (iL R) m)) = (n, c2, f)) := ⟨by rw [← Mf.1, I1, fE, if_neg hcf, hR]⟩
    rw [hR]
    have HS2 := aa hS2
    have HG2 := aa (dZ Ke.out hG2)
    clear hS2 hG2 hR Mf I1
    go_upto_region 6 with ((with_reducible show wpList _ _ _ (⟨none, _, _, _, _, _⟩ :: _) _ _); refine wpList_store_row rfl 27 _ _ rfl w2.heap.size (arr .u8 R) rfl rfl _ _ (heap_alloc_new _ _) (aF gy.out) (dF (l := aR 32) rfl gy.out) (bF _) ?_)
    rw [World.setRow_alloc_new]
    try simp only [Act.put]
    have G7 : Hid (bf .u8 27 (w2.alloc (.cells (arr .u8 R) 27)) w2.heap.size R) := aa (bf.new _ _)
    have rM := aa (HS2.out.below (af w2 (.cells (arr .u8 R) 27)))
    have F9 := aa (lU HG2.out (.cells (arr .u8 R) 27))
    obtain ⟨W3, hW3⟩ : ∃ u, w2.alloc (.cells (arr .u8 R) 27) = u := ⟨_, rfl⟩
    rw [hW3] at rM F9 G7 ⊢
    clear hW3
    obtain ⟨f1, f2⟩ := rM.out.full hl.out
    go_wp2_with ((with_reducible show wpList _ _ _ (⟨some 22, _, _, _, _, _⟩ :: _) _ _); refine wpList_load_row rfl 27 _ rfl w2.heap.size rfl _ _ _ _ G7.out Tryz.underlying27 rfl (aF gy.out) ?_)
    clear f1 f2
    refine (x9 R gy Pw _).mono ?_
    rintro e w4 ⟨rfl, hb4⟩
    have wH := aa (rM.out.below hb4)
    have Mt := aa (dZ F9.out (d_ hb4 _))
    have hz0 := bits_lo_u64 BinOp.and (iL R) m
    obtain ⟨z, hz⟩ : ∃ z, bits BinOp.and IntKind.u64 (iL R) m = z := ⟨_, rfl⟩
    rw [hz] at hz0 Ea
    obtain ⟨fr, hfr⟩ : ∃ z, iL R = z := ⟨_, rfl⟩
    rw [hfr] at hz ⊢
    clear hb4 hfr
    by_cases NW : z < q
    ·
     have HE : Kp ((z, cc + 1, false) = (n, c2, f)) := ⟨by rw [← Ea.1, if_pos NW]⟩
     have d1 : decide (z < q) = true := by simp [NW]
     have z1 : IntKind.i64.wrap z = z := IntWalk.i64_in _ (by omega)
     have he1 : n = z := by have h2 := HE.1; simp only [Prod.mk.injEq] at h2; exact h2.1.symm
     have he2 : c2 = cc + 1 := by have h2 := HE.1; simp only [Prod.mk.injEq] at h2; exact h2.2.1.symm
     have IJ : f = false := by have h2 := HE.1; simp only [Prod.mk.injEq] at h2; exact h2.2.2.symm
     have MB := aa he1
     have HE2 := aa he2
     have Qb := aa IJ
     clear Ea he1 he2 IJ
     go_wp2
     go_ret
     exact ⟨by rw [MB.out]; rfl, by rw [HE2.out, Qb.out]; exact wH.out, Mt.out⟩
    ·
     have HE : Kp (fE h q m (256 - (k + 1)) (cc + 1) z = (n, c2, f)) := ⟨by rw [← Ea.1, if_neg NW]⟩
     have d1 : decide (z < q) = false := by simp; omega
     have HZ0 := aa hz0
     have yY : Hid (0 ≤ cc + 1 ∧ cc + 1 ≤ 1099511627776) := aa (by omega)
     clear Ea
     go_wp2
     go_roundw
     case rel => exact ⟨k + 1, z, cc + 1, false, by omega, by go_num, rfl, HZ0, yY, HE, wH, aa ⟨(fun h0 => absurd h0 (by decide)), (fun _ => rfl)⟩, Mt⟩
     case measure => simp [intOf]; omega
  ·
   obtain rfl : k = 256 := by omega
   obtain rfl : ff = false := Sq.out.2 (by omega)
   have hy := HY.out
   have HE : Kp ((y.tmod q, cc, false) = (n, c2, f)) := ⟨by rw [← Mf.1]; rfl⟩
   obtain ⟨z, hz⟩ : ∃ z, y.tmod q = z := ⟨_, rfl⟩
   have hz0 : 0 ≤ z ∧ z < q := by
    rw [← hz, Int.tmod_eq_emod_of_nonneg hy]
    exact ⟨Int.emod_nonneg _ (by omega), Int.emod_lt_of_pos _ (by omega)⟩
   have z1 : IntKind.i64.wrap z = z := IntWalk.i64_in _ (by omega)
   have qz : ((q : Int) == 0) = false := by simp; omega
   have Vn : ¬ (q = 0) := by omega
   have he1 : n = z := by have h2 := HE.1; simp only [Prod.mk.injEq] at h2; rw [← hz]; exact h2.1.symm
   have he2 : c2 = cc := by have h2 := HE.1; simp only [Prod.mk.injEq] at h2; exact h2.2.1.symm
   have IJ : f = false := by have h2 := HE.1; simp only [Prod.mk.injEq] at h2; exact h2.2.2.symm
   have MB := aa he1
   have HE2 := aa he2
   have Qb := aa IJ
   clear HE he1 he2 IJ hlt Mf
   go_wp2
   go_ret
   exact ⟨by rw [MB.out]; rfl, by rw [HE2.out, Qb.out]; exact GU.out, Ke.out⟩
theorem zh (a b m v : Int) (hv : Hid (a * b % m = v)) (h2 : m < 2305843009213693952) (ha0 : 0 ≤ a) (ha : a < m) (hb0 : 0 ≤ b) (hb : b < m) (w : World) :
  Calls Tryz.prog 28 #[.int .i64 a, .int .i64 b, .int .i64 m] w fun e w' => e = .returned (.tuple #[.int .i64 v, .int .i64 0]) ∧ ∃ n, w' = w.drewN n := by
 rw [← hv.out]; exact zg a b m h2 ha0 ha hb0 hb w
def dz (P : Int) : Int → List Int → List Int → Int
 | acc, x :: xs, e :: es => dz P (acc * pw x e P % P) xs es
 | acc, _, _ => acc
theorem xm {P acc : Int} {k : Nat} {xs es : List Int} (hk : k < xs.length) (he : k < es.length) :
  dz P acc (xs.drop k) (es.drop k) = dz P (acc * pw (xs.getD k 0) (es.getD k 0) P % P) (xs.drop (k + 1)) (es.drop (k + 1)) := by
 rw [List.drop_eq_getElem_cons hk, List.drop_eq_getElem_cons he, dz, List.getD_eq_getElem?_getD, List.getElem?_eq_getElem hk, List.getD_eq_getElem?_getD, List.getElem?_eq_getElem he]
 rfl
theorem uH {P s V : Int} {xs es : List Int} (h : Hid (dz P s xs es = V)) : Hid (dz P s (xs.drop 0) (es.drop 0) = V) := aa (by
 rw [List.drop_zero, List.drop_zero]
 exact h.out)
theorem Ar {P acc V : Int} {k : Nat} {xs es : List Int} (hn : xs.length = k) (h : Hid (dz P acc (xs.drop k) (es.drop k) = V)) : acc = V := by
 have h2 := h.out
 rw [← hn, List.drop_length] at h2
 exact h2
theorem je {Q x : Int} (h : bH Q x = true) : 0 ≤ x := by simp [bH] at h; exact h.1
theorem oM {Q x : Int} (h : bH Q x = true) : x < Q := by simp [bH] at h; exact h.2
theorem fA {w : World} {b : Nat} {xs : List Int} (h : Cells w b xs) : Sl w (some ⟨b, 0, none⟩) xs := fun k hk => ⟨b, 0, rfl, by rw [Nat.zero_add]; exact h k hk⟩
theorem Jc (h : List Int) (hl : h.length = 32) (c : Int) : Tryz.prog.built 83 [(0, .agg (ak h c))] = some (uw h c false) := by
 obtain ⟨a0, a1, a2, a3, a4, a5, a6, a7, a8, a9, Jr, Jq, a12, Jp, Jo, Jn, a16, a17, Jm, Jl, a20, a21, a22, a23, a24, a25, a26, a27, a28, a29, a30, a31, rfl⟩ := sD h hl
 kernel_rfl
theorem Ay {h : List Int} {q c n rc : Int} (hc : c ≤ 1099511627776) (hN : fE h q (gI q) 256 c 0 = (n, rc, false)) : c < rc := by
 have e : (256 : Nat) = 255 + 1 := rfl
 rw [e, fE] at hN
 by_cases he : c = 1099511627776
 ·
  rw [if_pos he] at hN
  cases hN
 ·
  rw [if_neg he] at hN
  by_cases hy : bits BinOp.and IntKind.u64 (iL (ja h c)) (gI q) < q
  ·
   rw [if_pos hy] at hN
   have := congrArg (fun p => p.2.1) hN
   simp at this
   omega
  ·
   rw [if_neg hy] at hN
   have h2 := (uL (h := h) (q := q) (m := gI q) 255 (c + 1) (bits BinOp.and IntKind.u64 (iL (ja h c)) (gI q)) (by omega)).1
   rw [hN] at h2
   have h3 : c + 1 ≤ rc := h2
   omega
theorem mR (h : List Int) (hl : Hid (h.length = 32)) (hb : Hid (au h = true)) (c : Int) (hdr : Hid (nS c = true)) (q : Int) (hq1 : 1 ≤ q) (hq2 : q < 2305843009213693952) (n rc : Int) (f : Bool) (HN : Kp (fE h q (gI q) 256 c 0 = (n, rc, f)))
  (hh : List Int) (cc ee : Int) (hR : Hid ((if f = true then He (aR 32) 0 5 else He h rc 0) = He hh cc ee)) (JZ : Hid (hh.length = 32)) (w : World) (hv : Hid (bu w)) :
  Calls Tryz.prog 27 #[.agg (ak h c), .int .i64 q] w (Rt w (Hf hh cc n ee)) := by
 obtain ⟨hc0, hc1⟩ : 0 ≤ c ∧ c ≤ 1099511627776 := by have h2 := hdr.out; simp [nS] at h2; exact h2
 obtain ⟨W, hW⟩ : ∃ W, (w.alloc (.cells (ak h c) 29)).alloc (.cells #[.int .u8 0, .int .u8 0, .int .u8 0, .int .u8 0, .int .u8 0, .int .u8 0, .int .u8 0, .int .u8 0, .int .u8 0, .int .u8 0, .int .u8 0, .int .u8 0, .int .u8 0, .int .u8 0, .int .u8 0, .int .u8 0, .int .u8 0, .int .u8 0, .int .u8 0, .int .u8 0, .int .u8 0, .int .u8 0, .int .u8 0, .int .u8 0, .int .u8 0, .int .u8 0, .int .u8 0, .int .u8 0, .int .u8 0, .int .u8 0, .int .u8 0, .int .u8 0, .int .i64 0] 29) = W := ⟨_, rfl⟩
 have cK : Hid (Below w.heap.size w W) := aa (by rw [← hW]; exact aB (Below.refl _ _))
 have HT0 : Hid (aD W w.heap.size h c) := aa (by rw [← hW]; exact heap_alloc2_old _ _ _)
 have jT : Hid (aD W (w.heap.size + 1) (aR 32) 0) := aa (by rw [← hW, nO]; exact heap_alloc2_new _ _ _)
 have rJ : Hid (W.heap.size = w.heap.size + 2) := aa (by rw [← hW]; simp)
 have HV := aa (hv.out.below cK.out)
 have HW := aa hW
 clear hW hv
 go_in
 go_upto_region 1 with (fail)
 rw [HW.out]
 clear HW
 go_wp2_with ((with_reducible show wpList _ _ _ (⟨some 11, _, _, _, _, _⟩ :: _) _ _); refine wpList_load_row rfl 29 _ rfl w.heap.size rfl _ _ _ _ HT0.out Tryz.underlying29 rfl (ai hl.out) ?_)
 refine (AZ h hl c hdr q 1 2305843009213693951 hq1 (by omega) _).mono ?_
 rintro e w1 ⟨rfl, hb1⟩
 have HT1 := aa (HT0.out.below hb1)
 have HR1 := aa (jT.out.below hb1)
 have HB1 := aa (ag cK.out hb1)
 have JP := aa hb1
 have jV := aa (HV.out.below hb1)
 have HZ1 : Hid (w.heap.size + 2 ≤ w1.heap.size) := aa (by have := hb1.size; have := rJ.out; omega)
 clear hb1 HT0 jT
 go_wp2_with (first
  | ((with_reducible show wpList _ _ _ (⟨some 18, _, _, _, _, _⟩ :: _) _ _); refine wpList_load_row rfl 29 _ rfl w.heap.size rfl _ _ _ _ HT1.out Tryz.underlying29 rfl (ai hl.out) ?_)
  | ((with_reducible show wpList _ _ _ (⟨some 19, _, _, _, _, _⟩ :: _) _ _); refine dX rfl 83 _ rfl _ (Jc h hl.out c) ?_))
 have OM : dV (w1.alloc (.cells (uw h c false) 83)) w1.heap.size h c false := heap_alloc_new _ _
 have hb3 := af w1 (.cells (uw h c false) 83)
 have C_ : (w1.alloc (.cells (uw h c false) 83)).heap.size = w1.heap.size + 1 := by simp
 obtain ⟨W3, hW3⟩ : ∃ u, w1.alloc (.cells (uw h c false) 83) = u := ⟨_, rfl⟩
 rw [hW3] at OM hb3 C_ ⊢
 have rM := aa OM
 have HB3 := aa hb3
 have Pp := aa C_
 clear OM hb3 C_ hW3
 refine (vD h hl hb q hq1 hq2 c hc0 hc1 w1.heap.size w1 jV _ HB3 (Nat.le_refl _) false (fun e => by cases e) rM n rc f HN).mono ?_
 rintro e w4 ⟨rfl, IP, hG4⟩
 have wH := aa IP
 have hB4 : Below w1.heap.size w1 w4 := HB3.out.trans (iK hG4 (Nat.le_refl _) (by have := Pp.out; omega))
 have J9 := aa (HT1.out.below hB4)
 have HR4 := aa (HR1.out.below hB4)
 have qg := aa (ag HB1.out hB4)
 clear IP hG4 hB4 HT1 HR1
 go_wp2_with fail
 refine (vC h hl rc f w1.heap.size _ wH).mono ?_
 rintro e w5 ⟨rfl, hb5⟩
 rw [hR.out, show He hh cc ee = .tuple #[.agg (ak hh cc), .int .i64 ee] from rfl]
 have F6 := aa (J9.out.below hb5)
 have sW := aa (HR4.out.below hb5)
 have mD := aa (ag qg.out hb5)
 clear hb5
 go_upto_region 7 with ((with_reducible show wpList _ _ _ (⟨none, _, _, _, _, _⟩ :: _) _ _); refine wpList_store_row rfl 29 _ _ rfl w.heap.size (ak hh cc) rfl rfl _ _ F6.out (ai JZ.out) (aH hl.out JZ.out) (ay _ _) ?_)
 have J8 : Hid (aD (w5.setRow w.heap.size (ak hh cc)) w.heap.size hh cc) := aa F6.out.setRow
 have G5 : Hid (aD (w5.setRow w.heap.size (ak hh cc)) (w.heap.size + 1) (aR 32) 0) := aa ((setRow_other _ _ _ _ (by omega)).trans sW.out)
 have GZ : Hid (aD ((w5.setRow w.heap.size (ak hh cc)).setRow (w.heap.size + 1) (ak hh cc)) (w.heap.size + 1) hh cc) := aa G5.out.setRow
 have Ni := ah (cs := ak hh cc) (ah (cs := ak hh cc) mD.out (Nat.le_refl w.heap.size)) (Nat.le_succ w.heap.size)
 go_wp2_with (first
  | ((with_reducible show wpList _ _ _ (⟨some 29, _, _, _, _, _⟩ :: _) _ _); refine wpList_load_row rfl 29 _ rfl w.heap.size rfl _ _ _ _ J8.out Tryz.underlying29 rfl (ai JZ.out) ?_)
  | ((with_reducible show wpList _ _ _ (⟨none, _, _, _, _, _⟩ :: _) _ _); refine wpList_store_row rfl 29 _ _ rfl (w.heap.size + 1) (ak hh cc) rfl rfl _ _ G5.out (ai JZ.out) (aH rfl JZ.out) (ay _ _) ?_))
 exact bodyPost_ret (v := Hf hh cc n ee) (gF (p := 4) (q := 5) (r := 6) (ty := 29) rfl _ _ ⟨w.heap.size + 1, 0, none⟩ _ _ _ rfl rfl rfl (run_loadVar_row _ _ _ _ _ _ _ GZ.out Tryz.underlying29 rfl (ai JZ.out))) rfl ⟨rfl, Ni⟩
theorem dA {P Q G : Int} (h : aC P Q G = true) : av P Q G = true := by
 obtain ⟨h1, h2, h3, h4⟩ := aJ h
 simp [aC] at h
 simp [av]
 omega
theorem rY {P Q g a a' : Int} (hP : 2 ≤ P) (hQ : 1 ≤ Q) (hg : av P Q g = true) (ha : 0 ≤ a) (ha' : 0 ≤ a') (h : a % Q = a' % Q) : pw g a P = pw g a' P := by
 rw [Cx hP hQ ha (jJ hg), Cx hP hQ ha' (jJ hg), h]
def rep (P G H a b : Int) : Int := pw G a P * pw H b P % P
theorem lD {P G H a b c d : Int} (ha : 0 ≤ a) (hb : 0 ≤ b) (hc : 0 ≤ c) (hd : 0 ≤ d) : rep P G H a b * rep P G H c d % P = rep P G H (a + c) (b + d) := by
 unfold rep
 rw [rZ G a c P ha hc, rZ H b d P hb hd, ← Int.mul_emod, ← Int.mul_emod]
 congr 1
 simp only [Int.mul_assoc, Int.mul_left_comm, Int.mul_comm]
theorem H7 {P G H a b k : Int} (ha : 0 ≤ a) (hb : 0 ≤ b) (hk : 0 ≤ k) : pw (rep P G H a b) k P = rep P G H (a * k) (b * k) := by
 unfold rep
 rw [zu, qR G a k P ha hk, qR H b k P hb hk]
theorem jh {P Q G H a b a' b' : Int} (hP : 2 ≤ P) (hQ : 1 ≤ Q) (hG : av P Q G = true) (hH : av P Q H = true) (ha : 0 ≤ a) (hb : 0 ≤ b) (ha' : 0 ≤ a') (hb' : 0 ≤ b') (h1 : a % Q = a' % Q) (h2 : b % Q = b' % Q) : rep P G H a b = rep P G H a' b' := by
 unfold rep
 rw [rY hP hQ hG ha ha' h1, rY hP hQ hH hb hb' h2]
theorem uE {P G H a : Int} (hP : 2 ≤ P) : rep P G H a 0 = pw G a P := by
 have h := lG H P hP
 rw [rep, h, Int.mul_one, bV, Int.emod_emod_of_dvd _ (Int.dvd_refl P)]
theorem Gm {P G H b : Int} (hP : 2 ≤ P) : rep P G H 0 b = pw H b P := by
 rw [rep, lG G P hP, Int.one_mul, bV, Int.emod_emod_of_dvd _ (Int.dvd_refl P)]
theorem lF {P Q G H a b : Int} (hP : 2 ≤ P) (hQ : 1 ≤ Q) (hG : av P Q G = true) (hH : av P Q H = true) (ha : 0 ≤ a) (hb : 0 ≤ b) : av P Q (rep P G H a b) = true :=
 jI hP hQ (fI hP hQ ha hG) (fI hP hQ hb hH)
theorem jq {Q a m : Int} (hQ : 1 ≤ Q) : (a + (-m) % Q) % Q = (a - m) % Q := by
 rw [Int.add_emod, Int.emod_emod_of_dvd _ (Int.dvd_refl Q), ← Int.add_emod, Int.sub_eq_add_neg]
theorem zn {P Q G H m r x : Int} (hP : 2 ≤ P) (hQ : 1 ≤ Q) (hG : av P Q G = true) (hH : av P Q H = true) (hm : 0 ≤ m) (hr : 0 ≤ r) (h0 : 0 ≤ x) (h1 : x < P) (h : x * rep P G H m r % P = 1) : x = rep P G H ((-m) % Q) ((-r) % Q) := by
 have n1 : 0 ≤ (-m) % Q := Int.emod_nonneg _ (by omega)
 have n2 : 0 ≤ (-r) % Q := Int.emod_nonneg _ (by omega)
 have e1 : rep P G H m r * rep P G H ((-m) % Q) ((-r) % Q) % P = 1 := by
  rw [lD hm hr n1 n2, jh (a' := 0) (b' := 0) hP hQ hG hH (by omega) (by omega) (by omega) (by omega) (by rw [jq hQ, Int.sub_self]) (by rw [jq hQ, Int.sub_self]), uE hP, lG G P hP]
 have e2 : x * (rep P G H m r * rep P G H ((-m) % Q) ((-r) % Q)) % P = x := by
  rw [Int.mul_emod, e1, Int.mul_one, Int.emod_emod_of_dvd _ (Int.dvd_refl P), Int.emod_eq_of_lt h0 h1]
 have r0 : rep P G H ((-m) % Q) ((-r) % Q) % P = rep P G H ((-m) % Q) ((-r) % Q) := by
  rw [rep, Int.emod_emod_of_dvd _ (Int.dvd_refl P)]
 rw [← e2, ← Int.mul_assoc, Int.mul_emod, h, Int.one_mul, Int.emod_emod_of_dvd _ (Int.dvd_refl P), r0]
def gz (f : Nat → Int) : Nat → Int
 | 0 => 0
 | n + 1 => gz f n + f n * 2 ^ n
theorem qJ (m : Int) : ∀ n, gz (fun i => m / 2 ^ i % 2) n = m % 2 ^ n
 | 0 => by rw [gz, Int.pow_zero, Int.emod_one]
 | n + 1 => by
  rw [gz, qJ m n]
  have h1 : (0 : Int) < 2 ^ n := Int.pow_pos (by decide)
  have e1 := Int.emod_add_mul_ediv m (2 ^ n)
  have e2 := Int.emod_add_mul_ediv (m / 2 ^ n) 2
  have e3 : m / 2 ^ (n + 1) = m / 2 ^ n / 2 := by rw [Int.pow_succ, Int.ediv_ediv_of_nonneg (by omega)]
  have e4 := Int.emod_add_mul_ediv m (2 ^ (n + 1))
  rw [e3, Int.pow_succ] at e4
  rw [Int.pow_succ]
  generalize (2 : Int) ^ n = M at *
  generalize m / M = a at *
  generalize a / 2 = b at *
  generalize a % 2 = c at *
  generalize m % M = d at *
  generalize m % (M * 2) = e at *
  grind
theorem nW {f : Nat → Int} : ∀ n, (∀ i, i < n → 0 ≤ f i) → 0 ≤ gz f n
 | 0, _ => Int.le_refl 0
 | n + 1, h => by
  rw [gz]
  have h1 := nW n (fun i hi => h i (by omega))
  have h2 := Int.mul_nonneg (h n (by omega)) (Int.le_of_lt (Int.pow_pos (n := 2) (m := n) (by decide)))
  exact Int.add_nonneg h1 h2
def jU (Q r : Int) (f : Nat → Int) : Nat → Int
 | 0 => r
 | n + 1 => (jU Q r f n - f (n + 1) * (2 ^ (n + 1) % Q) % Q) % Q
theorem sH {Q r : Int} {f : Nat → Int} (hQ : 1 ≤ Q) (h0 : 0 ≤ r) (h1 : r < Q) : ∀ n, 0 ≤ jU Q r f n ∧ jU Q r f n < Q
 | 0 => ⟨h0, h1⟩
 | n + 1 => ⟨Int.emod_nonneg _ (by omega), Int.emod_lt_of_pos _ (by omega)⟩
def qy (Q r : Int) (f : Nat → Int) (n i : Nat) : Int := if i = 0 then jU Q r f (n - 1) else f i
theorem zL {Q r : Int} {f : Nat → Int} (hQ : 1 ≤ Q) : ∀ n, (jU Q r f n + (gz (fun i => if i = 0 then 0 else f i) (n + 1))) % Q = r % Q
 | 0 => by
  show (r + (0 + (if (0 : Nat) = 0 then 0 else f 0) * 2 ^ 0)) % Q = r % Q
  simp
 | n + 1 => by
  have ih := zL (r := r) (f := f) hQ n
  rw [gz, jU, if_neg (by omega)]
  have e : ((jU Q r f n - f (n + 1) * (2 ^ (n + 1) % Q) % Q) % Q + (gz (fun i => if i = 0 then 0 else f i) (n + 1) + f (n + 1) * 2 ^ (n + 1))) % Q = (jU Q r f n + gz (fun i => if i = 0 then 0 else f i) (n + 1)) % Q := by
   generalize gz (fun i => if i = 0 then 0 else f i) (n + 1) = W
   generalize jU Q r f n = F
   generalize f (n + 1) = x
   generalize (2 : Int) ^ (n + 1) = M
   rw [Int.emod_add_emod]
   have h1 := Int.emod_add_mul_ediv M Q
   have h2 := Int.emod_add_mul_ediv (x * (M % Q)) Q
   apply Int.emod_eq_emod_iff_emod_sub_eq_zero.2
   apply Int.emod_eq_zero_of_dvd
   refine ⟨x * (M / Q) + x * (M % Q) / Q, ?_⟩
   generalize M / Q = u at *
   generalize M % Q = v at *
   generalize x * v / Q = t at *
   generalize x * v % Q = s at *
   grind
  rw [e, ih]
end Go.Proofs.YtgbfhcfhopadaaaGreatDoor