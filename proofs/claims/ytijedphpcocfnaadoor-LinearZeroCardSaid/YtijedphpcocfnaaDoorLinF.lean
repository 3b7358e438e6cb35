/- linear.Respond. -/
import Derived.Test.YtijedphpcocfnaaDoorLinE
import Derived.Deep.RegionHeld3
import Derived.Deep.AppendLies
namespace Go.Proofs.YtijedphpcocfnaaDoor
open Go.RowKit SpM
set_option linter.unusedVariables false
set_option linter.unusedSimpArgs false
set_option maxRecDepth 20000

/-- the responses up to n. -/
def rspL (Q c : Int) (ks xs : List Int) (n : Nat) : List Int := (List.range n).map fun i => (ks.getD i 0 + c * xs.getD i 0 % Q) % Q
theorem rspL_length (Q c : Int) (ks xs : List Int) (n : Nat) : (rspL Q c ks xs n).length = n := by simp [rspL]
theorem rspL_succ (Q c : Int) (ks xs : List Int) (n : Nat) : rspL Q c ks xs (n + 1) = rspL Q c ks xs n ++ [(ks.getD n 0 + c * xs.getD n 0 % Q) % Q] := by
  simp [rspL, List.range_succ]
theorem sl_of_cells {w : World} {b : Nat} {xs : List Int} (h : Cells w b xs) : Sl w (some ⟨b, 0, none⟩) xs := fun k hk => ⟨b, 0, rfl, by rw [Nat.zero_add]; exact h k hk⟩
theorem scB_one {Q c : Int} (h0 : 0 ≤ c) (h1 : c < Q) : [c].all (scB Q) = true := by simp [scB]; omega

set_option maxHeartbeats 6400000 in
theorem lrespond_ok (P Q G : Int) (K : Option Addr) (ks : List Int) (kn kc : Nat) (c : Int) (X : Option Addr) (xs : List Int) (xc : Nat) (hg : Hid (validG P Q G = true)) (hkn : Hid (ks.length = kn)) (hxn : Hid (xs.length = kn)) (h1 : 1 ≤ kn) (h2 : kn ≤ 12)
    (hk : Hid (ks.all (scB Q) = true)) (hx : Hid (xs.all (scB Q) = true)) (hc0 : 0 ≤ c) (hc1 : c < Q) (hQ : Q < 9223372036854775808) (w : World) (hv : Hid (Vars w)) (hK : Hid (Sl w K ks)) (hX : Hid (Sl w X xs)) :
    Calls Tryd.prog 23 #[gv P Q G, .slice K kn kc, .int .i64 c, .slice X kn xc] w (ListOk (rspL Q c ks xs kn) w) := by
  obtain ⟨i0, hi, hz0, hz1, hz2⟩ := info_parts intInfo
  obtain ⟨hp2, hp, hq3, hqp⟩ := validG_P hg.out
  have HV0 := Lib.hid (hv.out.below (below_box0 w (gObj P Q G)))
  have HX0 := Lib.hid (gbox_alloc w P Q G)
  have HK0 := Lib.hid (hK.out.below (below_box0 w (gObj P Q G)))
  have HS0 := Lib.hid (hX.out.below (below_box0 w (gObj P Q G)))
  have d1 : decide ((kn : Int) < 1) = false := by simp; omega
  have d2 : decide ((12 : Int) < (kn : Int)) = false := by simp; omega
  clear hv hK hX
  go_enter Tryd.func23, Tryd.ntmps23
  go_wp2_with fail
  refine (valid_any P Q G true hg hQ _ HV0).mono ?_
  rintro e w1 ⟨rfl, hb0⟩
  have hb1 := below_ext (below_box0 _ _) hb0
  have HV1 := Lib.hid (HV0.out.below hb0)
  have HX1 := Lib.hid (HX0.out.below hb0)
  have HK1 := Lib.hid (HK0.out.below hb0)
  have HS1 := Lib.hid (HS0.out.below hb0)
  clear hb0
  obtain ⟨c0, c1, c2⟩ := HX1.out
  go_wp2_with fail
  refine (scalars_any P Q G K ks kn kc true hk hkn (Lib.hid (by omega)) _ HK1).mono ?_
  rintro e w2 ⟨rfl, hb0⟩
  have hb2 := below_ext hb1 hb0
  have HV2 := Lib.hid (HV1.out.below hb0)
  have HX2 := Lib.hid (HX1.out.below hb0)
  have HK2 := Lib.hid (HK1.out.below hb0)
  have HS2 := Lib.hid (HS1.out.below hb0)
  clear c0 c1 c2 hb0
  obtain ⟨c0, c1, c2⟩ := HX2.out
  go_wp2_with fail
  refine (scalars_any P Q G X xs kn xc true hx hxn (Lib.hid (by omega)) _ HS2).mono ?_
  rintro e w3 ⟨rfl, hb0⟩
  have hb3 := below_ext hb2 hb0
  have HV3 := Lib.hid (HV2.out.below hb0)
  have HX3 := Lib.hid (HX2.out.below hb0)
  have HK3 := Lib.hid (HK2.out.below hb0)
  have HS3 := Lib.hid (HS2.out.below hb0)
  clear c0 c1 c2 hb0
  obtain ⟨c0, c1, c2⟩ := HX3.out
  have hq := below_box0 w3 (.cells #[.int .i64 c] 3)
  have HO := Lib.hid (sl_of_cells (cells1 w3 3 c))
  have HXa := Lib.hid (HX3.out.below hq)
  have HKa := Lib.hid (HK3.out.below hq)
  have HSa := Lib.hid (HS3.out.below hq)
  have hba := below_ext hb3 hq
  have HBO := Lib.hid (scB_one hc0 hc1)
  clear hq
  go_wp2_with fail
  refine (scalars_any P Q G (some ⟨w3.heap.size, 0, none⟩) [c] 1 1 true HBO (Lib.hid rfl) (Lib.hid (by omega)) _ HO).mono ?_
  rintro e W ⟨rfl, hb0⟩
  have hbW := below_ext hba hb0
  have HXW := Lib.hid (HXa.out.below hb0)
  have HKW := Lib.hid (HKa.out.below hb0)
  have HSW := Lib.hid (HSa.out.below hb0)
  clear hb0 c0 c1 c2
  go_wp2
  go_loopw [10, 55] (fun v i wr => ∃ k : Nat, k ≤ kn ∧ i = .int .i64 k ∧ Hid (OwnL wr W.heap.size v (rspL Q c ks xs k)) ∧ Hid (Below W.heap.size W wr)) (fun _ i _ => kn - (intOf i).toNat)
  case atStart => exact ⟨0, by omega, rfl, Lib.hid (ownL_nil _ _), Lib.hid (Below.refl _ _)⟩
  case round =>
    obtain ⟨k, hkk, rfl, HOr, HBr⟩ := hrel
    by_cases hlt : k < kn
    · have hkl : k < ks.length := by rw [hkn.out]; exact hlt
      have hxl : k < xs.length := by rw [hxn.out]; exact hlt
      obtain ⟨b1, o1, hK, hi0⟩ := HKW.out.below HBr.out k hkl
      obtain ⟨b2, o2, hX, hi1⟩ := HSW.out.below HBr.out k hxl
      subst hK
      subst hX
      obtain ⟨c0, c1, c2⟩ := HXW.out.below HBr.out
      have hm1 := all_get hk.out hkl
      have hm2 := all_get hx.out hxl
      have hst := rspL_succ Q c ks xs k
      obtain ⟨x, hxx⟩ : ∃ x, ks.getD k 0 = x := ⟨_, rfl⟩
      obtain ⟨y, hyy⟩ : ∃ x, xs.getD k 0 = x := ⟨_, rfl⟩
      rw [hxx] at hi0 hm1 hst
      rw [hyy] at hi1 hm2 hst
      have x0 := scB_lo hm1
      have x1 := scB_hi hm1
      have y0 := scB_lo hm2
      have y1 := scB_hi hm2
      obtain ⟨p, hp1⟩ : ∃ p, c * y % Q = p := ⟨_, rfl⟩
      have p0 : 0 ≤ p := by rw [← hp1]; exact Int.emod_nonneg _ (by omega)
      have p1 : p < Q := by rw [← hp1]; exact Int.emod_lt_of_pos _ (by omega)
      rw [hp1] at hst
      obtain ⟨t, ht⟩ : ∃ t, (x + p) % Q = t := ⟨_, rfl⟩
      rw [ht] at hst
      have htm : (x + p).tmod Q = t := by rw [Int.tmod_eq_emod_of_nonneg (by omega), ht]
      have t0 : 0 ≤ t := by rw [← ht]; exact Int.emod_nonneg _ (by omega)
      have t1 : t < Q := by rw [← ht]; exact Int.emod_lt_of_pos _ (by omega)
      have hwt : IntKind.i64.wrap t = t := IntWalk.i64_in _ (by omega)
      have hQn : ¬ (Q = 0) := by omega
      have hQz : ((Q : Int) == 0) = false := by simp; omega
      have hsum : IntKind.i64.wrap (x + p) = x + p := IntWalk.i64_in _ (by omega)
      have hsum2 : wrap64 (x + p) = x + p := IntWalk.wrap64_in _ (by omega)
      have HST := Lib.hid hst
      have HP1 := Lib.hid hp1
      have HTL := Lib.hid (rspL_length Q c ks xs k)
      clear hm1 hm2 hst hxx hyy hp1 hkl hxl
      go_wp2
      go_quiet ((go_at_call 61; exact Calls.quiet_of (wmul_eq c y Q p HP1 (by omega) hc0 hc1 y0 y1 _)))
      have HO1 := Lib.hid (HOr.out.keep (below_drawN (Below.refl wr.heap.size wr) nq))
      have HB1 : Hid (Below W.heap.size W (wr.drewN nq)) := Lib.hid (below_drawN HBr.out _)
      obtain ⟨wq, hwq⟩ : ∃ x, wr.drewN nq = x := ⟨_, rfl⟩
      have HQB : Hid (Below wr.heap.size wr wq) := Lib.hid (by rw [← hwq]; exact below_drawN (Below.refl _ _) _)
      rw [hwq] at HO1 HB1 ⊢
      clear hwq
      have hi0q := cell_below hi0 HQB.out
      have c1q := cell_below c1 HQB.out
      go_wp2
      have hown : wq.ownsRow W.heap.size 3 1 u10 k ((rspL Q c ks xs k).map (Value.int .i64)) := by
        have h3 := HO1.out
        unfold OwnL at h3
        rwa [HTL.out] at h3
      have hbs := HB1.out.size
      have lb : b1 < W.heap.size := by
        obtain ⟨bb, oo, e1, e2⟩ := HKW.out k (by rw [hkn.out]; exact hlt)
        cases e1
        exact World.block_lt_of_cell? _ _ e2
      have lg : w.heap.size < W.heap.size := World.block_lt_of_cell? _ _ HXW.out.2.1
      have ag : u10.ownBlock ≠ some b1 := fun e => by have := (World.ownsRow.lt hown _ e).1; omega
      have ah : u10.ownBlock ≠ some w.heap.size := fun e => by have := (World.ownsRow.lt hown _ e).1; omega
      go_region_held3 (fun w' => w'.cell? ⟨b1, o1 + k, none⟩ = some (.int .i64 x) ∧ w'.cell? ⟨w.heap.size, 1, none⟩ = some (.int .i64 Q))
        (first | go_keep | (go_split_ands; refine ⟨?_, ?_⟩ <;> (first | (rw [hgrow.cell_far _ (by simp; omega) (Ne.symm ag)]; assumption) | (rw [hgrow.cell_far _ (by simp; omega) (Ne.symm ah)]; assumption))))
        ((refine step_append_lies _ (by rfl) _ _ _ (by rfl) W.heap.size 3 i0 _ 1 8 Tryd.underlying24 hi hz0 hz1 hz2 rfl (by omega) u10 k ((rspL Q c ks xs k).map (Value.int .i64)) (by rfl) ((hown.alloc _).drew)
            ⟨wq.heap.size, 0, none⟩ 1 1 [.int .i64 t] (by rfl) (by rfl) (World.news_of_block (cs := #[.int .i64 t]) (t := 3) (fr := (0, 0)) (heap_alloc_new wq _)) (by simp [Value.oneCell'])
            (by omega) (by unfold maxLen; omega) (by omega) (by simp; omega) (wq.heap.size + 1) (by simp) ?_; intro gg cap wz hown1 hgrow hat hlt2))
      have HO3 : Hid (OwnL wz W.heap.size (.slice (some ⟨gg, 0, none⟩) (k + 1) cap) (rspL Q c ks xs (k + 1))) := Lib.hid (by
        rw [HST.out]
        exact OwnL.app HTL.out.symm hown1)
      have HB3 : Hid (Below W.heap.size W wz) := Lib.hid (OwnL.below (o := .cells #[.int .i64 t] 3) HO1.out HB1.out hbs (by first | exact hgrow | exact ⟨hgrow.os, hgrow.tape, hgrow.output, hgrow.size, hgrow.block⟩))
      clear hown hown1 hgrow
      go_wp2
      go_roundw
      case rel => exact ⟨k + 1, by omega, by go_num, HO3, HB3⟩
      case measure => simp [intOf]; omega
    · obtain rfl : k = kn := by omega
      have HF := Lib.hid (HOr.out.mono (by have := hbW.size; omega : w.heap.size ≤ W.heap.size))
      have hbF := below_ext hbW HBr.out
      clear HOr hlt
      go_wp2
      go_ret2
      exact ⟨_, rfl, HF.out, hbF⟩
end Go.Proofs.YtijedphpcocfnaaDoor
