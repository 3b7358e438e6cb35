/- The contract of bitrange.Join: the good case. -/
import Derived.Test.YtohjfnhgibedpaaDoorJoinB
namespace Go.Proofs.YtohjfnhgibedpaaDoor
open Go.RowKit SpM
set_option linter.unusedVariables false
set_option linter.unusedSimpArgs false
set_option maxRecDepth 20000

set_option maxHeartbeats 6400000 in
theorem join_0 (P Q G A B H : Int) (S : Option Addr) (xs : List Int) (n c : Nat) (V : Int) (HVL : Hid (validB P Q G A B H = true)) (hl : n ≤ 16) (hm : Hid (xs.all (memG P Q) = true)) (hV : Hid (joinV P Q xs = V)) (hn : Hid (xs.length = n)) (hbig : n < 1000) (hQ : Q < 9223372036854775808) (w : World) (hv : Hid (Vars w)) (hs : Hid (Sl w S xs)) :
    Calls Tryd.prog 12 #[bv P Q G A B H, .slice S n c] w fun e' w' => e' = .returned (.tuple #[.int .i64 V, .int .i64 0]) ∧ Below w.heap.size w w' := by
  have HV0 := Lib.hid (hv.out.below (below_box0 w (bObj P Q G A B H)))
  have HX0 := Lib.hid (bbox_alloc w P Q G A B H)
  have HSl0 := Lib.hid (hs.out.below (below_box0 w (bObj P Q G A B H)))
  clear hs
  have d16 : decide ((16 : Int) < (n : Int)) = false := by simp; omega
  have HP : Hid ((xs.any fun x => !conG P Q G x) = false) := Lib.hid (by rw [any_not_con (validB_parts HVL.out).1, hm.out]; rfl)
  have hg := (validB_parts HVL.out).1
  obtain ⟨hp2, hp, hq3, hqp⟩ := validG_P hg
  have HVG := Lib.hid hg
  clear hg
  go_enter Tryd.func12, Tryd.ntmps12
  go_wp2_with fail
  refine (bvalid_any P Q G A B H true HVL hQ _ HV0).mono ?_
  rintro e w1 ⟨rfl, hb0⟩
  have hb1 := below_ext (below_box0 _ _) hb0
  have HV1 := Lib.hid (HV0.out.below hb0)
  have HX1 := Lib.hid (HX0.out.below hb0)
  have HSl1 := Lib.hid (HSl0.out.below hb0)
  clear hb0
  obtain ⟨⟨c0, c1, c2⟩, c3, c4, c5⟩ := HX1.out
  have HSy := Lib.hid (says_bj P Q G A B H w.heap.size hQ w1 HX1 HV1)
  go_wp2_with fail
  refine (cf_bj (.pointer (some ⟨w.heap.size, 0, none⟩)) (fun x => !conG P Q G x) false S xs n c HP hn (Lib.hid (by omega)) _ HSl1 HSy).mono ?_
  rintro e w2 ⟨rfl, hb0⟩
  have hb2 := below_ext hb1 hb0
  have HV2 := Lib.hid (HV1.out.below hb0)
  have HX2 := Lib.hid (HX1.out.below hb0)
  have HSl2 := Lib.hid (HSl1.out.below hb0)
  clear c0 c1 c2 c3 c4 c5 hb0
  obtain ⟨⟨c0, c1, c2⟩, c3, c4, c5⟩ := HX2.out
  go_wp2
  clear c0 c1 c2 c3 c4 c5
  go_loopw [6, 25] (fun u i wr => ∃ (k : Nat) (acc : Int), k ≤ n ∧ u = .int .i64 acc ∧ i = .int .i64 k ∧ Hid (memG P Q acc = true) ∧ Hid (joinL P Q k acc (xs.drop k) = V) ∧ Hid (Below w2.heap.size w2 wr)) (fun _ i _ => n - (intOf i).toNat)
  case atStart => exact ⟨0, 1, by omega, rfl, rfl, Lib.hid (mem_one hp2), joinV_start hV, Lib.hid (Below.refl _ _)⟩
  case round =>
    obtain ⟨k, acc, hk, rfl, rfl, HMa, HJ, HBr⟩ := hrel
    by_cases hlt : k < n
    · have hkl : k < xs.length := by rw [hn.out]; exact hlt
      obtain ⟨b, o, hA, hi0⟩ := HSl2.out.below HBr.out k hkl
      subst hA
      have HXr := Lib.hid (HX2.out.below HBr.out)
      have HVr := Lib.hid (HV2.out.below HBr.out)
      have hm1 := all_get hm.out hkl
      have hst := joinL_step (P := P) (Q := Q) (acc := acc) hkl
      obtain ⟨x, hx⟩ : ∃ x, xs.getD k 0 = x := ⟨_, rfl⟩
      rw [hx] at hi0 hm1 hst
      obtain ⟨q1, q2⟩ := pow16 (n := k) (by omega)
      obtain ⟨M, hM⟩ : ∃ M, (2 : Int) ^ k = M := ⟨_, rfl⟩
      rw [hM] at q1 q2 hst
      have hsh : wrap64 ((2 : Int) ^ k) = M := by rw [hM]; exact wrap_small q1 q2
      have hsh2 : IntKind.i64.wrap ((2 : Int) ^ k) = M := by rw [hM]; exact i64_small q1 q2
      obtain ⟨p, hp1⟩ : ∃ p, pw x (M % Q) P = p := ⟨_, rfl⟩
      have hmp : memG P Q p = true := by rw [← hp1]; exact mem_pw hp2 (by omega) (Int.emod_nonneg _ (by omega)) hm1
      rw [hp1] at hst
      obtain ⟨acc2, hac⟩ : ∃ a, acc * p % P = a := ⟨_, rfl⟩
      rw [hac] at hst
      have HMa2 : Hid (memG P Q acc2 = true) := Lib.hid (by rw [← hac]; exact mem_mul hp2 (by omega) HMa.out hmp)
      have HJ2 : Hid (joinL P Q (k + 1) acc2 (xs.drop (k + 1)) = V) := Lib.hid (hst.symm.trans HJ.out)
      have HCx : Hid (chkG P Q G [x] = 0) := Lib.hid (chkG_ok HVG.out (by simp [hm1]))
      have HCm : Hid (chkG P Q G [acc, p] = 0) := Lib.hid (chkG_ok HVG.out (by simp [HMa.out, hmp]))
      have HP1 := Lib.hid hp1
      have HAC := Lib.hid hac
      have HI := Lib.hid hi0
      clear hi0 hm1 hst hx hM hp1 hac hmp hkl HJ
      have hVa := Lib.hid (show ∀ u1 : World, Hid (Below wr.heap.size wr u1) → Hid (Vars u1) from fun u1 h1 => Lib.hid (HVr.out.below h1.out))
      have cx := HI.out
      go_wp2
      have hSa := Lib.hid (show ∀ u1 u2 : World, Hid (Below wr.heap.size wr u1) → Below u1.heap.size u1 u2 → (u2.cell? ⟨w.heap.size, 0, none⟩ = some (.int .i64 P) ∧ u2.cell? ⟨w.heap.size, 1, none⟩ = some (.int .i64 Q) ∧ u2.cell? ⟨w.heap.size, 2, none⟩ = some (.int .i64 G) ∧ Hid (Below wr.heap.size wr u2)) from fun u1 u2 h1 h2 => have h3 := below_ext h1.out h2; ⟨(HXr.out.below h3).1.1, (HXr.out.below h3).1.2.1, (HXr.out.below h3).1.2.2, Lib.hid h3⟩)
      have hRa : Hid (Below wr.heap.size wr wr) := Lib.hid (Below.refl _ _)
      go_region_held3 (fun w' => w'.cell? ⟨w.heap.size, 0, none⟩ = some (.int .i64 P) ∧ w'.cell? ⟨w.heap.size, 1, none⟩ = some (.int .i64 Q) ∧ w'.cell? ⟨w.heap.size, 2, none⟩ = some (.int .i64 G) ∧ Hid (Below wr.heap.size wr w'))
        (first | exact hSa.out _ _ hRa ((Below.refl wr.heap.size wr).drew) | (go_split_ands; exact hSa.out _ _ (by assumption) hbA) | go_keep)
        (first
          | (go_at_call 42; (refine (gpow_ok P Q G x M p HCx HP1 (by omega) (by omega) _ ?_).mono ?_); rotate_left; rintro e wA ⟨rfl, hbA⟩; rotate_left; (go_split_ands; exact hVa.out _ (by assumption))))
      rename_i hHeld
      obtain ⟨y0, y1, y2, hbQ⟩ := hHeld
      have HB2 := Lib.hid (below_ext HBr.out hbQ.out)
      have HV3 := Lib.hid (HVr.out.below hbQ.out)
      go_wp2_with fail
      refine (gmul_ok P Q G acc p acc2 HCm HAC hQ _ HV3).mono ?_
      rintro e wB ⟨rfl, hb0⟩
      have HB3 := Lib.hid (below_ext HB2.out hb0)
      clear hb0 y0 y1 y2 cx
      go_wp2
      go_roundw
      case rel => exact ⟨k + 1, acc2, by omega, rfl, by go_num, HMa2, HJ2, HB3⟩
      case measure => simp [intOf]; omega
    · obtain rfl : k = n := by omega
      obtain rfl := joinL_end hn.out HJ
      have hbF := below_ext hb2 HBr.out
      clear HJ hlt
      go_wp2
      go_ret2
      exact ⟨rfl, hbF⟩

end Go.Proofs.YtohjfnhgibedpaaDoor
