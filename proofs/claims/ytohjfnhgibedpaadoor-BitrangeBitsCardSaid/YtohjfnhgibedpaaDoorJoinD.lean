/- The contract of the reference Join. -/
import Derived.Test.YtohjfnhgibedpaaDoorJoinB
namespace Go.Proofs.YtohjfnhgibedpaaDoor
open Go.RowKit SpM
set_option linter.unusedVariables false
set_option linter.unusedSimpArgs false
set_option maxRecDepth 20000

set_option maxHeartbeats 6400000 in
theorem rjoin_any (P Q G A B H : Int) (S : Option Addr) (xs : List Int) (n c : Nat) (V : Int) (hV : Hid (joinV P Q xs = V)) (hn : Hid (xs.length = n)) (hl : n ≤ 16) (HVG : Hid (validG P Q G = true)) (hm : Hid (xs.all (memG P Q) = true)) (w : World) (hs : Hid (Sl w S xs)) :
    Calls Tryd.prog 15 #[bv P Q G A B H, .slice S n c] w fun e' w' => e' = .returned (.int .i64 V) ∧ Below w.heap.size w w' := by
  obtain ⟨hp2, hp, hq3, hqp⟩ := validG_P HVG.out
  have HX0 := Lib.hid (bbox_alloc w P Q G A B H)
  have HSl0 := Lib.hid (hs.out.below (below_box0 w (bObj P Q G A B H)))
  have HBX := Lib.hid (below_box0 w (bObj P Q G A B H))
  obtain ⟨W, hW⟩ : ∃ W, w.alloc (bObj P Q G A B H) = W := ⟨_, rfl⟩
  rw [hW] at HX0 HSl0 HBX
  have HW := Lib.hid hW
  clear hW hs
  go_enter Tryd.func15, Tryd.ntmps15
  go_wp2
  rw [HW.out]
  go_loopw [5, 6] (fun u i wr => ∃ (k : Nat) (acc : Int), k ≤ n ∧ u = .int .i64 acc ∧ i = .int .i64 k ∧ 0 ≤ acc ∧ acc < P ∧ Hid (joinL P Q k acc (xs.drop k) = V) ∧ Hid (Below W.heap.size W wr)) (fun _ i _ => n - (intOf i).toNat)
  case atStart => exact ⟨0, 1, by omega, rfl, rfl, by omega, by omega, joinV_start hV, Lib.hid (Below.refl _ _)⟩
  case round =>
    obtain ⟨k, acc, hk, rfl, rfl, a0, a1, HJ, HBr⟩ := hrel
    by_cases hlt : k < n
    · have hkl : k < xs.length := by rw [hn.out]; exact hlt
      obtain ⟨b, o, hA, hi0⟩ := HSl0.out.below HBr.out k hkl
      subst hA
      have HXr := Lib.hid (HX0.out.below HBr.out)
      have hm1 := all_get hm.out hkl
      have hst := joinL_step (P := P) (Q := Q) (acc := acc) hkl
      obtain ⟨x, hx⟩ : ∃ x, xs.getD k 0 = x := ⟨_, rfl⟩
      rw [hx] at hi0 hm1 hst
      have x0 := memG_lo hm1
      have x1 := memG_hi hm1
      obtain ⟨q1, q2⟩ := pow16 (n := k) (by omega)
      obtain ⟨M, hM⟩ : ∃ M, (2 : Int) ^ k = M := ⟨_, rfl⟩
      rw [hM] at q1 q2 hst
      have hsh : wrap64 ((2 : Int) ^ k) = M := by rw [hM]; exact wrap_small q1 q2
      have hsh2 : IntKind.i64.wrap ((2 : Int) ^ k) = M := by rw [hM]; exact i64_small q1 q2
      obtain ⟨p, hp1⟩ : ∃ p, pw x (M % Q) P = p := ⟨_, rfl⟩
      obtain ⟨p0, p1⟩ : 0 ≤ p ∧ p < P := by rw [← hp1]; exact pw_lt _ _ _ (by omega)
      rw [hp1] at hst
      obtain ⟨acc2, hac⟩ : ∃ a, acc * p % P = a := ⟨_, rfl⟩
      rw [hac] at hst
      have c0 : 0 ≤ acc2 := by rw [← hac]; exact Int.emod_nonneg _ (by omega)
      have c1 : acc2 < P := by rw [← hac]; exact Int.emod_lt_of_pos _ (by omega)
      have HJ2 : Hid (joinL P Q (k + 1) acc2 (xs.drop (k + 1)) = V) := Lib.hid (hst.symm.trans HJ.out)
      have HP1 := Lib.hid hp1
      have HAC := Lib.hid hac
      have HI := Lib.hid hi0
      have hu : IntKind.u64.wrap (k : Int) = (k : Int) := by rw [IntKind.wrap_u64]; omega
      clear hi0 hm1 hst hx hM hp1 hac hkl HJ
      go_wp2
      have hSa := Lib.hid (show ∀ u1 u2 : World, Hid (Below wr.heap.size wr u1) → Below u1.heap.size u1 u2 → (u2.cell? ⟨w.heap.size, 0, none⟩ = some (.int .i64 P) ∧ u2.cell? ⟨w.heap.size, 1, none⟩ = some (.int .i64 Q) ∧ u2.cell? ⟨w.heap.size, 2, none⟩ = some (.int .i64 G) ∧ u2.cell? ⟨b, o + k, none⟩ = some (.int .i64 x) ∧ Hid (Below wr.heap.size wr u2)) from fun u1 u2 h1 h2 => have h3 := below_ext h1.out h2; ⟨(HXr.out.below h3).1.1, (HXr.out.below h3).1.2.1, (HXr.out.below h3).1.2.2, cell_below HI.out h3, Lib.hid h3⟩)
      have hRa : Hid (Below wr.heap.size wr wr) := Lib.hid (Below.refl _ _)
      go_region_held3 (fun w' => w'.cell? ⟨w.heap.size, 0, none⟩ = some (.int .i64 P) ∧ w'.cell? ⟨w.heap.size, 1, none⟩ = some (.int .i64 Q) ∧ w'.cell? ⟨w.heap.size, 2, none⟩ = some (.int .i64 G) ∧ w'.cell? ⟨b, o + k, none⟩ = some (.int .i64 x) ∧ Hid (Below wr.heap.size wr w'))
        (first | exact hSa.out _ _ hRa ((Below.refl wr.heap.size wr).drew) | (go_split_ands; exact hSa.out _ _ (by assumption) hbA) | go_keep)
        (first
          | (go_at_call 47; (with_reducible refine (rpower_any P Q G x M p HP1 (by omega) hp (by omega) (by omega) (by omega) x1 (by omega) (by omega) _).mono ?_); rintro e wA ⟨rfl, hbA⟩)
          | (go_at_call 46; (with_reducible refine (rgmul_any P Q G acc p acc2 HAC hp a0 a1 p0 p1 _).mono ?_); rintro e wA ⟨rfl, hbA⟩))
      rename_i hHeld
      obtain ⟨y0, y1, y2, y3, hbQ⟩ := hHeld
      have HB2 := Lib.hid (below_ext HBr.out hbQ.out)
      clear y0 y1 y2 y3
      go_wp2
      go_roundw
      case rel => exact ⟨k + 1, acc2, by omega, rfl, by go_num, c0, c1, HJ2, HB2⟩
      case measure => simp [intOf]; omega
    · obtain rfl : k = n := by omega
      obtain rfl := joinL_end hn.out HJ
      have hbF := below_ext HBX.out HBr.out
      clear HJ hlt
      go_wp2
      go_ret
      exact ⟨rfl, hbF⟩
end Go.Proofs.YtohjfnhgibedpaaDoor
