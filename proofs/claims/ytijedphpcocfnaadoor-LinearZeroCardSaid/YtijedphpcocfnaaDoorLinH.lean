/- The reference of layer 17: Commit. -/
import Derived.Test.YtijedphpcocfnaaDoorLinG
namespace Go.Proofs.YtijedphpcocfnaaDoor
open Go.RowKit SpM
set_option linter.unusedVariables false
set_option linter.unusedSimpArgs false
set_option maxRecDepth 100000

theorem below_alloc' {W w : World} {o : Obj} (h : Hid (Below W.heap.size W w)) : Below W.heap.size W (w.alloc o) := h.out.alloc h.out.size _

set_option maxHeartbeats 12800000 in
theorem rcommit17_any (P Q G : Int) (Y : Option Addr) (yn yc : Nat) (A : Option Addr) (rows : List Row) (bc : Nat) (E : Option Addr) (es : List Int) (m d : Nat) (hn : Hid (rows.length = yn)) (hm : Hid (es.length = m)) (hbig : m < 1000000) (hbign : yn < 1000000)
    (hx : Hid (rows.all (rowB P Q m) = true)) (he : Hid (es.all (scB Q) = true)) (hp2 : 2 ≤ P) (hp : P < 2305843009213693952) (hQ : Q < 9223372036854775808) (w : World) (hA : Hid (Rw w A rows)) (hE : Hid (Sl w E es)) :
    Calls Tryd.prog 19 #[gv P Q G, relV Y yn yc A yn bc, .slice E m d] w (ListOut (rows.map fun r => prodF P 1 r.xs es) w) := by
  obtain ⟨i0, hi, hz0, hz1, hz2⟩ := info_parts intInfo
  obtain ⟨W, hW⟩ : ∃ W, (w.alloc (gObj P Q G)).alloc (relO Y yn yc A yn bc) = W := ⟨_, rfl⟩
  have HBX : Hid (Below w.heap.size w W) := Lib.hid (by rw [← hW]; exact below_two (Below.refl _ _))
  have HX0 : Hid (GBox W w.heap.size P Q G) := Lib.hid (by rw [← hW]; exact (gbox_alloc w P Q G).below (below_box0 _ _))
  have HR0 : Hid (RBox W (w.heap.size + 1) (.slice Y yn yc) (.slice A yn bc)) := Lib.hid (by rw [← hW]; exact rbox_alloc1 _ _ _ _ _)
  have HA0 := Lib.hid (hA.out.below HBX.out)
  have HE0 := Lib.hid (hE.out.below HBX.out)
  have HW := Lib.hid hW
  clear hW hA hE
  go_enter Tryd.func19, Tryd.ntmps19
  go_wp2
  rw [HW.out]
  go_loopw [7, 8] (fun v i wr => ∃ k : Nat, k ≤ yn ∧ i = .int .i64 k ∧ Hid (OwnL wr W.heap.size v ((rows.take k).map fun r => prodF P 1 r.xs es)) ∧ Hid (Below W.heap.size W wr)) (fun _ i _ => yn - (intOf i).toNat)
  case atStart => exact ⟨0, by omega, rfl, Lib.hid (ownL_nil _ _), Lib.hid (Below.refl _ _)⟩
  case round =>
    obtain ⟨k, hk, rfl, HO, HBr⟩ := hrel
    obtain ⟨wo, rfl⟩ : ∃ wo : World, wo = wr := ⟨_, rfl⟩
    obtain ⟨d0, d1⟩ := HR0.out.below HBr.out
    by_cases hlt : k < yn
    · have hkl : k < rows.length := by rw [hn.out]; exact hlt
      obtain ⟨⟨b, o, hA, hi0⟩, hok⟩ := HA0.out k hkl
      subst hA
      have hrb := rowAll_get hx.out hkl
      have HTS := Lib.hid (takeMap_succ (f := fun r => prodF P 1 r.xs es) hkl)
      obtain ⟨R, hR⟩ : ∃ R, rows.getD k noRow = R := ⟨_, rfl⟩
      rw [hR] at hi0 hrb hok HTS
      obtain ⟨p, rn, rc, xs⟩ := R
      simp only [rowB, Bool.and_eq_true, decide_eq_true_eq] at hrb
      obtain ⟨rfl, hmx⟩ := hrb
      have HL := Lib.hid hok.1
      have HS := Lib.hid hok.2
      have HMX := Lib.hid hmx
      obtain ⟨V, hV⟩ : ∃ V, prodF P 1 xs es = V := ⟨_, rfl⟩
      have HV_ := Lib.hid hV
      have HTS2 : Hid ((rows.take (k + 1)).map (fun r => prodF P 1 r.xs es) = (rows.take k).map (fun r => prodF P 1 r.xs es) ++ [V]) := Lib.hid (by rw [HTS.out, ← hV])
      have HTL := Lib.hid (takeMap_len (f := fun r => prodF P 1 r.xs es) (Nat.le_of_lt hkl))
      dsimp only [Row.val] at hi0
      have HI0 := Lib.hid hi0
      have hS := Lib.hid (show ∀ u1 : World, Below W.heap.size W u1 → (u1.cell? ⟨w.heap.size, 0, none⟩ = some (.int .i64 P) ∧ u1.cell? ⟨w.heap.size, 1, none⟩ = some (.int .i64 Q) ∧ u1.cell? ⟨w.heap.size, 2, none⟩ = some (.int .i64 G) ∧ u1.cell? ⟨w.heap.size + 1, 1, none⟩ = some (.slice (some ⟨b, o, none⟩) yn bc) ∧ u1.cell? ⟨b, o + k, none⟩ = some (.slice p rn rc) ∧ Hid (Below W.heap.size W u1)) from fun u1 h1 => ⟨(HX0.out.below h1).1, (HX0.out.below h1).2.1, (HX0.out.below h1).2.2, (HR0.out.below h1).2, cell_below HI0.out h1, Lib.hid h1⟩)
      have hOE := Lib.hid (show ∀ u1 : World, Hid (Below W.heap.size W u1) → Hid (Sl u1 E es) from fun u1 h1 => Lib.hid (HE0.out.below h1.out))
      have hOX := Lib.hid (show ∀ u1 : World, Hid (Below W.heap.size W u1) → Hid (Sl u1 p xs) from fun u1 h1 => Lib.hid (HS.out.below h1.out))
      have hbs := HBr.out.size
      have hOW := Lib.hid (show ∀ u1 : World, Below wo.drew.heap.size wo.drew u1 → OwnL u1 W.heap.size u7 ((rows.take k).map fun r => prodF P 1 r.xs es) from fun u1 h1 => OwnL.keep (w := wo.drew) HO.out h1)
      have hOR := Lib.hid (show ∀ u1 : World, Below wo.drew.heap.size wo.drew u1 → u1.ownsRow W.heap.size 3 1 u7 k (((rows.take k).map fun r => prodF P 1 r.xs es).map (Value.int .i64)) from fun u1 h1 => by
        have h3 := hOW.out u1 h1
        unfold OwnL at h3
        rwa [HTL.out] at h3)
      clear hR hok hmx hV hkl HTS hi0
      go_wp2
      go_region_held3 (fun w' => w'.cell? ⟨w.heap.size, 0, none⟩ = some (.int .i64 P) ∧ w'.cell? ⟨w.heap.size, 1, none⟩ = some (.int .i64 Q) ∧ w'.cell? ⟨w.heap.size, 2, none⟩ = some (.int .i64 G) ∧ w'.cell? ⟨w.heap.size + 1, 1, none⟩ = some (.slice (some ⟨b, o, none⟩) yn bc) ∧ w'.cell? ⟨b, o + k, none⟩ = some (.slice p rn rc) ∧ Hid (Below W.heap.size W w'))
        (first
          | exact hS.out _ HBr.out.drew
          | (go_split_ands; exact hS.out _ (HBr.out.drew.trans (hbA.mono HBr.out.size)))
          | (go_split_ands; exact hS.out _ (below_alloc' (by assumption)))
          | (go_split_ands; exact hS.out _ (OwnL.below (o := .cells #[.int .i64 V] 3) (hOW.out _ hbA) (HBr.out.drew.trans (hbA.mono HBr.out.size)) (by have h5 := hbA.size; have h6 : wo.drew.heap.size = wo.heap.size := rfl; omega) hgrow)))
        ((first
          | (go_at_call 57; (with_reducible refine (rproduct_any P Q G p xs rn rc E es rn d V HV_ HL hm (Nat.le_refl _) hbig HMX he hp2 hp hQ _ ?_ ?_).mono ?_); (go_split_ands; exact hOX.out _ (by assumption)); (go_split_ands; exact hOE.out _ (by assumption)); rintro e wA ⟨rfl, hbA⟩)
          | (refine step_append_lies _ (by rfl) _ _ _ (by rfl) W.heap.size 3 i0 _ 1 8 Tryd.underlying24 hi hz0 hz1 hz2 rfl (by omega) u7 k (((rows.take k).map fun r => prodF P 1 r.xs es).map (Value.int .i64)) (by rfl) ((hOR.out _ hbA).alloc _)
              ⟨wA.heap.size, 0, none⟩ 1 1 [.int .i64 V] (by rfl) (by rfl) (World.news_of_block (cs := #[.int .i64 V]) (t := 3) (fr := (0, 0)) (heap_alloc_new wA _)) (by simp [Value.oneCell'])
              (by omega) (by unfold maxLen; omega) (by omega) (by have h5 := hbA.size; have h6 : wo.drew.heap.size = wo.heap.size := rfl; simp; omega) (wA.heap.size + 1) (by simp) ?_; intro gg cap wz hown1 hgrow hat hlt2)))
      have HOA := hOW.out _ hbA
      have HBA := HBr.out.drew.trans (hbA.mono HBr.out.size)
      have HO2 : Hid (OwnL wz W.heap.size (.slice (some ⟨gg, 0, none⟩) (k + 1) cap) ((rows.take (k + 1)).map fun r => prodF P 1 r.xs es)) := Lib.hid (by
        rw [HTS2.out]
        exact OwnL.app HTL.out.symm hown1)
      have HB2 : Hid (Below W.heap.size W wz) := Lib.hid (OwnL.below (o := .cells #[.int .i64 V] 3) HOA HBA HBA.size hgrow)
      clear hown1 hgrow HOA HBA
      go_wp2
      go_roundw
      case rel => exact ⟨k + 1, by omega, by go_num, HO2, HB2⟩
      case measure => simp [intOf]; omega
    · obtain rfl : k = yn := by omega
      have HF : Hid (OwnL wo W.heap.size u7 (rows.map fun r => prodF P 1 r.xs es)) := Lib.hid (by
        have h3 := HO.out
        rwa [← hn.out, List.take_length] at h3)
      have hbF := below_ext HBX.out HBr.out
      have hsz := HBX.out.size
      clear HO hlt
      go_wp2
      go_ret
      exact ⟨_, rfl, HF.out.mono hsz, hbF⟩
end Go.Proofs.YtijedphpcocfnaaDoor
