/- The contract of the reference's simulation. -/
import Derived.Test.YtaoodeenbedmhaaDoorKnD
namespace Go.Proofs.YtaoodeenbedmhaaDoor
open Go.RowKit SpM
set_option linter.unusedVariables false

set_option maxHeartbeats 3200000 in
theorem rsim_ok (P Q G b y c z a : Int) (hr0 : Hid (simE P Q G b y c z = 0)) (ha0 : Hid (simA P Q b y c z = a)) (hQ : Q < 9223372036854775808) (w : World) :
    Calls Tryd.prog 21 #[gv P Q G, .int .i64 b, .int .i64 y, .int .i64 c, .int .i64 z] w (SimOut a c z w) := by
  have HX0 := Lib.hid ((gbox_alloc w P Q G).below (below_box0 _ pObj))
  have HR0 := Lib.hid (rblk_alloc w (gObj P Q G))
  obtain ⟨hval, hk, hm, hc, hz⟩ := simE_zero hr0.out
  obtain ⟨hp2, hp, hq3, hqp⟩ := validG_P hval
  have Hc : Hid (expB Q c = true) := hc
  have Hz : Hid (expB Q z = true) := hz
  have HG : Hid (givE P Q G b y = 0) := Lib.hid (by rw [givE, hval, hk, hm]; rfl)
  have cl := expB_lo hc
  have cu := expB_hi hc
  have zl := expB_lo hz
  have zu := expB_hi hz
  have hbm := okB_mem hk
  have bl := memG_lo hbm
  have bu := memG_hi hbm
  have yl := memG_lo hm
  have yu := memG_hi hm
  obtain ⟨p1, hp1⟩ : ∃ p1, pw b (z % Q) P = p1 := ⟨_, rfl⟩
  obtain ⟨p2, hp2'⟩ : ∃ p2, pw y (c % Q) P = p2 := ⟨_, rfl⟩
  obtain ⟨p3, hp3⟩ : ∃ p3, pw p2 ((Q - 1) % Q) P = p3 := ⟨_, rfl⟩
  obtain ⟨l1, u1⟩ : 0 ≤ p1 ∧ p1 < P := by rw [← hp1]; exact pw_lt _ _ _ (by omega)
  obtain ⟨l2, u2⟩ : 0 ≤ p2 ∧ p2 < P := by rw [← hp2']; exact pw_lt _ _ _ (by omega)
  obtain ⟨l3, u3⟩ : 0 ≤ p3 ∧ p3 < P := by rw [← hp3]; exact pw_lt _ _ _ (by omega)
  have HA : Hid (p1 * p3 % P = a) := Lib.hid (by rw [← ha0.out, simA, ← hp3, ← hp2', ← hp1, pw_neg hp2 (by omega) cl cu hm])
  have H1 := Lib.hid hp1
  have H2 := Lib.hid hp2'
  have H3 := Lib.hid hp3
  clear hr0 ha0 hval hk hm hc hz hbm hp1 hp2' hp3
  go_enter Tryd.func21, Tryd.ntmps21
  go_wp2_with fail
  refine (given_any P Q G b y 0 HG hQ _).mono ?_
  rintro e w1 ⟨rfl, hb0⟩
  have hb1 := below_ext (below_two (Below.refl _ _)) hb0
  have HX1 := Lib.hid (HX0.out.below hb0)
  have HR1 := Lib.hid (HR0.out.below hb0)
  clear hb0
  obtain ⟨c0, c1, c2⟩ := HX1.out
  obtain ⟨⟨d0, d1, d2⟩, f0, f1, f2⟩ := HR1.out.box
  go_wp2_with fail
  refine (rexp_any P Q G c true Hc _).mono ?_
  rintro e w2 ⟨rfl, hb0⟩
  have hb2 := below_ext hb1 hb0
  have HX2 := Lib.hid (HX1.out.below hb0)
  have HR2 := Lib.hid (HR1.out.below hb0)
  clear c0 c1 c2 d0 d1 d2 f0 f1 f2 hb0
  obtain ⟨c0, c1, c2⟩ := HX2.out
  obtain ⟨⟨d0, d1, d2⟩, f0, f1, f2⟩ := HR2.out.box
  go_wp2_with fail
  refine (rexp_any P Q G z true Hz _).mono ?_
  rintro e w3 ⟨rfl, hb0⟩
  have hb3 := below_ext hb2 hb0
  have HX3 := Lib.hid (HX2.out.below hb0)
  have HR3 := Lib.hid (HR2.out.below hb0)
  clear c0 c1 c2 d0 d1 d2 f0 f1 f2 hb0
  obtain ⟨c0, c1, c2⟩ := HX3.out
  obtain ⟨⟨d0, d1, d2⟩, f0, f1, f2⟩ := HR3.out.box
  have HS : Hid (∀ w1 w2 : World, Hid (Below w3.heap.size w3 w1) → Below w1.heap.size w1 w2 → w2.cell? ⟨w.heap.size, 0, none⟩ = some (.int .i64 P) ∧ w2.cell? ⟨w.heap.size, 1, none⟩ = some (.int .i64 Q) ∧ w2.cell? ⟨w.heap.size, 2, none⟩ = some (.int .i64 G) ∧ Hid (Below w3.heap.size w3 w2)) :=
    Lib.hid (fun w1 w2 h1 h2 => have h3 := below_ext h1.out h2; ⟨(HX3.out.below h3).1, (HX3.out.below h3).2.1, (HX3.out.below h3).2.2, Lib.hid h3⟩)
  have HB0 : Hid (Below w3.heap.size w3 w3) := Lib.hid (Below.refl _ _)
  go_wp2_with fail
  go_region_held3 (fun w' => w'.cell? ⟨w.heap.size, 0, none⟩ = some (.int .i64 P) ∧ w'.cell? ⟨w.heap.size, 1, none⟩ = some (.int .i64 Q) ∧ w'.cell? ⟨w.heap.size, 2, none⟩ = some (.int .i64 G) ∧ Hid (Below w3.heap.size w3 w'))
    (first | exact HS.out _ _ HB0 ((Below.refl w3.heap.size w3).drew) | (go_split_ands; exact HS.out _ _ (by assumption) hbA) | go_keep)
    (first
      | (go_at_call 43; (with_reducible refine (rpower_any P Q G b z p1 H1 (by omega) hp (by omega) (by omega) (by omega) bu (by omega) (by omega) _).mono ?_); rintro e wA ⟨rfl, hbA⟩)
      | (go_at_call 43; (with_reducible refine (rpower_any P Q G y c p2 H2 (by omega) hp (by omega) (by omega) (by omega) yu (by omega) (by omega) _).mono ?_); rintro e wA ⟨rfl, hbA⟩)
      | (go_at_call 48; (with_reducible refine (rinverse_any P Q G p2 p3 H3 (by omega) hp (by omega) (by omega) l2 u2 _).mono ?_); rintro e wA ⟨rfl, hbA⟩)
      | (go_at_call 47; (with_reducible refine (rgmul_any P Q G p1 p3 a HA hp l1 u1 l3 u3 _).mono ?_); rintro e wA ⟨rfl, hbA⟩))
  rename_i hHeld
  obtain ⟨e0, e1, e2, HBA⟩ := hHeld
  have hbf := below_ext hb3 HBA.out
  have HRA := Lib.hid (HR3.out.below HBA.out)
  have hz1 : w.heap.size + 2 ≤ wA.heap.size := by have := HRA.out.lt; omega
  have HRW := Lib.hid (HRA.out.below (below_two (w := wA) (o1 := .cells #[.int .i64 a] 3) (o2 := .cells #[.int .i64 z] 3) (Below.refl _ _)))
  clear c0 c1 c2 d0 d1 d2 f0 f1 f2 e0 e1 e2
  obtain ⟨⟨d0, d1, d2⟩, f0, f1, f2⟩ := HRW.out.box
  go_wp2
  exact bodyPost_ret (v := pv1 wA.heap.size (wA.heap.size + 1) c) (by simp [results, Tryd.results21, go_sem, d0, d1, d2]) rfl (simOut_mk hbf (by omega) hz1 _ _ _)
end Go.Proofs.YtaoodeenbedmhaaDoor
