/- The contracts of packages knowledge and specieref16: simulated proofs. -/
import Derived.Test.YtaoodeenbedmhaaDoorKnB
import Derived.Deep.RegionHeld3
namespace Go.Proofs.YtaoodeenbedmhaaDoor
open Go.RowKit SpM
set_option linter.unusedVariables false

/-- the error of a simulation, and its commitment. -/
def simE (P Q G b y c z : Int) : Int := if validG P Q G = true then (if okB P Q b = true then (if memG P Q y = true then (if expB Q c = true then (if expB Q z = true then 0 else 2) else 2) else 2) else 2) else 1
def simA (P Q b y c z : Int) : Int := pw b (z % Q) P * pw y ((-c) % Q) P % P

abbrev pObj : Obj := .cells #[.slice none 0 0, .int .i64 0, .slice none 0 0] 35
/-- a block for a proof that is handed back. -/
def RBlk (w : World) (a : Nat) : Prop := w.heap[a]? = some pObj
def RBox (w : World) (a : Nat) : Prop := (w.cell? ⟨a, 0, none⟩ = some (.slice none 0 0) ∧ w.cell? ⟨a, 1, none⟩ = some (.int .i64 0) ∧ w.cell? ⟨a, 2, none⟩ = some (.slice none 0 0)) ∧
  w.frozen? ⟨a, 0, none⟩ = false ∧ w.frozen? ⟨a, 1, none⟩ = false ∧ w.frozen? ⟨a, 2, none⟩ = false
theorem RBlk.lt {w : World} {a : Nat} (h : RBlk w a) : a < w.heap.size := by
  unfold RBlk at h
  exact (Array.getElem?_eq_some_iff.1 h).1
theorem RBlk.below {w w' : World} {a : Nat} (h : RBlk w a) (hb : Below w.heap.size w w') : RBlk w' a := (hb.block a h.lt).trans h
theorem RBlk.box {w : World} {a : Nat} (h : RBlk w a) : RBox w a := by
  unfold RBlk at h
  refine ⟨⟨?_, ?_, ?_⟩, ?_, ?_, ?_⟩ <;> simp [World.cell?, World.frozen?, h]
theorem rblk_alloc (w : World) (o : Obj) : RBlk ((w.alloc o).alloc pObj) (w.heap.size + 1) := by
  have e : (w.alloc o).heap.size = w.heap.size + 1 := by simp
  rw [← e]
  exact heap_alloc_new _ _

/-- an empty proof and an error. -/
abbrev pv0 (r : Int) : Value := .tuple #[.agg #[.slice none 0 0, .int .i64 0, .slice none 0 0], .int .i64 r]
abbrev pv1 (b1 b2 : Nat) (c : Int) : Value := .tuple #[.agg #[.slice (some ⟨b1, 0, none⟩) 1 1, .int .i64 c, .slice (some ⟨b2, 0, none⟩) 1 1], .int .i64 0]
/-- what a simulation answers. -/
def SimOut (a c z : Int) (w : World) (e : Ending) (w' : World) : Prop :=
  ∃ b1 b2 : Nat, e = .returned (pv1 b1 b2 c) ∧ Cells w' b1 [a] ∧ Cells w' b2 [z] ∧ Below w.heap.size w w'

theorem below_set3 {B a : Nat} {w w1 : World} (h : Below B w w1) (hB : B ≤ a) (x y z : Value) :
    Below B w (((w1.setCell ⟨a, 0, none⟩ x).setCell ⟨a, 1, none⟩ y).setCell ⟨a, 2, none⟩ z) := ((h.setCell hB _).setCell hB _).setCell hB _
set_option maxHeartbeats 1600000 in
theorem sim_bad (P Q G b y c z r : Int) (hr0 : Hid (simE P Q G b y c z = r)) (hne : (r != 0) = true) (hQ : Q < 9223372036854775808) (w : World) (hv : Hid (Vars w)) :
    Calls Tryd.prog 20 #[gv P Q G, .int .i64 b, .int .i64 y, .int .i64 c, .int .i64 z] w fun e' w' => e' = .returned (pv0 r) ∧ Below w.heap.size w w' := by
  have HV0 := Lib.hid (hv.out.below (below_two (w := w) (o1 := gObj P Q G) (o2 := pObj) (Below.refl _ _)))
  have HX0 := Lib.hid ((gbox_alloc w P Q G).below (below_box0 _ pObj))
  have HR0 := Lib.hid (rblk_alloc w (gObj P Q G))
  cases hval : validG P Q G with
  | false =>
    obtain rfl : r = 1 := by rw [← hr0.out, simE, hval]; rfl
    have HV : Hid (validG P Q G = false) := hval
    clear hr0 hval
    go_enter Tryd.func20, Tryd.ntmps20
    go_wp2_with fail
    refine (valid_any P Q G false HV hQ _ HV0).mono ?_
    rintro e w1 ⟨rfl, hb0⟩
    have hb1 := below_ext (below_two (Below.refl _ _)) hb0
    have HV1 := Lib.hid (HV0.out.below hb0)
    have HX1 := Lib.hid (HX0.out.below hb0)
    have HR1 := Lib.hid (HR0.out.below hb0)
    clear hb0
    obtain ⟨c0, c1, c2⟩ := HX1.out
    obtain ⟨⟨d0, d1, d2⟩, f0, f1, f2⟩ := HR1.out.box
    go_wp2
    exact bodyPost_ret (v := pv0 1) (by simp [results, Tryd.results20, go_sem, d0, d1, d2]) rfl ⟨rfl, below_set3 hb1 (by omega) _ _ _⟩
  | true =>
    have HV : Hid (validG P Q G = true) := hval
    obtain ⟨hp2, hp, hq3, hqp⟩ := validG_P hval
    cases hk : okB P Q b with
    | false =>
      obtain rfl : r = 2 := by rw [← hr0.out, simE, hval, hk]; rfl
      have HK : Hid (okB P Q b = false) := hk
      clear hr0 hval hk
      go_enter Tryd.func20, Tryd.ntmps20
      go_wp2_with fail
      refine (valid_any P Q G true HV hQ _ HV0).mono ?_
      rintro e w1 ⟨rfl, hb0⟩
      have hb1 := below_ext (below_two (Below.refl _ _)) hb0
      have HV1 := Lib.hid (HV0.out.below hb0)
      have HX1 := Lib.hid (HX0.out.below hb0)
      have HR1 := Lib.hid (HR0.out.below hb0)
      clear hb0
      obtain ⟨c0, c1, c2⟩ := HX1.out
      obtain ⟨⟨d0, d1, d2⟩, f0, f1, f2⟩ := HR1.out.box
      go_wp2_with fail
      refine (kbase_any P Q G b false HV HK _ HV1).mono ?_
      rintro e w2 ⟨rfl, hb0⟩
      have hb2 := below_ext hb1 hb0
      have HV2 := Lib.hid (HV1.out.below hb0)
      have HX2 := Lib.hid (HX1.out.below hb0)
      have HR2 := Lib.hid (HR1.out.below hb0)
      clear c0 c1 c2 d0 d1 d2 f0 f1 f2 hb0
      obtain ⟨c0, c1, c2⟩ := HX2.out
      obtain ⟨⟨d0, d1, d2⟩, f0, f1, f2⟩ := HR2.out.box
      go_wp2
      exact bodyPost_ret (v := pv0 2) (by simp [results, Tryd.results20, go_sem, d0, d1, d2]) rfl ⟨rfl, below_set3 hb2 (by omega) _ _ _⟩
    | true =>
      have HK : Hid (okB P Q b = true) := hk
      cases hm : memG P Q y with
      | false =>
        obtain rfl : r = 2 := by rw [← hr0.out, simE, hval, hk, hm]; rfl
        have HM : Hid (memG P Q y = false) := hm
        have HC : Hid (conG P Q G y = false) := Lib.hid (by rw [conG, hval, hm]; rfl)
        clear hr0 hval hk hm
        go_enter Tryd.func20, Tryd.ntmps20
        go_wp2_with fail
        refine (valid_any P Q G true HV hQ _ HV0).mono ?_
        rintro e w1 ⟨rfl, hb0⟩
        have hb1 := below_ext (below_two (Below.refl _ _)) hb0
        have HV1 := Lib.hid (HV0.out.below hb0)
        have HX1 := Lib.hid (HX0.out.below hb0)
        have HR1 := Lib.hid (HR0.out.below hb0)
        clear hb0
        obtain ⟨c0, c1, c2⟩ := HX1.out
        obtain ⟨⟨d0, d1, d2⟩, f0, f1, f2⟩ := HR1.out.box
        go_wp2_with fail
        refine (kbase_any P Q G b true HV HK _ HV1).mono ?_
        rintro e w2 ⟨rfl, hb0⟩
        have hb2 := below_ext hb1 hb0
        have HV2 := Lib.hid (HV1.out.below hb0)
        have HX2 := Lib.hid (HX1.out.below hb0)
        have HR2 := Lib.hid (HR1.out.below hb0)
        clear c0 c1 c2 d0 d1 d2 f0 f1 f2 hb0
        obtain ⟨c0, c1, c2⟩ := HX2.out
        obtain ⟨⟨d0, d1, d2⟩, f0, f1, f2⟩ := HR2.out.box
        go_wp2_with fail
        refine (contains_any P Q G y false HC hQ _ HV2).mono ?_
        rintro e w3 ⟨rfl, hb0⟩
        have hb3 := below_ext hb2 hb0
        have HV3 := Lib.hid (HV2.out.below hb0)
        have HX3 := Lib.hid (HX2.out.below hb0)
        have HR3 := Lib.hid (HR2.out.below hb0)
        clear c0 c1 c2 d0 d1 d2 f0 f1 f2 hb0
        obtain ⟨c0, c1, c2⟩ := HX3.out
        obtain ⟨⟨d0, d1, d2⟩, f0, f1, f2⟩ := HR3.out.box
        go_wp2
        exact bodyPost_ret (v := pv0 2) (by simp [results, Tryd.results20, go_sem, d0, d1, d2]) rfl ⟨rfl, below_set3 hb3 (by omega) _ _ _⟩
      | true =>
        have HM : Hid (memG P Q y = true) := hm
        have HC : Hid (conG P Q G y = true) := Lib.hid (by rw [conG, hval, hm]; rfl)
        cases hc : expB Q c with
        | false =>
          obtain rfl : r = 2 := by rw [← hr0.out, simE, hval, hk, hm, hc]; rfl
          have Hc : Hid (expB Q c = false) := hc
          clear hr0 hval hk hm hc
          go_enter Tryd.func20, Tryd.ntmps20
          go_wp2_with fail
          refine (valid_any P Q G true HV hQ _ HV0).mono ?_
          rintro e w1 ⟨rfl, hb0⟩
          have hb1 := below_ext (below_two (Below.refl _ _)) hb0
          have HV1 := Lib.hid (HV0.out.below hb0)
          have HX1 := Lib.hid (HX0.out.below hb0)
          have HR1 := Lib.hid (HR0.out.below hb0)
          clear hb0
          obtain ⟨c0, c1, c2⟩ := HX1.out
          obtain ⟨⟨d0, d1, d2⟩, f0, f1, f2⟩ := HR1.out.box
          go_wp2_with fail
          refine (kbase_any P Q G b true HV HK _ HV1).mono ?_
          rintro e w2 ⟨rfl, hb0⟩
          have hb2 := below_ext hb1 hb0
          have HV2 := Lib.hid (HV1.out.below hb0)
          have HX2 := Lib.hid (HX1.out.below hb0)
          have HR2 := Lib.hid (HR1.out.below hb0)
          clear c0 c1 c2 d0 d1 d2 f0 f1 f2 hb0
          obtain ⟨c0, c1, c2⟩ := HX2.out
          obtain ⟨⟨d0, d1, d2⟩, f0, f1, f2⟩ := HR2.out.box
          go_wp2_with fail
          refine (contains_any P Q G y true HC hQ _ HV2).mono ?_
          rintro e w3 ⟨rfl, hb0⟩
          have hb3 := below_ext hb2 hb0
          have HV3 := Lib.hid (HV2.out.below hb0)
          have HX3 := Lib.hid (HX2.out.below hb0)
          have HR3 := Lib.hid (HR2.out.below hb0)
          clear c0 c1 c2 d0 d1 d2 f0 f1 f2 hb0
          obtain ⟨c0, c1, c2⟩ := HX3.out
          obtain ⟨⟨d0, d1, d2⟩, f0, f1, f2⟩ := HR3.out.box
          go_wp2_with fail
          refine (kexp_any P Q G c false Hc _).mono ?_
          rintro e w4 ⟨rfl, hb0⟩
          have hb4 := below_ext hb3 hb0
          have HV4 := Lib.hid (HV3.out.below hb0)
          have HX4 := Lib.hid (HX3.out.below hb0)
          have HR4 := Lib.hid (HR3.out.below hb0)
          clear c0 c1 c2 d0 d1 d2 f0 f1 f2 hb0
          obtain ⟨c0, c1, c2⟩ := HX4.out
          obtain ⟨⟨d0, d1, d2⟩, f0, f1, f2⟩ := HR4.out.box
          go_wp2
          exact bodyPost_ret (v := pv0 2) (by simp [results, Tryd.results20, go_sem, d0, d1, d2]) rfl ⟨rfl, below_set3 hb4 (by omega) _ _ _⟩
        | true =>
          have Hc : Hid (expB Q c = true) := hc
          cases hz : expB Q z with
          | false =>
            obtain rfl : r = 2 := by rw [← hr0.out, simE, hval, hk, hm, hc, hz]; rfl
            have Hz : Hid (expB Q z = false) := hz
            clear hr0 hval hk hm hc hz
            go_enter Tryd.func20, Tryd.ntmps20
            go_wp2_with fail
            refine (valid_any P Q G true HV hQ _ HV0).mono ?_
            rintro e w1 ⟨rfl, hb0⟩
            have hb1 := below_ext (below_two (Below.refl _ _)) hb0
            have HV1 := Lib.hid (HV0.out.below hb0)
            have HX1 := Lib.hid (HX0.out.below hb0)
            have HR1 := Lib.hid (HR0.out.below hb0)
            clear hb0
            obtain ⟨c0, c1, c2⟩ := HX1.out
            obtain ⟨⟨d0, d1, d2⟩, f0, f1, f2⟩ := HR1.out.box
            go_wp2_with fail
            refine (kbase_any P Q G b true HV HK _ HV1).mono ?_
            rintro e w2 ⟨rfl, hb0⟩
            have hb2 := below_ext hb1 hb0
            have HV2 := Lib.hid (HV1.out.below hb0)
            have HX2 := Lib.hid (HX1.out.below hb0)
            have HR2 := Lib.hid (HR1.out.below hb0)
            clear c0 c1 c2 d0 d1 d2 f0 f1 f2 hb0
            obtain ⟨c0, c1, c2⟩ := HX2.out
            obtain ⟨⟨d0, d1, d2⟩, f0, f1, f2⟩ := HR2.out.box
            go_wp2_with fail
            refine (contains_any P Q G y true HC hQ _ HV2).mono ?_
            rintro e w3 ⟨rfl, hb0⟩
            have hb3 := below_ext hb2 hb0
            have HV3 := Lib.hid (HV2.out.below hb0)
            have HX3 := Lib.hid (HX2.out.below hb0)
            have HR3 := Lib.hid (HR2.out.below hb0)
            clear c0 c1 c2 d0 d1 d2 f0 f1 f2 hb0
            obtain ⟨c0, c1, c2⟩ := HX3.out
            obtain ⟨⟨d0, d1, d2⟩, f0, f1, f2⟩ := HR3.out.box
            go_wp2_with fail
            refine (kexp_any P Q G c true Hc _).mono ?_
            rintro e w4 ⟨rfl, hb0⟩
            have hb4 := below_ext hb3 hb0
            have HV4 := Lib.hid (HV3.out.below hb0)
            have HX4 := Lib.hid (HX3.out.below hb0)
            have HR4 := Lib.hid (HR3.out.below hb0)
            clear c0 c1 c2 d0 d1 d2 f0 f1 f2 hb0
            obtain ⟨c0, c1, c2⟩ := HX4.out
            obtain ⟨⟨d0, d1, d2⟩, f0, f1, f2⟩ := HR4.out.box
            go_wp2_with fail
            refine (kexp_any P Q G z false Hz _).mono ?_
            rintro e w5 ⟨rfl, hb0⟩
            have hb5 := below_ext hb4 hb0
            have HV5 := Lib.hid (HV4.out.below hb0)
            have HX5 := Lib.hid (HX4.out.below hb0)
            have HR5 := Lib.hid (HR4.out.below hb0)
            clear c0 c1 c2 d0 d1 d2 f0 f1 f2 hb0
            obtain ⟨c0, c1, c2⟩ := HX5.out
            obtain ⟨⟨d0, d1, d2⟩, f0, f1, f2⟩ := HR5.out.box
            go_wp2
            exact bodyPost_ret (v := pv0 2) (by simp [results, Tryd.results20, go_sem, d0, d1, d2]) rfl ⟨rfl, below_set3 hb5 (by omega) _ _ _⟩
          | true =>
            have Hz : Hid (expB Q z = true) := hz
            obtain rfl : r = 0 := by rw [← hr0.out, simE, hval, hk, hm, hc, hz]; rfl
            exact absurd hne (by decide)

set_option maxHeartbeats 1600000 in
theorem rsim_bad (P Q G b y c z r : Int) (hr0 : Hid (simE P Q G b y c z = r)) (hne : (r != 0) = true) (hQ : Q < 9223372036854775808) (w : World) :
    Calls Tryd.prog 21 #[gv P Q G, .int .i64 b, .int .i64 y, .int .i64 c, .int .i64 z] w fun e' w' => e' = .returned (pv0 r) ∧ Below w.heap.size w w' := by
  have HX0 := Lib.hid ((gbox_alloc w P Q G).below (below_box0 _ pObj))
  have HR0 := Lib.hid (rblk_alloc w (gObj P Q G))
  cases hval : validG P Q G with
  | false =>
    obtain rfl : r = 1 := by rw [← hr0.out, simE, hval]; rfl
    have HV : Hid (validG P Q G = false) := hval
    have HG : Hid (givE P Q G b y = 1) := Lib.hid (by rw [givE, hval]; rfl)
    clear hr0 hval
    go_enter Tryd.func21, Tryd.ntmps21
    go_wp2_with fail
    refine (given_any P Q G b y 1 HG hQ _).mono ?_
    rintro e w1 ⟨rfl, hb0⟩
    have hb1 := below_ext (below_two (Below.refl _ _)) hb0
    have HX1 := Lib.hid (HX0.out.below hb0)
    have HR1 := Lib.hid (HR0.out.below hb0)
    clear hb0
    obtain ⟨c0, c1, c2⟩ := HX1.out
    obtain ⟨⟨d0, d1, d2⟩, f0, f1, f2⟩ := HR1.out.box
    go_wp2
    exact bodyPost_ret (v := pv0 1) (by simp [results, Tryd.results21, go_sem, d0, d1, d2]) rfl ⟨rfl, below_set3 hb1 (by omega) _ _ _⟩
  | true =>
    have HV : Hid (validG P Q G = true) := hval
    obtain ⟨hp2, hp, hq3, hqp⟩ := validG_P hval
    cases hk : okB P Q b with
    | false =>
      obtain rfl : r = 2 := by rw [← hr0.out, simE, hval, hk]; rfl
      have HK : Hid (okB P Q b = false) := hk
      have HG : Hid (givE P Q G b y = 2) := Lib.hid (by rw [givE, hval, hk]; rfl)
      clear hr0 hval hk
      go_enter Tryd.func21, Tryd.ntmps21
      go_wp2_with fail
      refine (given_any P Q G b y 2 HG hQ _).mono ?_
      rintro e w1 ⟨rfl, hb0⟩
      have hb1 := below_ext (below_two (Below.refl _ _)) hb0
      have HX1 := Lib.hid (HX0.out.below hb0)
      have HR1 := Lib.hid (HR0.out.below hb0)
      clear hb0
      obtain ⟨c0, c1, c2⟩ := HX1.out
      obtain ⟨⟨d0, d1, d2⟩, f0, f1, f2⟩ := HR1.out.box
      go_wp2
      exact bodyPost_ret (v := pv0 2) (by simp [results, Tryd.results21, go_sem, d0, d1, d2]) rfl ⟨rfl, below_set3 hb1 (by omega) _ _ _⟩
    | true =>
      have HK : Hid (okB P Q b = true) := hk
      cases hm : memG P Q y with
      | false =>
        obtain rfl : r = 2 := by rw [← hr0.out, simE, hval, hk, hm]; rfl
        have HM : Hid (memG P Q y = false) := hm
        have HC : Hid (conG P Q G y = false) := Lib.hid (by rw [conG, hval, hm]; rfl)
        have HG : Hid (givE P Q G b y = 2) := Lib.hid (by rw [givE, hval, hk, hm]; rfl)
        clear hr0 hval hk hm
        go_enter Tryd.func21, Tryd.ntmps21
        go_wp2_with fail
        refine (given_any P Q G b y 2 HG hQ _).mono ?_
        rintro e w1 ⟨rfl, hb0⟩
        have hb1 := below_ext (below_two (Below.refl _ _)) hb0
        have HX1 := Lib.hid (HX0.out.below hb0)
        have HR1 := Lib.hid (HR0.out.below hb0)
        clear hb0
        obtain ⟨c0, c1, c2⟩ := HX1.out
        obtain ⟨⟨d0, d1, d2⟩, f0, f1, f2⟩ := HR1.out.box
        go_wp2
        exact bodyPost_ret (v := pv0 2) (by simp [results, Tryd.results21, go_sem, d0, d1, d2]) rfl ⟨rfl, below_set3 hb1 (by omega) _ _ _⟩
      | true =>
        have HM : Hid (memG P Q y = true) := hm
        have HC : Hid (conG P Q G y = true) := Lib.hid (by rw [conG, hval, hm]; rfl)
        cases hc : expB Q c with
        | false =>
          obtain rfl : r = 2 := by rw [← hr0.out, simE, hval, hk, hm, hc]; rfl
          have Hc : Hid (expB Q c = false) := hc
          have HG : Hid (givE P Q G b y = 0) := Lib.hid (by rw [givE, hval, hk, hm]; rfl)
          clear hr0 hval hk hm hc
          go_enter Tryd.func21, Tryd.ntmps21
          go_wp2_with fail
          refine (given_any P Q G b y 0 HG hQ _).mono ?_
          rintro e w1 ⟨rfl, hb0⟩
          have hb1 := below_ext (below_two (Below.refl _ _)) hb0
          have HX1 := Lib.hid (HX0.out.below hb0)
          have HR1 := Lib.hid (HR0.out.below hb0)
          clear hb0
          obtain ⟨c0, c1, c2⟩ := HX1.out
          obtain ⟨⟨d0, d1, d2⟩, f0, f1, f2⟩ := HR1.out.box
          go_wp2_with fail
          refine (rexp_any P Q G c false Hc _).mono ?_
          rintro e w2 ⟨rfl, hb0⟩
          have hb2 := below_ext hb1 hb0
          have HX2 := Lib.hid (HX1.out.below hb0)
          have HR2 := Lib.hid (HR1.out.below hb0)
          clear c0 c1 c2 d0 d1 d2 f0 f1 f2 hb0
          obtain ⟨c0, c1, c2⟩ := HX2.out
          obtain ⟨⟨d0, d1, d2⟩, f0, f1, f2⟩ := HR2.out.box
          go_wp2
          exact bodyPost_ret (v := pv0 2) (by simp [results, Tryd.results21, go_sem, d0, d1, d2]) rfl ⟨rfl, below_set3 hb2 (by omega) _ _ _⟩
        | true =>
          have Hc : Hid (expB Q c = true) := hc
          cases hz : expB Q z with
          | false =>
            obtain rfl : r = 2 := by rw [← hr0.out, simE, hval, hk, hm, hc, hz]; rfl
            have Hz : Hid (expB Q z = false) := hz
            have HG : Hid (givE P Q G b y = 0) := Lib.hid (by rw [givE, hval, hk, hm]; rfl)
            clear hr0 hval hk hm hc hz
            go_enter Tryd.func21, Tryd.ntmps21
            go_wp2_with fail
            refine (given_any P Q G b y 0 HG hQ _).mono ?_
            rintro e w1 ⟨rfl, hb0⟩
            have hb1 := below_ext (below_two (Below.refl _ _)) hb0
            have HX1 := Lib.hid (HX0.out.below hb0)
            have HR1 := Lib.hid (HR0.out.below hb0)
            clear hb0
            obtain ⟨c0, c1, c2⟩ := HX1.out
            obtain ⟨⟨d0, d1, d2⟩, f0, f1, f2⟩ := HR1.out.box
            go_wp2_with fail
            refine (rexp_any P Q G c true Hc _).mono ?_
            rintro e w2 ⟨rfl, hb0⟩
            have hb2 := below_ext hb1 hb0
            have HX2 := Lib.hid (HX1.out.below hb0)
            have HR2 := Lib.hid (HR1.out.below hb0)
            clear c0 c1 c2 d0 d1 d2 f0 f1 f2 hb0
            obtain ⟨c0, c1, c2⟩ := HX2.out
            obtain ⟨⟨d0, d1, d2⟩, f0, f1, f2⟩ := HR2.out.box
            go_wp2_with fail
            refine (rexp_any P Q G z false Hz _).mono ?_
            rintro e w3 ⟨rfl, hb0⟩
            have hb3 := below_ext hb2 hb0
            have HX3 := Lib.hid (HX2.out.below hb0)
            have HR3 := Lib.hid (HR2.out.below hb0)
            clear c0 c1 c2 d0 d1 d2 f0 f1 f2 hb0
            obtain ⟨c0, c1, c2⟩ := HX3.out
            obtain ⟨⟨d0, d1, d2⟩, f0, f1, f2⟩ := HR3.out.box
            go_wp2
            exact bodyPost_ret (v := pv0 2) (by simp [results, Tryd.results21, go_sem, d0, d1, d2]) rfl ⟨rfl, below_set3 hb3 (by omega) _ _ _⟩
          | true =>
            have Hz : Hid (expB Q z = true) := hz
            obtain rfl : r = 0 := by rw [← hr0.out, simE, hval, hk, hm, hc, hz]; rfl
            exact absurd hne (by decide)

theorem simE_zero {P Q G b y c z : Int} (h : simE P Q G b y c z = 0) : validG P Q G = true ∧ okB P Q b = true ∧ memG P Q y = true ∧ expB Q c = true ∧ expB Q z = true := by
  unfold simE at h
  split at h
  · split at h
    · split at h
      · split at h
        · split at h
          · exact ⟨by assumption, by assumption, by assumption, by assumption, by assumption⟩
          · omega
        · omega
      · omega
    · omega
  · omega

end Go.Proofs.YtaoodeenbedmhaaDoor
