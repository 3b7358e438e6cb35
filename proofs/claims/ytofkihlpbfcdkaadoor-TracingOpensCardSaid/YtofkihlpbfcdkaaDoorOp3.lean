/- Contracts and lemmas: TlA, TlC, TlD. -/
import Derived.Test.YtofkihlpbfcdkaaDoorOp2
namespace Go.Proofs.YtofkihlpbfcdkaaDoor
open Go.RowKit SpM
set_option linter.unusedVariables false
set_option linter.unusedSimpArgs false
set_option maxRecDepth 100000
structure OrdR where
  num : Int
  rs : ByteArray
  E1 : Int
  E2 : Int
  A : Option Addr
  na : Nat
  ca : Nat
  al : List Int
  C : Int
  Z : Option Addr
  nz : Nat
  cz : Nat
  zs : List Int
  L : Option Addr
  np : Nat
  cp : Nat
  ps : List PartR
  key : Int
abbrev noOrd : OrdR := ⟨0, ⟨#[]⟩, 0, 0, none, 0, 0, [], 0, none, 0, 0, [], none, 0, 0, [], 0⟩
abbrev orV (o : OrdR) : Value := .agg #[.int .i64 o.num, .string o.rs, .int .i64 o.E1, .int .i64 o.E2, .slice o.A o.na o.ca, .int .i64 o.C, .slice o.Z o.nz o.cz, .slice o.L o.np o.cp, .int .i64 o.key]
abbrev orO (o : OrdR) : Obj := .cells #[.int .i64 o.num, .string o.rs, .int .i64 o.E1, .int .i64 o.E2, .slice o.A o.na o.ca, .int .i64 o.C, .slice o.Z o.nz o.cz, .slice o.L o.np o.cp, .int .i64 o.key] 46
abbrev ptV (p : PartR) : Value := .agg #[.int .i64 p.ix, .int .i64 p.v, .slice p.A p.na p.ca, .int .i64 p.C, .slice p.Z p.nz p.cz]
abbrev ptO (p : PartR) : Obj := .cells #[.int .i64 p.ix, .int .i64 p.v, .slice p.A p.na p.ca, .int .i64 p.C, .slice p.Z p.nz p.cz] 56
def OrdOk (w : World) (o : OrdR) : Prop := o.al.length = o.na ∧ o.zs.length = o.nz ∧ (o.ps.length = o.np ∧ o.np ≤ o.cp) ∧ Sl w o.A o.al ∧ Sl w o.Z o.zs ∧ Pa w o.L o.ps
theorem OrdOk.below {w w' : World} {o : OrdR} (h : OrdOk w o) (hb : Below w.heap.size w w') : OrdOk w' o :=
  ⟨h.1, h.2.1, h.2.2.1, h.2.2.2.1.below hb, h.2.2.2.2.1.below hb, h.2.2.2.2.2.below hb⟩
def Nine (w : World) (b k : Nat) (o : OrdR) : Prop := w.cell? ⟨b, k, none⟩ = some (.int .i64 o.num) ∧ w.cell? ⟨b, k + 1, none⟩ = some (.string o.rs) ∧ w.cell? ⟨b, k + 2, none⟩ = some (.int .i64 o.E1) ∧ w.cell? ⟨b, k + 3, none⟩ = some (.int .i64 o.E2) ∧ w.cell? ⟨b, k + 4, none⟩ = some (.slice o.A o.na o.ca) ∧ w.cell? ⟨b, k + 5, none⟩ = some (.int .i64 o.C) ∧ w.cell? ⟨b, k + 6, none⟩ = some (.slice o.Z o.nz o.cz) ∧ w.cell? ⟨b, k + 7, none⟩ = some (.slice o.L o.np o.cp) ∧ w.cell? ⟨b, k + 8, none⟩ = some (.int .i64 o.key)
theorem Nine.below {w w' : World} {b k : Nat} {o : OrdR} (h : Nine w b k o) (hb : Below w.heap.size w w') : Nine w' b k o := by
  obtain ⟨h0, h1, h2, h3, h4, h5, h6, h7, h8⟩ := h
  exact ⟨cell_below h0 hb, cell_below h1 hb, cell_below h2 hb, cell_below h3 hb, cell_below h4 hb, cell_below h5 hb, cell_below h6 hb, cell_below h7 hb, cell_below h8 hb⟩
def Os (w : World) (O : Option Addr) (os : List OrdR) : Prop := ∀ k, k < os.length → ∃ b o, O = some ⟨b, o, none⟩ ∧ Nine w b (o + k * 9) (os.getD k noOrd) ∧ OrdOk w (os.getD k noOrd)
theorem Os.below {w w' : World} {O : Option Addr} {os : List OrdR} (h : Os w O os) (hb : Below w.heap.size w w') : Os w' O os := fun k hk => by
  obtain ⟨b, o, h1, h2, h3⟩ := h k hk
  exact ⟨b, o, h1, h2.below hb, h3.below hb⟩
def shB (na nz : Nat) : Bool := decide (na ≤ 20) && decide (nz ≤ 20)
def rsB (s : ByteArray) : Bool := decide (1 ≤ s.size) && decide (s.size ≤ 200)
def frB (ps : List PartR) (x : Int) : Nat → Bool
  | 0 => true
  | k + 1 => frB ps x k && ((ps.getD k noPart).ix != x)
def prtB (ps : List PartR) (k : Nat) : Bool := decide (1 ≤ (ps.getD k noPart).ix) && (decide ((ps.getD k noPart).ix ≤ 8) && (frB ps (ps.getD k noPart).ix k && shB (ps.getD k noPart).na (ps.getD k noPart).nz))
def ptsB (ps : List PartR) : Nat → Bool
  | 0 => true
  | k + 1 => ptsB ps k && prtB ps k
def ordB (o : OrdR) : Bool := decide (0 ≤ o.num) && (decide (o.num < 100) && (rsB o.rs && (shB o.na o.nz && (decide (o.np ≤ 8) && (decide (0 ≤ o.key) && ptsB o.ps o.np)))))
theorem ptsB_mono {ps : List PartR} {k : Nat} (h : ptsB ps k = false) : ∀ m, k ≤ m → ptsB ps m = false
  | 0, hm => by obtain rfl : k = 0 := by omega
                exact h
  | m + 1, hm => by
    by_cases e : k = m + 1
    · rw [← e]; exact h
    · rw [ptsB, ptsB_mono h m (by omega)]; rfl
theorem ptsB_hit {ps : List PartR} {k m : Nat} (h : prtB ps k = false) (hk : k < m) : ptsB ps m = false := ptsB_mono (k := k + 1) (by rw [ptsB, h, Bool.and_false]) m (by omega)
def IsFst (ps : List PartR) (x r : Int) : Prop := (r = -1 ∧ frB ps x ps.length = true) ∨ ∃ k : Nat, k < ps.length ∧ r = (k : Int) ∧ (ps.getD k noPart).ix = x ∧ frB ps x k = true
theorem frB_get {ps : List PartR} {x : Int} : ∀ {k : Nat}, frB ps x k = true → ∀ j, j < k → (ps.getD j noPart).ix ≠ x
  | 0, _, j, hj => absurd hj (by omega)
  | k + 1, h, j, hj => by
    simp only [frB, Bool.and_eq_true, bne_iff_ne, ne_eq] at h
    by_cases e : j = k
    · subst e; exact h.2
    · exact frB_get h.1 j (by omega)
theorem frB_no {ps : List PartR} {x : Int} : ∀ {k : Nat}, frB ps x k = false → ∃ j, j < k ∧ (ps.getD j noPart).ix = x
  | 0, h => by cases h
  | k + 1, h => by
    cases h1 : frB ps x k with
    | false => obtain ⟨j, hj, e⟩ := frB_no h1; exact ⟨j, by omega, e⟩
    | true =>
      rw [frB, h1, Bool.true_and] at h
      exact ⟨k, by omega, by simpa using h⟩
theorem fst_ne {ps : List PartR} {k : Nat} {x r : Int} {b : Bool} (hk : k < ps.length) (hx : (ps.getD k noPart).ix = x) (h : IsFst ps x r) (hb : frB ps x k = b) : (r != (k : Int)) = !b := by
  rcases h with ⟨rfl, h⟩ | ⟨j, hj, rfl, h1, h2⟩
  · exact absurd hx (frB_get h k hk)
  · cases b with
    | true =>
      have h3 : ¬ j < k := fun hlt => frB_get hb j hlt h1
      have h4 : ¬ k < j := fun hlt => frB_get h2 k hlt hx
      have : j = k := by omega
      subst this
      simp
    | false =>
      obtain ⟨i, hi, he⟩ := frB_no hb
      have h3 : ¬ i < j := fun hlt => frB_get h2 i hlt he
      simp; omega
set_option maxHeartbeats 1600000 in
theorem tshort_any (A : Option Addr) (na ca : Nat) (C : Int) (Z : Option Addr) (nz cz : Nat) (r : Bool) (hr : Hid (shB na nz = r)) (w : World) :
    Calls Tryd.prog 26 #[prvL A na ca C Z nz cz] w fun e' w' => e' = .returned (.bool r) ∧ Below w.heap.size w w' := by
  have HX := below_box0 w (prObjL A na ca C Z nz cz)
  have hr1 := hr.out
  unfold shB at hr1
  by_cases h0 : na ≤ 20
  · have d0 : decide ((na : Int) ≤ 20) = true := by simp; omega
    by_cases h1 : nz ≤ 20
    · have d1 : decide ((nz : Int) ≤ 20) = true := by simp; omega
      obtain rfl : r = true := by rw [← hr1]; simp; omega
      clear hr1 hr
      go_enter Tryd.func26, Tryd.ntmps26
      go_wp2
      go_ret
      exact ⟨rfl, HX⟩
    · have d1 : decide ((nz : Int) ≤ 20) = false := by simp; omega
      obtain rfl : r = false := by rw [← hr1]; simp; omega
      clear hr1 hr
      go_enter Tryd.func26, Tryd.ntmps26
      go_wp2
      go_ret
      exact ⟨rfl, HX⟩
  · have d0 : decide ((na : Int) ≤ 20) = false := by simp; omega
    obtain rfl : r = false := by rw [← hr1]; simp; omega
    clear hr1 hr
    go_enter Tryd.func26, Tryd.ntmps26
    go_wp2
    go_ret
    exact ⟨rfl, HX⟩
set_option maxHeartbeats 1600000 in
theorem reason_any (s : ByteArray) (r : Bool) (hr : Hid (rsB s = r)) (w : World) :
    Calls Tryd.prog 25 #[.string s] w fun e' w' => e' = .returned (.bool r) ∧ w' = w := by
  have hr1 := hr.out
  unfold rsB at hr1
  by_cases h0 : 1 ≤ s.size
  · have d0 : decide ((1 : Int) ≤ (s.size : Int)) = true := by simp; omega
    by_cases h1 : s.size ≤ 200
    · have d1 : decide ((s.size : Int) ≤ 200) = true := by simp; omega
      obtain rfl : r = true := by rw [← hr1]; simp; omega
      clear hr1 hr
      go_enter Tryd.func25, Tryd.ntmps25
      go_wp2
      go_ret
      exact ⟨rfl, rfl⟩
    · have d1 : decide ((s.size : Int) ≤ 200) = false := by simp; omega
      obtain rfl : r = false := by rw [← hr1]; simp; omega
      clear hr1 hr
      go_enter Tryd.func25, Tryd.ntmps25
      go_wp2
      go_ret
      exact ⟨rfl, rfl⟩
  · have d0 : decide ((1 : Int) ≤ (s.size : Int)) = false := by simp; omega
    obtain rfl : r = false := by rw [← hr1]; simp; omega
    clear hr1 hr
    go_enter Tryd.func25, Tryd.ntmps25
    go_wp2
    go_ret
    exact ⟨rfl, rfl⟩
set_option maxHeartbeats 1600000 in
theorem find_clos (p : PartR) (a : Nat) (x : Int) (r : Bool) (hr : Hid ((p.ix == x) = r)) (w : World) (hx : Hid (w.cell? ⟨a, 0, none⟩ = some (.int .i64 x))) :
    Calls Tryd.prog 70 #[ptV p, .pointer (some ⟨a, 0, none⟩)] w fun e' w' => e' = .returned (.bool r) ∧ Below w.heap.size w w' := by
  have hb := below_box0 w (ptO p)
  have c0 := cell_below hx.out hb
  have d0 := hr.out
  clear hx
  go_enter Tryd.func70, Tryd.ntmps70
  go_wp2
  go_ret
  exact ⟨by first | rfl | rw [d0], hb⟩
set_option maxHeartbeats 3200000 in
theorem idx_find (a : Nat) (x : Int) (L : Option Addr) (ps : List PartR) (n c : Nat) (hn : Hid (ps.length = n)) (hbig : n < 1000000) (w : World) (hs : Hid (Pa w L ps)) (hx : Hid (w.cell? ⟨a, 0, none⟩ = some (.int .i64 x))) :
    Calls Tryd.prog 47 #[.slice L n c, .func (.func 70) #[] #[.pointer (some ⟨a, 0, none⟩)]] w fun e w' => ∃ i : Int, e = .returned (.int .i64 i) ∧ IsFst ps x i ∧ Below w.heap.size w w' := by
  go_enter Tryd.func47, Tryd.ntmps47
  go_wp2
  go_loopw [8] (fun i wr => ∃ k : Nat, k ≤ n ∧ i = .int .i64 k ∧ Hid (frB ps x k = true) ∧ Hid (Below w.heap.size w wr)) (fun i _ => n - (intOf i).toNat)
  case atStart => exact ⟨0, by omega, rfl, Lib.hid rfl, Lib.hid (Below.refl _ _)⟩
  case round =>
    obtain ⟨k, hk, rfl, HR, HBr⟩ := hrel
    by_cases hlt : k < n
    · have hkl : k < ps.length := by rw [hn.out]; exact hlt
      obtain ⟨b, o, hA, i0, i1, i2, i3, i4, _⟩ := (hs.out.below HBr.out) k hkl
      subst hA
      have HXr : Hid (wr.cell? ⟨a, 0, none⟩ = some (.int .i64 x)) := Lib.hid (cell_below hx.out HBr.out)
      cases hpx : ((ps.getD k noPart).ix == x) with
      | false =>
        have HN : Hid (frB ps x (k + 1) = true) := Lib.hid (by rw [frB, HR.out, bne, hpx]; rfl)
        obtain ⟨p, hp⟩ : ∃ p, ps.getD k noPart = p := ⟨_, rfl⟩
        rw [hp] at i0 i1 i2 i3 i4 hpx
        have HPX := Lib.hid hpx
        clear hp hkl hpx HR
        go_wp2_with fail
        refine (find_clos p a x false HPX wr HXr).mono ?_
        rintro e w2 ⟨rfl, hb0⟩
        have HB2 := Lib.hid (below_ext HBr.out hb0)
        clear hb0 HBr i0 i1 i2 i3 i4
        go_wp2
        go_roundw
        case rel => exact ⟨k + 1, by omega, by go_num, HN, HB2⟩
        case measure => simp [intOf]; omega
      | true =>
        have HN : Hid (IsFst ps x (k : Int)) := Lib.hid (.inr ⟨k, hkl, rfl, by simpa using hpx, HR.out⟩)
        obtain ⟨p, hp⟩ : ∃ p, ps.getD k noPart = p := ⟨_, rfl⟩
        rw [hp] at i0 i1 i2 i3 i4 hpx
        have HPX := Lib.hid hpx
        clear hp hkl hpx HR
        go_wp2_with fail
        refine (find_clos p a x true HPX wr HXr).mono ?_
        rintro e w2 ⟨rfl, hb0⟩
        have HB2 := Lib.hid (below_ext HBr.out hb0)
        clear hb0 HBr i0 i1 i2 i3 i4
        go_wp2
        go_ret
        exact ⟨k, rfl, HN.out, HB2.out⟩
    · obtain rfl : k = n := by omega
      have HN : Hid (IsFst ps x (-1)) := Lib.hid (.inl ⟨rfl, by rw [hn.out]; exact HR.out⟩)
      clear HR
      go_wp2
      go_ret
      exact ⟨-1, rfl, HN.out, HBr.out⟩
set_option maxHeartbeats 3200000 in
theorem find_any (L : Option Addr) (ps : List PartR) (n c : Nat) (x : Int) (hn : Hid (ps.length = n)) (hbig : n < 1000000) (w : World) (hs : Hid (Pa w L ps)) :
    Calls Tryd.prog 57 #[.slice L n c, .int .i64 x] w fun e w' => ∃ i : Int, e = .returned (.int .i64 i) ∧ IsFst ps x i ∧ Below w.heap.size w w' := by
  have hb := below_box0 w (.cells #[.int .i64 x] 3)
  have HXc : Hid ((w.alloc (.cells #[.int .i64 x] 3)).cell? ⟨w.heap.size, 0, none⟩ = some (.int .i64 x)) := Lib.hid (cell_blk (heap_alloc_new _ _) 0)
  have HP := Lib.hid (hs.out.below hb)
  have HB := Lib.hid hb
  clear hb
  go_enter Tryd.func57, Tryd.ntmps57
  go_wp2_with fail
  refine (idx_find w.heap.size x L ps n c hn hbig _ HP HXc).mono ?_
  rintro e w2 ⟨i, rfl, hi, hb0⟩
  have HI := Lib.hid hi
  have HB2 := Lib.hid (below_ext HB.out hb0)
  clear hi hb0
  go_wp2
  go_ret
  exact ⟨i, rfl, HI.out, HB2.out⟩
theorem stOr (o : OrdR) (w : World) : ∃ w0, Hid ((w.alloc (orO o)) = w0) ∧ Hid (Below w.heap.size w w0) ∧ Hid (∀ u : World, Hid (Below w0.heap.size w0 u) → u.cell? ⟨w.heap.size, 0, none⟩ = some (.int .i64 o.num) ∧ u.cell? ⟨w.heap.size, 1, none⟩ = some (.string o.rs) ∧ u.cell? ⟨w.heap.size, 2, none⟩ = some (.int .i64 o.E1) ∧ u.cell? ⟨w.heap.size, 3, none⟩ = some (.int .i64 o.E2) ∧ u.cell? ⟨w.heap.size, 4, none⟩ = some (.slice o.A o.na o.ca) ∧ u.cell? ⟨w.heap.size, 5, none⟩ = some (.int .i64 o.C) ∧ u.cell? ⟨w.heap.size, 6, none⟩ = some (.slice o.Z o.nz o.cz) ∧ u.cell? ⟨w.heap.size, 7, none⟩ = some (.slice o.L o.np o.cp) ∧ u.cell? ⟨w.heap.size, 8, none⟩ = some (.int .i64 o.key)) := by
  obtain ⟨w0, hW⟩ : ∃ W, (w.alloc (orO o)) = W := ⟨_, rfl⟩
  have HBw : Hid (Below w.heap.size w w0) := Lib.hid (by rw [← hW]; exact below_box0 _ _)
  have hc : w0.cell? ⟨w.heap.size, 0, none⟩ = some (.int .i64 o.num) ∧ w0.cell? ⟨w.heap.size, 1, none⟩ = some (.string o.rs) ∧ w0.cell? ⟨w.heap.size, 2, none⟩ = some (.int .i64 o.E1) ∧ w0.cell? ⟨w.heap.size, 3, none⟩ = some (.int .i64 o.E2) ∧ w0.cell? ⟨w.heap.size, 4, none⟩ = some (.slice o.A o.na o.ca) ∧ w0.cell? ⟨w.heap.size, 5, none⟩ = some (.int .i64 o.C) ∧ w0.cell? ⟨w.heap.size, 6, none⟩ = some (.slice o.Z o.nz o.cz) ∧ w0.cell? ⟨w.heap.size, 7, none⟩ = some (.slice o.L o.np o.cp) ∧ w0.cell? ⟨w.heap.size, 8, none⟩ = some (.int .i64 o.key) := by rw [← hW]; exact ⟨allocs_cell (by simp) (by rfl), allocs_cell (by simp) (by rfl), allocs_cell (by simp) (by rfl), allocs_cell (by simp) (by rfl), allocs_cell (by simp) (by rfl), allocs_cell (by simp) (by rfl), allocs_cell (by simp) (by rfl), allocs_cell (by simp) (by rfl), allocs_cell (by simp) (by rfl)⟩
  have kC := Lib.hid (show ∀ u : World, Hid (Below w0.heap.size w0 u) → u.cell? ⟨w.heap.size, 0, none⟩ = some (.int .i64 o.num) ∧ u.cell? ⟨w.heap.size, 1, none⟩ = some (.string o.rs) ∧ u.cell? ⟨w.heap.size, 2, none⟩ = some (.int .i64 o.E1) ∧ u.cell? ⟨w.heap.size, 3, none⟩ = some (.int .i64 o.E2) ∧ u.cell? ⟨w.heap.size, 4, none⟩ = some (.slice o.A o.na o.ca) ∧ u.cell? ⟨w.heap.size, 5, none⟩ = some (.int .i64 o.C) ∧ u.cell? ⟨w.heap.size, 6, none⟩ = some (.slice o.Z o.nz o.cz) ∧ u.cell? ⟨w.heap.size, 7, none⟩ = some (.slice o.L o.np o.cp) ∧ u.cell? ⟨w.heap.size, 8, none⟩ = some (.int .i64 o.key) from fun u h => ⟨cell_below hc.1 h.out, cell_below hc.2.1 h.out, cell_below hc.2.2.1 h.out, cell_below hc.2.2.2.1 h.out, cell_below hc.2.2.2.2.1 h.out, cell_below hc.2.2.2.2.2.1 h.out, cell_below hc.2.2.2.2.2.2.1 h.out, cell_below hc.2.2.2.2.2.2.2.1 h.out, cell_below hc.2.2.2.2.2.2.2.2 h.out⟩)
  exact ⟨w0, Lib.hid hW, HBw, kC⟩
set_option maxHeartbeats 3200000 in
theorem ord_1 (o : OrdR) (h : o.num < 0) (w : World) :
    Calls Tryd.prog 31 #[orV o] w fun e' w' => e' = .returned (.bool false) ∧ Below w.heap.size w w' := by
  have dn0 : decide (o.num < 0) = true := by simp; omega
  obtain ⟨w0, HW, HBw, kC⟩ := stOr o w
  have HB_0 : Hid (Below w0.heap.size w0 w0) := Lib.hid (Below.refl _ _)
  go_enter Tryd.func31, Tryd.ntmps31
  go_upto_region 1 with (fail)
  rw [HW.out]
  obtain ⟨zc0, zc1, zc2, zc3, zc4, zc5, zc6, zc7, zc8⟩ := kC.out _ HB_0
  have hbF := below_ext HBw.out HB_0.out
  go_wp2
  go_ret
  exact ⟨rfl, hbF⟩
set_option maxHeartbeats 3200000 in
theorem ord_2 (o : OrdR) (h1 : 0 ≤ o.num) (h : 100 ≤ o.num) (w : World) :
    Calls Tryd.prog 31 #[orV o] w fun e' w' => e' = .returned (.bool false) ∧ Below w.heap.size w w' := by
  have dn0 : decide (o.num < 0) = false := by simp; omega
  have dn1 : decide ((100 : Int) ≤ o.num) = true := by simp; omega
  obtain ⟨w0, HW, HBw, kC⟩ := stOr o w
  have HB_0 : Hid (Below w0.heap.size w0 w0) := Lib.hid (Below.refl _ _)
  go_enter Tryd.func31, Tryd.ntmps31
  go_upto_region 1 with (fail)
  rw [HW.out]
  obtain ⟨zc0, zc1, zc2, zc3, zc4, zc5, zc6, zc7, zc8⟩ := kC.out _ HB_0
  have hbF := below_ext HBw.out HB_0.out
  go_wp2
  go_ret
  exact ⟨rfl, hbF⟩
set_option maxHeartbeats 3200000 in
theorem ord_3 (o : OrdR) (h1 : 0 ≤ o.num) (h2 : o.num < 100) (hrs : Hid (rsB o.rs = false)) (w : World) :
    Calls Tryd.prog 31 #[orV o] w fun e' w' => e' = .returned (.bool false) ∧ Below w.heap.size w w' := by
  have dn0 : decide (o.num < 0) = false := by simp; omega
  have dn1 : decide ((100 : Int) ≤ o.num) = false := by simp; omega
  obtain ⟨w0, HW, HBw, kC⟩ := stOr o w
  have HB_0 : Hid (Below w0.heap.size w0 w0) := Lib.hid (Below.refl _ _)
  go_enter Tryd.func31, Tryd.ntmps31
  go_upto_region 1 with (fail)
  rw [HW.out]
  obtain ⟨zc0, zc1, zc2, zc3, zc4, zc5, zc6, zc7, zc8⟩ := kC.out _ HB_0
  go_wp2_with fail
  refine (reason_any o.rs false hrs _).mono ?_
  rintro e9 w9 ⟨rfl, hw9⟩
  rw [hw9]
  clear hw9
  have hbF := below_ext HBw.out HB_0.out
  go_wp2
  go_ret
  exact ⟨rfl, hbF⟩
set_option maxHeartbeats 3200000 in
theorem ord_4 (o : OrdR) (h1 : 0 ≤ o.num) (h2 : o.num < 100) (hrs : Hid (rsB o.rs = true)) (hsh : Hid (shB o.na o.nz = false)) (w : World) :
    Calls Tryd.prog 31 #[orV o] w fun e' w' => e' = .returned (.bool false) ∧ Below w.heap.size w w' := by
  have dn0 : decide (o.num < 0) = false := by simp; omega
  have dn1 : decide ((100 : Int) ≤ o.num) = false := by simp; omega
  obtain ⟨w0, HW, HBw, kC⟩ := stOr o w
  have HB_0 : Hid (Below w0.heap.size w0 w0) := Lib.hid (Below.refl _ _)
  go_enter Tryd.func31, Tryd.ntmps31
  go_upto_region 1 with (fail)
  rw [HW.out]
  obtain ⟨zc0, zc1, zc2, zc3, zc4, zc5, zc6, zc7, zc8⟩ := kC.out _ HB_0
  go_wp2_with fail
  refine (reason_any o.rs true hrs _).mono ?_
  rintro e9 w9 ⟨rfl, hw9⟩
  rw [hw9]
  clear hw9
  go_wp2_with fail
  refine (tshort_any o.A o.na o.ca o.C o.Z o.nz o.cz false hsh _).mono ?_
  rintro e w1 ⟨rfl, hb0⟩
  have HB_1 := Lib.hid (below_ext HB_0.out hb0)
  clear zc0 zc1 zc2 zc3 zc4 zc5 zc6 zc7 zc8
  clear hb0
  obtain ⟨zc0, zc1, zc2, zc3, zc4, zc5, zc6, zc7, zc8⟩ := kC.out _ HB_1
  have hbF := below_ext HBw.out HB_1.out
  go_wp2
  go_ret
  exact ⟨rfl, hbF⟩
set_option maxHeartbeats 3200000 in
theorem ord_5 (o : OrdR) (h1 : 0 ≤ o.num) (h2 : o.num < 100) (hrs : Hid (rsB o.rs = true)) (hsh : Hid (shB o.na o.nz = true)) (h3 : ¬ o.np ≤ 8) (w : World) :
    Calls Tryd.prog 31 #[orV o] w fun e' w' => e' = .returned (.bool false) ∧ Below w.heap.size w w' := by
  have dn0 : decide (o.num < 0) = false := by simp; omega
  have dn1 : decide ((100 : Int) ≤ o.num) = false := by simp; omega
  have dp8 : decide ((8 : Int) < (o.np : Int)) = true := by simp; omega
  obtain ⟨w0, HW, HBw, kC⟩ := stOr o w
  have HB_0 : Hid (Below w0.heap.size w0 w0) := Lib.hid (Below.refl _ _)
  go_enter Tryd.func31, Tryd.ntmps31
  go_upto_region 1 with (fail)
  rw [HW.out]
  obtain ⟨zc0, zc1, zc2, zc3, zc4, zc5, zc6, zc7, zc8⟩ := kC.out _ HB_0
  go_wp2_with fail
  refine (reason_any o.rs true hrs _).mono ?_
  rintro e9 w9 ⟨rfl, hw9⟩
  rw [hw9]
  clear hw9
  go_wp2_with fail
  refine (tshort_any o.A o.na o.ca o.C o.Z o.nz o.cz true hsh _).mono ?_
  rintro e w1 ⟨rfl, hb0⟩
  have HB_1 := Lib.hid (below_ext HB_0.out hb0)
  clear zc0 zc1 zc2 zc3 zc4 zc5 zc6 zc7 zc8
  clear hb0
  obtain ⟨zc0, zc1, zc2, zc3, zc4, zc5, zc6, zc7, zc8⟩ := kC.out _ HB_1
  have hbF := below_ext HBw.out HB_1.out
  go_wp2
  go_ret
  exact ⟨rfl, hbF⟩
set_option maxHeartbeats 3200000 in
theorem ord_6 (o : OrdR) (h1 : 0 ≤ o.num) (h2 : o.num < 100) (hrs : Hid (rsB o.rs = true)) (hsh : Hid (shB o.na o.nz = true)) (h3 : o.np ≤ 8) (h4 : ¬ 0 ≤ o.key) (w : World) :
    Calls Tryd.prog 31 #[orV o] w fun e' w' => e' = .returned (.bool false) ∧ Below w.heap.size w w' := by
  have dn0 : decide (o.num < 0) = false := by simp; omega
  have dn1 : decide ((100 : Int) ≤ o.num) = false := by simp; omega
  have dp8 : decide ((8 : Int) < (o.np : Int)) = false := by simp; omega
  have dk0 : decide (o.key < 0) = true := by simp; omega
  obtain ⟨w0, HW, HBw, kC⟩ := stOr o w
  have HB_0 : Hid (Below w0.heap.size w0 w0) := Lib.hid (Below.refl _ _)
  go_enter Tryd.func31, Tryd.ntmps31
  go_upto_region 1 with (fail)
  rw [HW.out]
  obtain ⟨zc0, zc1, zc2, zc3, zc4, zc5, zc6, zc7, zc8⟩ := kC.out _ HB_0
  go_wp2_with fail
  refine (reason_any o.rs true hrs _).mono ?_
  rintro e9 w9 ⟨rfl, hw9⟩
  rw [hw9]
  clear hw9
  go_wp2_with fail
  refine (tshort_any o.A o.na o.ca o.C o.Z o.nz o.cz true hsh _).mono ?_
  rintro e w1 ⟨rfl, hb0⟩
  have HB_1 := Lib.hid (below_ext HB_0.out hb0)
  clear zc0 zc1 zc2 zc3 zc4 zc5 zc6 zc7 zc8
  clear hb0
  obtain ⟨zc0, zc1, zc2, zc3, zc4, zc5, zc6, zc7, zc8⟩ := kC.out _ HB_1
  have hbF := below_ext HBw.out HB_1.out
  go_wp2
  go_ret
  exact ⟨rfl, hbF⟩
set_option maxHeartbeats 12800000 in
theorem ord_7 (o : OrdR) (h1 : 0 ≤ o.num) (h2 : o.num < 100) (hrs : Hid (rsB o.rs = true)) (hsh : Hid (shB o.na o.nz = true)) (h3 : o.np ≤ 8) (h4 : 0 ≤ o.key) (w : World) (ho : Hid (OrdOk w o)) :
    Calls Tryd.prog 31 #[orV o] w fun e' w' => e' = .returned (.bool (ptsB o.ps o.np)) ∧ Below w.heap.size w w' := by
  have dn0 : decide (o.num < 0) = false := by simp; omega
  have dn1 : decide ((100 : Int) ≤ o.num) = false := by simp; omega
  have dp8 : decide ((8 : Int) < (o.np : Int)) = false := by simp; omega
  have dk0 : decide (o.key < 0) = false := by simp; omega
  obtain ⟨w0, HW, HBw, kC⟩ := stOr o w
  have kO := Lib.hid (show ∀ u : World, Hid (Below w0.heap.size w0 u) → Hid (OrdOk u o) from fun u h => Lib.hid ((ho.out.below) (below_ext HBw.out h.out)))
  have HB_0 : Hid (Below w0.heap.size w0 w0) := Lib.hid (Below.refl _ _)
  clear ho
  go_enter Tryd.func31, Tryd.ntmps31
  go_upto_region 1 with (fail)
  rw [HW.out]
  obtain ⟨zc0, zc1, zc2, zc3, zc4, zc5, zc6, zc7, zc8⟩ := kC.out _ HB_0
  go_wp2_with fail
  refine (reason_any o.rs true hrs _).mono ?_
  rintro e9 w9 ⟨rfl, hw9⟩
  rw [hw9]
  clear hw9
  go_wp2_with fail
  refine (tshort_any o.A o.na o.ca o.C o.Z o.nz o.cz true hsh _).mono ?_
  rintro e w1 ⟨rfl, hb0⟩
  have HB_1 := Lib.hid (below_ext HB_0.out hb0)
  clear zc0 zc1 zc2 zc3 zc4 zc5 zc6 zc7 zc8
  clear hb0
  obtain ⟨zc0, zc1, zc2, zc3, zc4, zc5, zc6, zc7, zc8⟩ := kC.out _ HB_1
  go_wp2
  clear zc0 zc1 zc2 zc3 zc4 zc5 zc6 zc7 zc8
  go_loopw [40] (fun i wr => ∃ k : Nat, k ≤ o.np ∧ i = .int .i64 k ∧ Hid (ptsB o.ps k = true) ∧ Hid (Below w0.heap.size w0 wr)) (fun i _ => o.np - (intOf i).toNat)
  case atStart => exact ⟨0, by omega, rfl, Lib.hid rfl, HB_1⟩
  case round =>
    obtain ⟨k, hk, rfl, HR, HBr⟩ := hrel
    by_cases hlt : k < o.np
    · skip
      obtain ⟨ok1, ok2, ⟨ok3, okc⟩, ok4, ok5, ok6⟩ := (kO.out _ HBr).out
      have hkl : k < o.ps.length := by rw [ok3]; exact hlt
      obtain ⟨b, f, hA, j0, j1, j2, j3, j4, j5⟩ := ok6 k hkl
      clear j5
      have HLA := Lib.hid hA
      have HPA := Lib.hid ok6
      have HPN := Lib.hid ok3
      clear ok1 ok2 ok4 ok5 ok6 okc
      obtain ⟨p, hp⟩ : ∃ p, o.ps.getD k noPart = p := ⟨_, rfl⟩
      have HPP := Lib.hid hp
      rw [hp] at j0 j1 j2 j3 j4
      clear hp ok3 hA
      rw [HLA.out]
      by_cases hx0 : p.ix < 1
      · skip
        have HF : Hid (ptsB o.ps o.np = false) := Lib.hid (ptsB_hit (k := k) (by rw [prtB, HPP.out]; simp; omega) hlt)
        have dx0 : decide (p.ix < 1) = true := by simp; omega
        have hq := below_box0 wr (ptO p)
        obtain ⟨q0, q1, q2, q3, q4⟩ : (wr.alloc (ptO p)).cell? ⟨wr.heap.size, 0, none⟩ = some (.int .i64 p.ix) ∧ (wr.alloc (ptO p)).cell? ⟨wr.heap.size, 1, none⟩ = some (.int .i64 p.v) ∧ (wr.alloc (ptO p)).cell? ⟨wr.heap.size, 2, none⟩ = some (.slice p.A p.na p.ca) ∧ (wr.alloc (ptO p)).cell? ⟨wr.heap.size, 3, none⟩ = some (.int .i64 p.C) ∧ (wr.alloc (ptO p)).cell? ⟨wr.heap.size, 4, none⟩ = some (.slice p.Z p.nz p.cz) := ⟨allocs_cell rfl (by rfl), allocs_cell rfl (by rfl), allocs_cell rfl (by rfl), allocs_cell rfl (by rfl), allocs_cell rfl (by rfl)⟩
        have hbF := below_ext HBw.out (below_ext HBr.out hq)
        obtain ⟨zc0, zc1, zc2, zc3, zc4, zc5, zc6, zc7, zc8⟩ := kC.out _ HBr
        rw [HLA.out] at zc7
        clear zc0 zc1 zc2 zc3 zc4 zc5 zc6 zc7 zc8
        go_wp2
        go_ret
        exact ⟨(by rw [HF.out]; try rfl), hbF⟩
      · skip
        have dx0 : decide (p.ix < 1) = false := by simp; omega
        by_cases hx1 : 8 < p.ix
        · skip
          have HF : Hid (ptsB o.ps o.np = false) := Lib.hid (ptsB_hit (k := k) (by rw [prtB, HPP.out]; simp; omega) hlt)
          have dx1 : decide ((8 : Int) < p.ix) = true := by simp; omega
          have hq := below_box0 wr (ptO p)
          obtain ⟨q0, q1, q2, q3, q4⟩ : (wr.alloc (ptO p)).cell? ⟨wr.heap.size, 0, none⟩ = some (.int .i64 p.ix) ∧ (wr.alloc (ptO p)).cell? ⟨wr.heap.size, 1, none⟩ = some (.int .i64 p.v) ∧ (wr.alloc (ptO p)).cell? ⟨wr.heap.size, 2, none⟩ = some (.slice p.A p.na p.ca) ∧ (wr.alloc (ptO p)).cell? ⟨wr.heap.size, 3, none⟩ = some (.int .i64 p.C) ∧ (wr.alloc (ptO p)).cell? ⟨wr.heap.size, 4, none⟩ = some (.slice p.Z p.nz p.cz) := ⟨allocs_cell rfl (by rfl), allocs_cell rfl (by rfl), allocs_cell rfl (by rfl), allocs_cell rfl (by rfl), allocs_cell rfl (by rfl)⟩
          have hbF := below_ext HBw.out (below_ext HBr.out hq)
          obtain ⟨zc0, zc1, zc2, zc3, zc4, zc5, zc6, zc7, zc8⟩ := kC.out _ HBr
          rw [HLA.out] at zc7
          clear zc0 zc1 zc2 zc3 zc4 zc5 zc6 zc7 zc8
          go_wp2
          go_ret
          exact ⟨(by rw [HF.out]; try rfl), hbF⟩
        · skip
          have dx1 : decide ((8 : Int) < p.ix) = false := by simp; omega
          cases hfr : frB o.ps p.ix k with
          | true =>
            cases hss : shB p.na p.nz with
            | true =>
              have HS : Hid (ptsB o.ps (k + 1) = true) := Lib.hid (by rw [ptsB, HR.out, prtB, HPP.out]; simp [hfr, hss]; omega)
              have HFR := Lib.hid hfr
              have HSS := Lib.hid hss
              clear hfr hss HR
              have HKL := Lib.hid hkl
              clear hkl
              have HB_wr_1 : Hid (Below wr.heap.size wr wr) := Lib.hid (Below.refl _ _)
              have kP := Lib.hid (show ∀ u : World, Hid (Below wr.heap.size wr u) → Hid (Pa u o.L o.ps) from fun u h => Lib.hid (HPA.out.below h.out))
              obtain ⟨zc0, zc1, zc2, zc3, zc4, zc5, zc6, zc7, zc8⟩ := kC.out _ HBr
              have hq := below_box0 wr (ptO p)
              have HB_2 := Lib.hid (below_ext HBr.out hq)
              have HB_wr_2 := Lib.hid (below_ext HB_wr_1.out hq)
              have hc : (wr.alloc (ptO p)).cell? ⟨wr.heap.size, 0, none⟩ = some (.int .i64 p.ix) ∧ (wr.alloc (ptO p)).cell? ⟨wr.heap.size, 1, none⟩ = some (.int .i64 p.v) ∧ (wr.alloc (ptO p)).cell? ⟨wr.heap.size, 2, none⟩ = some (.slice p.A p.na p.ca) ∧ (wr.alloc (ptO p)).cell? ⟨wr.heap.size, 3, none⟩ = some (.int .i64 p.C) ∧ (wr.alloc (ptO p)).cell? ⟨wr.heap.size, 4, none⟩ = some (.slice p.Z p.nz p.cz) := ⟨allocs_cell rfl (by rfl), allocs_cell rfl (by rfl), allocs_cell rfl (by rfl), allocs_cell rfl (by rfl), allocs_cell rfl (by rfl)⟩
              have HC2 := Lib.hid hc
              clear hq
              obtain ⟨zc0x, zc1x, zc2x, zc3x, zc4x, zc5x, zc6x, zc7x, zc8x⟩ := kC.out _ HB_2
              obtain ⟨zq0, zq1, zq2, zq3, zq4⟩ := hc
              go_wp2_with fail
              obtain ⟨w2, hw⟩ : ∃ x, (wr.alloc (ptO p)) = x := ⟨_, rfl⟩
              rw [hw] at HC2 HB_2 HB_wr_2 ⊢
              have HSN2 : Hid (w2.heap.size = wr.heap.size + 1) := Lib.hid (by rw [← hw]; simp)
              clear zc0 zc1 zc2 zc3 zc4 zc5 zc6 zc7 zc8 zc0x zc1x zc2x zc3x zc4x zc5x zc6x zc7x zc8x zq0 zq1 zq2 zq3 zq4
              clear hw
              have HB_w2_2 : Hid (Below w2.heap.size w2 w2) := Lib.hid (Below.refl _ _)
              have kS := Lib.hid (show ∀ u : World, Hid (Below w2.heap.size w2 u) → u.cell? ⟨wr.heap.size, 0, none⟩ = some (.int .i64 p.ix) ∧ u.cell? ⟨wr.heap.size, 1, none⟩ = some (.int .i64 p.v) ∧ u.cell? ⟨wr.heap.size, 2, none⟩ = some (.slice p.A p.na p.ca) ∧ u.cell? ⟨wr.heap.size, 3, none⟩ = some (.int .i64 p.C) ∧ u.cell? ⟨wr.heap.size, 4, none⟩ = some (.slice p.Z p.nz p.cz) from fun u h => ⟨cell_below HC2.out.1 h.out, cell_below HC2.out.2.1 h.out, cell_below HC2.out.2.2.1 h.out, cell_below HC2.out.2.2.2.1 h.out, cell_below HC2.out.2.2.2.2 h.out⟩)
              obtain ⟨zc0, zc1, zc2, zc3, zc4, zc5, zc6, zc7, zc8⟩ := kC.out _ HB_2
              obtain ⟨kS_0, kS_1, kS_2, kS_3, kS_4⟩ := kS.out _ HB_w2_2
              clear j0 j1 j2 j3 j4
              clear zc0 zc1 zc2 zc3 zc4 zc5 zc6 zc7 zc8 kS_0 kS_1 kS_2 kS_3 kS_4
              obtain ⟨zc0, zc1, zc2, zc3, zc4, zc5, zc6, zc7, zc8⟩ := kC.out _ HB_2
              obtain ⟨kS_0, kS_1, kS_2, kS_3, kS_4⟩ := kS.out _ HB_w2_2
              go_wp2_with fail
              refine (find_any o.L o.ps o.np o.cp p.ix HPN (by omega) _ (kP.out _ HB_wr_2)).mono ?_
              rintro e w3 ⟨ri, rfl, hri, hb0⟩
              have hne : (ri != (k : Int)) = false := fst_ne HKL.out (by rw [HPP.out]) hri HFR.out
              clear hri
              have HB_3 := Lib.hid (below_ext HB_2.out hb0)
              have HB_wr_3 := Lib.hid (below_ext HB_wr_2.out hb0)
              have HB_w2_3 := Lib.hid (below_ext HB_w2_2.out hb0)
              clear zc0 zc1 zc2 zc3 zc4 zc5 zc6 zc7 zc8 kS_0 kS_1 kS_2 kS_3 kS_4
              clear hb0
              obtain ⟨zc0, zc1, zc2, zc3, zc4, zc5, zc6, zc7, zc8⟩ := kC.out _ HB_3
              obtain ⟨kS_0, kS_1, kS_2, kS_3, kS_4⟩ := kS.out _ HB_w2_3
              go_wp2_with fail
              refine (tshort_any p.A p.na p.ca p.C p.Z p.nz p.cz true HSS _).mono ?_
              rintro e w4 ⟨rfl, hb0⟩
              have HB_4 := Lib.hid (below_ext HB_3.out hb0)
              have HB_wr_4 := Lib.hid (below_ext HB_wr_3.out hb0)
              have HB_w2_4 := Lib.hid (below_ext HB_w2_3.out hb0)
              clear zc0 zc1 zc2 zc3 zc4 zc5 zc6 zc7 zc8 kS_0 kS_1 kS_2 kS_3 kS_4
              clear hb0
              obtain ⟨zc0, zc1, zc2, zc3, zc4, zc5, zc6, zc7, zc8⟩ := kC.out _ HB_4
              obtain ⟨kS_0, kS_1, kS_2, kS_3, kS_4⟩ := kS.out _ HB_w2_4
              go_wp2
              go_roundw
              case rel => exact ⟨k + 1, by omega, by go_num, HS, HB_4⟩
              case measure => simp [intOf]; omega
            | false =>
              have HF : Hid (ptsB o.ps o.np = false) := Lib.hid (ptsB_hit (k := k) (by rw [prtB, HPP.out]; simp [hss]) hlt)
              have HFR := Lib.hid hfr
              have HSS := Lib.hid hss
              clear hfr hss HR
              have HKL := Lib.hid hkl
              clear hkl
              have HB_wr_1 : Hid (Below wr.heap.size wr wr) := Lib.hid (Below.refl _ _)
              have kP := Lib.hid (show ∀ u : World, Hid (Below wr.heap.size wr u) → Hid (Pa u o.L o.ps) from fun u h => Lib.hid (HPA.out.below h.out))
              obtain ⟨zc0, zc1, zc2, zc3, zc4, zc5, zc6, zc7, zc8⟩ := kC.out _ HBr
              have hq := below_box0 wr (ptO p)
              have HB_2 := Lib.hid (below_ext HBr.out hq)
              have HB_wr_2 := Lib.hid (below_ext HB_wr_1.out hq)
              have hc : (wr.alloc (ptO p)).cell? ⟨wr.heap.size, 0, none⟩ = some (.int .i64 p.ix) ∧ (wr.alloc (ptO p)).cell? ⟨wr.heap.size, 1, none⟩ = some (.int .i64 p.v) ∧ (wr.alloc (ptO p)).cell? ⟨wr.heap.size, 2, none⟩ = some (.slice p.A p.na p.ca) ∧ (wr.alloc (ptO p)).cell? ⟨wr.heap.size, 3, none⟩ = some (.int .i64 p.C) ∧ (wr.alloc (ptO p)).cell? ⟨wr.heap.size, 4, none⟩ = some (.slice p.Z p.nz p.cz) := ⟨allocs_cell rfl (by rfl), allocs_cell rfl (by rfl), allocs_cell rfl (by rfl), allocs_cell rfl (by rfl), allocs_cell rfl (by rfl)⟩
              have HC2 := Lib.hid hc
              clear hq
              obtain ⟨zc0x, zc1x, zc2x, zc3x, zc4x, zc5x, zc6x, zc7x, zc8x⟩ := kC.out _ HB_2
              obtain ⟨zq0, zq1, zq2, zq3, zq4⟩ := hc
              go_wp2_with fail
              obtain ⟨w2, hw⟩ : ∃ x, (wr.alloc (ptO p)) = x := ⟨_, rfl⟩
              rw [hw] at HC2 HB_2 HB_wr_2 ⊢
              have HSN2 : Hid (w2.heap.size = wr.heap.size + 1) := Lib.hid (by rw [← hw]; simp)
              clear zc0 zc1 zc2 zc3 zc4 zc5 zc6 zc7 zc8 zc0x zc1x zc2x zc3x zc4x zc5x zc6x zc7x zc8x zq0 zq1 zq2 zq3 zq4
              clear hw
              have HB_w2_2 : Hid (Below w2.heap.size w2 w2) := Lib.hid (Below.refl _ _)
              have kS := Lib.hid (show ∀ u : World, Hid (Below w2.heap.size w2 u) → u.cell? ⟨wr.heap.size, 0, none⟩ = some (.int .i64 p.ix) ∧ u.cell? ⟨wr.heap.size, 1, none⟩ = some (.int .i64 p.v) ∧ u.cell? ⟨wr.heap.size, 2, none⟩ = some (.slice p.A p.na p.ca) ∧ u.cell? ⟨wr.heap.size, 3, none⟩ = some (.int .i64 p.C) ∧ u.cell? ⟨wr.heap.size, 4, none⟩ = some (.slice p.Z p.nz p.cz) from fun u h => ⟨cell_below HC2.out.1 h.out, cell_below HC2.out.2.1 h.out, cell_below HC2.out.2.2.1 h.out, cell_below HC2.out.2.2.2.1 h.out, cell_below HC2.out.2.2.2.2 h.out⟩)
              obtain ⟨zc0, zc1, zc2, zc3, zc4, zc5, zc6, zc7, zc8⟩ := kC.out _ HB_2
              obtain ⟨kS_0, kS_1, kS_2, kS_3, kS_4⟩ := kS.out _ HB_w2_2
              clear j0 j1 j2 j3 j4
              clear zc0 zc1 zc2 zc3 zc4 zc5 zc6 zc7 zc8 kS_0 kS_1 kS_2 kS_3 kS_4
              obtain ⟨zc0, zc1, zc2, zc3, zc4, zc5, zc6, zc7, zc8⟩ := kC.out _ HB_2
              obtain ⟨kS_0, kS_1, kS_2, kS_3, kS_4⟩ := kS.out _ HB_w2_2
              go_wp2_with fail
              refine (find_any o.L o.ps o.np o.cp p.ix HPN (by omega) _ (kP.out _ HB_wr_2)).mono ?_
              rintro e w3 ⟨ri, rfl, hri, hb0⟩
              have hne : (ri != (k : Int)) = false := fst_ne HKL.out (by rw [HPP.out]) hri HFR.out
              clear hri
              have HB_3 := Lib.hid (below_ext HB_2.out hb0)
              have HB_wr_3 := Lib.hid (below_ext HB_wr_2.out hb0)
              have HB_w2_3 := Lib.hid (below_ext HB_w2_2.out hb0)
              clear zc0 zc1 zc2 zc3 zc4 zc5 zc6 zc7 zc8 kS_0 kS_1 kS_2 kS_3 kS_4
              clear hb0
              obtain ⟨zc0, zc1, zc2, zc3, zc4, zc5, zc6, zc7, zc8⟩ := kC.out _ HB_3
              obtain ⟨kS_0, kS_1, kS_2, kS_3, kS_4⟩ := kS.out _ HB_w2_3
              go_wp2_with fail
              refine (tshort_any p.A p.na p.ca p.C p.Z p.nz p.cz false HSS _).mono ?_
              rintro e w4 ⟨rfl, hb0⟩
              have HB_4 := Lib.hid (below_ext HB_3.out hb0)
              have HB_wr_4 := Lib.hid (below_ext HB_wr_3.out hb0)
              have HB_w2_4 := Lib.hid (below_ext HB_w2_3.out hb0)
              clear zc0 zc1 zc2 zc3 zc4 zc5 zc6 zc7 zc8 kS_0 kS_1 kS_2 kS_3 kS_4
              clear hb0
              obtain ⟨zc0, zc1, zc2, zc3, zc4, zc5, zc6, zc7, zc8⟩ := kC.out _ HB_4
              obtain ⟨kS_0, kS_1, kS_2, kS_3, kS_4⟩ := kS.out _ HB_w2_4
              have hbF := below_ext HBw.out HB_4.out
              go_wp2
              go_ret
              exact ⟨(by rw [HF.out]; try rfl), hbF⟩
          | false =>
            have HF : Hid (ptsB o.ps o.np = false) := Lib.hid (ptsB_hit (k := k) (by rw [prtB, HPP.out]; simp [hfr]) hlt)
            have HFR := Lib.hid hfr
            clear hfr HR
            have HKL := Lib.hid hkl
            clear hkl
            have HB_wr_1 : Hid (Below wr.heap.size wr wr) := Lib.hid (Below.refl _ _)
            have kP := Lib.hid (show ∀ u : World, Hid (Below wr.heap.size wr u) → Hid (Pa u o.L o.ps) from fun u h => Lib.hid (HPA.out.below h.out))
            obtain ⟨zc0, zc1, zc2, zc3, zc4, zc5, zc6, zc7, zc8⟩ := kC.out _ HBr
            have hq := below_box0 wr (ptO p)
            have HB_2 := Lib.hid (below_ext HBr.out hq)
            have HB_wr_2 := Lib.hid (below_ext HB_wr_1.out hq)
            have hc : (wr.alloc (ptO p)).cell? ⟨wr.heap.size, 0, none⟩ = some (.int .i64 p.ix) ∧ (wr.alloc (ptO p)).cell? ⟨wr.heap.size, 1, none⟩ = some (.int .i64 p.v) ∧ (wr.alloc (ptO p)).cell? ⟨wr.heap.size, 2, none⟩ = some (.slice p.A p.na p.ca) ∧ (wr.alloc (ptO p)).cell? ⟨wr.heap.size, 3, none⟩ = some (.int .i64 p.C) ∧ (wr.alloc (ptO p)).cell? ⟨wr.heap.size, 4, none⟩ = some (.slice p.Z p.nz p.cz) := ⟨allocs_cell rfl (by rfl), allocs_cell rfl (by rfl), allocs_cell rfl (by rfl), allocs_cell rfl (by rfl), allocs_cell rfl (by rfl)⟩
            have HC2 := Lib.hid hc
            clear hq
            obtain ⟨zc0x, zc1x, zc2x, zc3x, zc4x, zc5x, zc6x, zc7x, zc8x⟩ := kC.out _ HB_2
            obtain ⟨zq0, zq1, zq2, zq3, zq4⟩ := hc
            go_wp2_with fail
            obtain ⟨w2, hw⟩ : ∃ x, (wr.alloc (ptO p)) = x := ⟨_, rfl⟩
            rw [hw] at HC2 HB_2 HB_wr_2 ⊢
            have HSN2 : Hid (w2.heap.size = wr.heap.size + 1) := Lib.hid (by rw [← hw]; simp)
            clear zc0 zc1 zc2 zc3 zc4 zc5 zc6 zc7 zc8 zc0x zc1x zc2x zc3x zc4x zc5x zc6x zc7x zc8x zq0 zq1 zq2 zq3 zq4
            clear hw
            have HB_w2_2 : Hid (Below w2.heap.size w2 w2) := Lib.hid (Below.refl _ _)
            have kS := Lib.hid (show ∀ u : World, Hid (Below w2.heap.size w2 u) → u.cell? ⟨wr.heap.size, 0, none⟩ = some (.int .i64 p.ix) ∧ u.cell? ⟨wr.heap.size, 1, none⟩ = some (.int .i64 p.v) ∧ u.cell? ⟨wr.heap.size, 2, none⟩ = some (.slice p.A p.na p.ca) ∧ u.cell? ⟨wr.heap.size, 3, none⟩ = some (.int .i64 p.C) ∧ u.cell? ⟨wr.heap.size, 4, none⟩ = some (.slice p.Z p.nz p.cz) from fun u h => ⟨cell_below HC2.out.1 h.out, cell_below HC2.out.2.1 h.out, cell_below HC2.out.2.2.1 h.out, cell_below HC2.out.2.2.2.1 h.out, cell_below HC2.out.2.2.2.2 h.out⟩)
            obtain ⟨zc0, zc1, zc2, zc3, zc4, zc5, zc6, zc7, zc8⟩ := kC.out _ HB_2
            obtain ⟨kS_0, kS_1, kS_2, kS_3, kS_4⟩ := kS.out _ HB_w2_2
            clear j0 j1 j2 j3 j4
            clear zc0 zc1 zc2 zc3 zc4 zc5 zc6 zc7 zc8 kS_0 kS_1 kS_2 kS_3 kS_4
            obtain ⟨zc0, zc1, zc2, zc3, zc4, zc5, zc6, zc7, zc8⟩ := kC.out _ HB_2
            obtain ⟨kS_0, kS_1, kS_2, kS_3, kS_4⟩ := kS.out _ HB_w2_2
            go_wp2_with fail
            refine (find_any o.L o.ps o.np o.cp p.ix HPN (by omega) _ (kP.out _ HB_wr_2)).mono ?_
            rintro e w3 ⟨ri, rfl, hri, hb0⟩
            have hne : (ri != (k : Int)) = true := fst_ne HKL.out (by rw [HPP.out]) hri HFR.out
            clear hri
            have HB_3 := Lib.hid (below_ext HB_2.out hb0)
            have HB_wr_3 := Lib.hid (below_ext HB_wr_2.out hb0)
            have HB_w2_3 := Lib.hid (below_ext HB_w2_2.out hb0)
            clear zc0 zc1 zc2 zc3 zc4 zc5 zc6 zc7 zc8 kS_0 kS_1 kS_2 kS_3 kS_4
            clear hb0
            obtain ⟨zc0, zc1, zc2, zc3, zc4, zc5, zc6, zc7, zc8⟩ := kC.out _ HB_3
            obtain ⟨kS_0, kS_1, kS_2, kS_3, kS_4⟩ := kS.out _ HB_w2_3
            have hbF := below_ext HBw.out HB_3.out
            go_wp2
            go_ret
            exact ⟨(by rw [HF.out]; try rfl), hbF⟩
    · skip
      have hke : k = o.np := by omega
      have HF : Hid (ptsB o.ps o.np = true) := Lib.hid (by rw [← hke]; exact HR.out)
      have hbF := below_ext HBw.out HBr.out
      rw [hke]
      go_wp2
      go_ret
      exact ⟨(by rw [HF.out]; try rfl), hbF⟩
theorem order_any (o : OrdR) (r : Bool) (hr : Hid (ordB o = r)) (w : World) (ho : Hid (OrdOk w o)) :
    Calls Tryd.prog 31 #[orV o] w fun e' w' => e' = .returned (.bool r) ∧ Below w.heap.size w w' := by
  rw [← hr.out]
  unfold ordB
  by_cases h1 : 0 ≤ o.num
  · rw [decide_eq_true h1, Bool.true_and]
    by_cases h2 : o.num < 100
    · rw [decide_eq_true h2, Bool.true_and]
      cases hrs : rsB o.rs with
      | false => exact ord_3 o h1 h2 (Lib.hid hrs) w
      | true =>
        cases hsh : shB o.na o.nz with
        | false => exact ord_4 o h1 h2 (Lib.hid hrs) (Lib.hid hsh) w
        | true =>
          by_cases h3 : o.np ≤ 8
          · rw [decide_eq_true h3]
            by_cases h4 : 0 ≤ o.key
            · rw [decide_eq_true h4]
              exact ord_7 o h1 h2 (Lib.hid hrs) (Lib.hid hsh) h3 h4 w ho
            · rw [decide_eq_false h4]
              exact ord_6 o h1 h2 (Lib.hid hrs) (Lib.hid hsh) h3 h4 w
          · rw [decide_eq_false h3]
            exact ord_5 o h1 h2 (Lib.hid hrs) (Lib.hid hsh) h3 w
    · rw [decide_eq_false h2]
      exact ord_2 o h1 (by omega) w
  · rw [decide_eq_false h1]
    exact ord_1 o (by omega) w
def pIt (p : PartR) : It := .lst [.lst ([p.ix, p.v].map .int), .lst (p.al.map .int), .int p.C, .lst (p.zs.map .int)]
def eIt (E1 E2 : Int) (al : List Int) (C : Int) (zs : List Int) : It := .lst [.lst ([E1, E2].map .int), .lst (al.map .int), .int C, .lst (zs.map .int)]
def oIt (o : OrdR) : It := .lst [.int o.num, .byt (bys o.rs), eIt o.E1 o.E2 o.al o.C o.zs, .lst (o.ps.map pIt), .int o.key]
def i64 (x : Int) : Prop := -9223372036854775808 ≤ x ∧ x < 9223372036854775808
def PartI (p : PartR) : Prop := i64 p.ix ∧ i64 p.v ∧ i64 p.C ∧ (∀ x ∈ p.al, i64 x) ∧ ∀ x ∈ p.zs, i64 x
def OrdI (o : OrdR) : Prop := i64 o.num ∧ i64 o.E1 ∧ i64 o.E2 ∧ i64 o.C ∧ i64 o.key ∧ (∀ x ∈ o.al, i64 x) ∧ (∀ x ∈ o.zs, i64 x) ∧ ∀ p ∈ o.ps, PartI p
theorem fits_il {l : List Int} (h : ∀ x ∈ l, i64 x) (hl : l.length ≤ 1000) : fits 1 (.lst (l.map .int)) :=
  ⟨by rw [List.length_map]; exact hl, fun x hx => by obtain ⟨n, hn, rfl⟩ := List.mem_map.1 hx; exact h n hn⟩
theorem fits_e {E1 E2 C : Int} {al zs : List Int} (h1 : i64 E1) (h2 : i64 E2) (h3 : i64 C) (h4 : ∀ x ∈ al, i64 x) (h5 : ∀ x ∈ zs, i64 x) (la : al.length ≤ 1000) (lz : zs.length ≤ 1000) : fits 2 (eIt E1 E2 al C zs) := by
  refine ⟨by simp, fun x hx => ?_⟩
  simp only [List.mem_cons, List.not_mem_nil, or_false] at hx
  rcases hx with rfl | rfl | rfl | rfl
  · exact fits_il (by intro x hx; simp at hx; rcases hx with rfl | rfl <;> assumption) (by simp)
  · exact fits_il h4 la
  · exact h3
  · exact fits_il h5 lz
theorem encL_il (l : List Int) : (encL (l.map .int)).length = 9 * l.length := by
  induction l with
  | nil => rfl
  | cons a t ih =>
    rw [List.map_cons, show It.int a :: t.map .int = [It.int a] ++ t.map .int from rfl, encL_app, encL_one, List.length_append, ih, enc_int, List.length_cons]
    simp [be8_len]
    omega
theorem enc_il (l : List Int) : (enc (.lst (l.map .int))).length = 5 + 9 * l.length := by
  rw [enc_lst]; simp [be4_len, encL_il]; omega
theorem encL_cons (a : It) (t : List It) : (encL (a :: t)).length = (enc a).length + (encL t).length := by
  rw [show a :: t = [a] ++ t from rfl, encL_app, encL_one, List.length_append]
theorem enc_e (E1 E2 C : Int) (al zs : List Int) : (enc (eIt E1 E2 al C zs)).length = 47 + 9 * al.length + 9 * zs.length := by
  rw [eIt, enc_lst]
  simp only [List.length_cons, List.length_append, be4_len, encL_cons, enc_il, enc_int, be8_len, List.length_nil, show (encL []).length = 0 from rfl]
  omega
theorem encL_ps {ps : List PartR} (h : ∀ p ∈ ps, p.al.length ≤ 20 ∧ p.zs.length ≤ 20) : (encL (ps.map pIt)).length ≤ 407 * ps.length := by
  induction ps with
  | nil => exact Nat.le_refl _
  | cons p t ih =>
    rw [List.map_cons, encL_cons, List.length_cons]
    have h1 := ih fun q hq => h q (List.mem_cons_of_mem _ hq)
    have h2 := h p (List.mem_cons_self ..)
    have h3 : (enc (pIt p)).length = 47 + 9 * p.al.length + 9 * p.zs.length := enc_e _ _ _ _ _
    omega
structure OrdS (o : OrdR) : Prop where
  a : o.al.length ≤ 20
  z : o.zs.length ≤ 20
  n : o.ps.length ≤ 8
  p : ∀ p ∈ o.ps, p.al.length ≤ 20 ∧ p.zs.length ≤ 20
  r0 : 1 ≤ o.rs.size
  r1 : o.rs.size ≤ 200
theorem fits_o {o : OrdR} (h : OrdI o) (hs : OrdS o) : fits 4 (oIt o) := by
  obtain ⟨h1, h2, h3, h4, h5, h6, h7, h8⟩ := h
  refine ⟨by simp, fun x hx => ?_⟩
  simp only [List.mem_cons, List.not_mem_nil, or_false] at hx
  rcases hx with rfl | rfl | rfl | rfl | rfl
  · exact h1
  · exact ⟨⟨by rw [bys_len]; exact hs.r0, by rw [bys_len]; have := hs.r1; omega⟩, bys_bytes _⟩
  · exact fits_mono (fits_e h2 h3 h4 h6 h7 (by have := hs.a; omega) (by have := hs.z; omega)) (by decide)
  · refine ⟨by rw [List.length_map]; have := hs.n; omega, fun x hx => ?_⟩
    obtain ⟨p, hp, rfl⟩ := List.mem_map.1 hx
    obtain ⟨p1, p2, p3, p4, p5⟩ := h8 p hp
    obtain ⟨s1, s2⟩ := hs.p p hp
    exact fits_e p1 p2 p3 p4 p5 (by omega) (by omega)
  · exact h5
theorem enc_o {o : OrdR} (hs : OrdS o) : (enc (oIt o)).length ≤ 4000 := by
  have h1 := encL_ps hs.p
  have h2 := hs.n
  have h3 := hs.a
  have h4 := hs.z
  have h5 := hs.r1
  rw [oIt, enc_lst]
  simp only [List.length_cons, List.length_append, be4_len, encL_cons, enc_e, enc_int, enc_byt, enc_lst, be8_len, List.length_nil, show (encL []).length = 0 from rfl, bys_len]
  omega
theorem itr_nil (L : Option Addr) (c : Nat) {w : World} : ItR w (.lst []) ⟨3, 0, none, 0, 0, L, 0, c⟩ :=
  .lst [] _ rfl rfl rfl rfl (fun _ => default) (fun k hk => absurd hk (by simp)) (fun k hk => absurd hk (by simp))
theorem itr_blk {w : World} {g n c : Nat} {cs : Array Value} {l : List It} (f : Nat → Ic) (h : w.heap[g]? = some (.cells cs 67)) (hl : l.length = n)
    (hc : ∀ k, k < n → cs[k * 4]? = some (.int .i64 (f k).kind) ∧ cs[k * 4 + 1]? = some (.int .i64 (f k).n) ∧ cs[k * 4 + 2]? = some (.slice (f k).B (f k).nb (f k).cb) ∧ cs[k * 4 + 3]? = some (.slice (f k).L (f k).nl (f k).cl))
    (hr : ∀ k, k < n → ItR w (l.getD k default) (f k)) : ItR w (.lst l) ⟨3, 0, none, 0, 0, some ⟨g, 0, none⟩, n, c⟩ :=
  .lst l _ rfl rfl rfl hl.symm f (fun k hk => by
    obtain ⟨h0, h1, h2, h3⟩ := hc k (by omega)
    exact ⟨g, 0, rfl, (cell_blk h _).trans (by rw [Nat.zero_add]; exact h0), (cell_blk h _).trans (by rw [Nat.zero_add]; exact h1), (cell_blk h _).trans (by rw [Nat.zero_add]; exact h2), (cell_blk h _).trans (by rw [Nat.zero_add]; exact h3)⟩) (fun k hk => hr k (by omega))
def ItS (lo : Nat) (w : World) (i : It) (c : Ic) : Prop := ∀ w' : World, (∀ b, lo ≤ b → b < w.heap.size → w'.heap[b]? = w.heap[b]?) → ItR w' i c
theorem ItS.it {lo : Nat} {w : World} {i : It} {c : Ic} (h : ItS lo w i c) : ItR w i c := h w fun _ _ _ => rfl
theorem ItS.kept {lo : Nat} {w w' : World} {i : It} {c : Ic} (h : ItS lo w i c) (hb : Below w.heap.size w w') : ItS lo w' i c :=
  fun w2 hw => h w2 fun b h1 h2 => (hw b h1 (by have := hb.size; omega)).trans (hb.block b h2)
theorem ItS.mono {lo lo' : Nat} {w : World} {i : It} {c : Ic} (h : ItS lo w i c) (hl : lo' ≤ lo) : ItS lo' w i c :=
  fun w2 hw => h w2 fun b h1 h2 => hw b (by omega) h2
theorem ItS.setRow {lo g : Nat} {w : World} {i : It} {c : Ic} (h : ItS lo w i c) (hg : g < lo) (cs : Array Value) : ItS lo (w.setRow g cs) i c :=
  fun w2 hw => h w2 fun b h1 h2 => (hw b h1 (by simpa [World.setRow] using h2)).trans (setRow_other w g b cs (by omega))
theorem ItS.setCell {lo g j : Nat} {w : World} {i : It} {c : Ic} {v : Value} (h : ItS lo w i c) (hg : g < lo) : ItS lo (w.setCell ⟨g, j, none⟩ v) i c :=
  fun w2 hw => h w2 fun b h1 h2 => (hw b h1 (by rw [World.size_setCell]; exact h2)).trans (Go.Deep.blk_setCell_other _ _ _ _ (show b ≠ g by omega))
theorem its_int (lo : Nat) (w : World) (n : Int) : ItS lo w (.int n) (icInt n) := fun _ _ => .int _ _ rfl rfl rfl rfl
theorem cell_agree {w w' : World} {b j : Nat} (h : w'.heap[b]? = w.heap[b]?) : w'.cell? ⟨b, j, none⟩ = w.cell? ⟨b, j, none⟩ := by simp [World.cell?, h]
theorem its_byt {lo g o n c : Nat} {w : World} {l : List Int} (h : Sk .u8 w (some ⟨g, o, none⟩) l) (hg : lo ≤ g) (hn : l.length = n) : ItS lo w (.byt l) (icByt (some ⟨g, o, none⟩) n c) :=
  fun w' hw => itr_byt (fun j hj => by
    obtain ⟨b1, o1, e, hc⟩ := h j hj
    cases e
    exact ⟨_, _, rfl, (cell_agree (hw _ hg (World.block_lt_of_cell? _ _ hc))).trans hc⟩) hn
theorem its_blk {lo g n c : Nat} {w : World} {cs : Array Value} {l : List It} (f : Nat → Ic) (h : w.heap[g]? = some (.cells cs 67)) (hg : lo ≤ g) (hl : l.length = n)
    (hc : ∀ k, k < n → cs[k * 4]? = some (.int .i64 (f k).kind) ∧ cs[k * 4 + 1]? = some (.int .i64 (f k).n) ∧ cs[k * 4 + 2]? = some (.slice (f k).B (f k).nb (f k).cb) ∧ cs[k * 4 + 3]? = some (.slice (f k).L (f k).nl (f k).cl))
    (hr : ∀ k, k < n → ItS lo w (l.getD k default) (f k)) : ItS lo w (.lst l) ⟨3, 0, none, 0, 0, some ⟨g, 0, none⟩, n, c⟩ :=
  fun w' hw => itr_blk f ((hw g hg (Array.getElem?_eq_some_iff.1 h).1).trans h) hl hc fun k hk => hr k hk w' hw
theorem its_nil (lo : Nat) (w : World) (L : Option Addr) (c : Nat) : ItS lo w (.lst []) ⟨3, 0, none, 0, 0, L, 0, c⟩ := fun _ _ => itr_nil L c
theorem ownI_agree {w w' : World} {B : Nat} {v : Value} {cs : List Ic} (h : OwnI w B v cs) (hw : ∀ b, B ≤ b → b < w.heap.size → w'.heap[b]? = w.heap[b]?) : OwnI w' B v cs := by
  obtain ⟨h1, h2⟩ := h
  refine ⟨h1, h2.imp id ?_⟩
  rintro ⟨g, cap, cur, rfl, hg, hh, rest⟩
  exact ⟨g, cap, cur, rfl, hg, (hw g hg (Array.getElem?_eq_some_iff.1 hh).1).trans hh, rest⟩
def ItOutS (i : It) (w : World) (e : Ending) (w' : World) : Prop := ∃ c : Ic, e = .returned c.val ∧ ItS w.heap.size w' i c ∧ Below w.heap.size w w'
theorem ItOutS.it {i : It} {w w' : World} {e : Ending} (h : ItOutS i w e w') : ItOut i w e w' := by
  obtain ⟨c, h1, h2, h3⟩ := h
  exact ⟨c, h1, h2.it, h3⟩
theorem its_ints {w : World} {base lo : Nat} {L : Option Addr} {n cl : Nat} {l : List Int} (h : OwnI w base (.slice L n cl) (l.map icInt)) (hlo : lo ≤ base) : ItS lo w (.lst (l.map .int)) ⟨3, 0, none, 0, 0, L, l.length, cl⟩ := fun w' hw => by
  obtain ⟨L', cl', e, hr⟩ := itr_ints (ownI_agree h fun b h1 h2 => hw b (by omega) h2)
  simp only [Value.slice.injEq] at e
  obtain ⟨rfl, _, rfl⟩ := e
  exact hr
set_option maxHeartbeats 3200000 in
theorem intsS_any (A : Option Addr) (l : List Int) (n c : Nat) (hn : Hid (l.length = n)) (hbig : n ≤ 1000000) (w : World) (hs : Hid (Sl w A l)) :
    Calls Tryd.prog 67 #[.slice A n c] w (ItOutS (.lst (l.map .int)) w) := by
  obtain ⟨i0, hi, hz0, hz1, hz2⟩ := info_parts itemInfo
  obtain ⟨W, hW⟩ : ∃ W, (w.alloc (.cells #[.int .i64 0, .int .i64 0, .slice none 0 0, .slice none 0 0] 67)).alloc (.cells #[.int .i64 3, .int .i64 0, .slice none 0 0, .slice none 0 0] 67) = W := ⟨_, rfl⟩
  have HBX : Hid (Below w.heap.size w W) := Lib.hid (by rw [← hW]; exact below_two (Below.refl _ _))
  have HSZ : Hid (W.heap.size = w.heap.size + 2) := Lib.hid (by rw [← hW]; simp)
  have hF : Four W (w.heap.size + 1) 0 ⟨3, 0, none, 0, 0, none, 0, 0⟩ := by
    rw [← hW]
    have h := heap_alloc2_new w (.cells #[.int .i64 0, .int .i64 0, .slice none 0 0, .slice none 0 0] 67) (.cells #[.int .i64 3, .int .i64 0, .slice none 0 0, .slice none 0 0] 67)
    exact ⟨cell_blk h 0, cell_blk h 1, cell_blk h 2, cell_blk h 3⟩
  have hf0 : ∀ j, W.frozen? ⟨w.heap.size + 1, j, none⟩ = false := by
    rw [← hW]
    exact fun j => frozen_blk (heap_alloc2_new _ _ _) j
  have HG : Hid ((Four W w.heap.size 0 ⟨0, 0, none, 0, 0, none, 0, 0⟩) ∧ ∀ j, W.frozen? ⟨w.heap.size, j, none⟩ = false) := Lib.hid (by
    rw [← hW]
    have h := heap_alloc2_old w (.cells #[.int .i64 0, .int .i64 0, .slice none 0 0, .slice none 0 0] 67) (.cells #[.int .i64 3, .int .i64 0, .slice none 0 0, .slice none 0 0] 67)
    exact ⟨⟨cell_blk h 0, cell_blk h 1, cell_blk h 2, cell_blk h 3⟩, fun j => frozen_blk h j⟩)
  have HGB : Hid (W.heap[w.heap.size]? = some (.cells #[.int .i64 0, .int .i64 0, .slice none 0 0, .slice none 0 0] 67 (0, 0))) := Lib.hid (by rw [← hW]; exact heap_alloc2_old w _ _)
  have HS := Lib.hid hs.out
  have HW := Lib.hid hW
  have HX : Hid (Own W ⟨w.heap.size + 1, 0, none⟩ (.int .i64 3) ∧ Own W ⟨w.heap.size + 1, 1, none⟩ (.int .i64 0) ∧ Own W ⟨w.heap.size + 1, 2, none⟩ (.slice none 0 0)) := Lib.hid ⟨⟨hF.1, hf0 0⟩, ⟨hF.2.1, hf0 1⟩, ⟨hF.2.2.1, hf0 2⟩⟩
  have HL : Hid (Own W ⟨w.heap.size + 1, 3, none⟩ (.slice none 0 0)) := Lib.hid ⟨hF.2.2.2, hf0 3⟩
  clear hW hs hF hf0
  go_enter Tryd.func67, Tryd.ntmps67
  go_wp2
  rw [HW.out]
  go_loopw [9] (fun i u => ∃ (k : Nat) (v : Value), k ≤ n ∧ i = .int .i64 k ∧ Hid (Own u ⟨w.heap.size + 1, 3, none⟩ v) ∧ Hid (OwnI u (w.heap.size + 2) v ((l.take k).map icInt)) ∧ Hid (Own u ⟨w.heap.size + 1, 0, none⟩ (.int .i64 3) ∧ Own u ⟨w.heap.size + 1, 1, none⟩ (.int .i64 0) ∧ Own u ⟨w.heap.size + 1, 2, none⟩ (.slice none 0 0)) ∧ Hid (Below (w.heap.size + 1) W u)) (fun i _ => n - (intOf i).toNat)
  case atStart => exact ⟨0, _, by omega, rfl, HL, Lib.hid (ownI_nil _ _), HX, Lib.hid (Below.refl _ _)⟩
  case round =>
    obtain ⟨k, v, hk, rfl, HV, HO, HX3, HBr⟩ := hrel
    by_cases hlt : k < n
    · have hkl : k < l.length := by rw [hn.out]; exact hlt
      obtain ⟨b, o, hA, hc⟩ := (HS.out.below (HBX.out.trans (HBr.out.mono (Nat.le_succ _)))) k hkl
      subst hA
      have HTK := Lib.hid (icInt_take hkl)
      obtain ⟨x, hx⟩ : ∃ x, l.getD k 0 = x := ⟨_, rfl⟩
      rw [hx] at hc HTK
      have HLN : Hid (((l.take k).map icInt).length = k) := Lib.hid (by rw [List.length_map, List.length_take]; omega)
      have hown : wr.ownsRow (w.heap.size + 2) 67 4 v k (((l.take k).map icInt).flatMap itemCells) := by have h := HO.out; unfold OwnI at h; rwa [HLN.out] at h
      have hbs : w.heap.size + 2 ≤ wr.heap.size := by have := HBr.out.size; have := HSZ.out; omega
      have hno : v.ownBlock ≠ some (w.heap.size + 1) := HO.out.no (by omega)
      obtain ⟨v3, v3f⟩ := HV.out
      have HVA := Lib.hid (HV.out.below (below_box0 wr (.cells #[.int .i64 1, .int .i64 x, .slice none 0 0, .slice none 0 0] 67)))
      have b1 : k + 1 ≤ maxLen := by unfold maxLen; omega
      have b2 : (k + 1) * 64 ≤ 140737488355328 := by omega
      have b3 : w.heap.size + 2 ≤ (wr.alloc (.cells #[.int .i64 1, .int .i64 x, .slice none 0 0, .slice none 0 0] 67)).heap.size := by simp; omega
      clear hx hkl
      go_wp2_with (at_builtin; refine wpList_append_lies rfl _ _ 65 rfl (w.heap.size + 2) 67 i0 (.agg #[.int .i64 0, .int .i64 0, .slice none 0 0, .slice none 0 0]) 4 64 Tryd.underlying65 hi hz0 hz1 hz2 rfl (by decide) _ _ _ rfl (hown.alloc _) ⟨wr.heap.size, 0, none⟩ 1 1 [.int .i64 1, .int .i64 x, .slice none 0 0, .slice none 0 0] rfl rfl (World.news_of_block (cs := #[.int .i64 1, .int .i64 x, .slice none 0 0, .slice none 0 0]) (t := 67) (fr := (0, 0)) (heap_alloc_new wr _)) (by simp [Value.oneCell']) (by decide) b1 b2 b3 _ rfl ?_; intro g2 cap2 w2 hown2 hgrow2 hat2 hlt2; obtain ⟨q1, q2⟩ := own_grown2 HVA.out hgrow2 hno)
      obtain ⟨v', hv'⟩ : ∃ v', Value.slice (some ⟨g2, 0, none⟩) (k + 1) cap2 = v' := ⟨_, rfl⟩
      rw [hv'] at hown2
      have HVE := Lib.hid hv'
      clear hv' hat2 hlt2
      rw [HVE.out]
      have HB2 : Hid (Below (w.heap.size + 1) W w2) := Lib.hid ((HBr.out.alloc (by omega) _).grown hgrow2 (by simp; omega) (fun j hj => by have := (World.ownsRow.lt hown j hj).1; omega))
      have HO2 : Hid (OwnI w2 (w.heap.size + 2) v' ((l.take (k + 1)).map icInt)) := Lib.hid (by
        rw [HTK.out]
        exact OwnI.app HLN.out.symm hown2)
      have a0 := own_grown2 (HX3.out.1.below (below_box0 wr (.cells #[.int .i64 1, .int .i64 x, .slice none 0 0, .slice none 0 0] 67))) hgrow2 hno
      have a1 := own_grown2 (HX3.out.2.1.below (below_box0 wr (.cells #[.int .i64 1, .int .i64 x, .slice none 0 0, .slice none 0 0] 67))) hgrow2 hno
      have a2 := own_grown2 (HX3.out.2.2.below (below_box0 wr (.cells #[.int .i64 1, .int .i64 x, .slice none 0 0, .slice none 0 0] 67))) hgrow2 hno
      have HV4 : Hid (Own (w2.setCell ⟨w.heap.size + 1, 3, none⟩ v') ⟨w.heap.size + 1, 3, none⟩ v') := Lib.hid (own_set_eq2 ⟨q1, q2⟩)
      have HO4 : Hid (OwnI (w2.setCell ⟨w.heap.size + 1, 3, none⟩ v') (w.heap.size + 2) v' ((l.take (k + 1)).map icInt)) := Lib.hid (HO2.out.set (by omega))
      have HX4 : Hid (Own (w2.setCell ⟨w.heap.size + 1, 3, none⟩ v') ⟨w.heap.size + 1, 0, none⟩ (.int .i64 3) ∧ Own (w2.setCell ⟨w.heap.size + 1, 3, none⟩ v') ⟨w.heap.size + 1, 1, none⟩ (.int .i64 0) ∧ Own (w2.setCell ⟨w.heap.size + 1, 3, none⟩ v') ⟨w.heap.size + 1, 2, none⟩ (.slice none 0 0)) :=
        Lib.hid ⟨own_set_ne2 a0 (by simp), own_set_ne2 a1 (by simp), own_set_ne2 a2 (by simp)⟩
      have HB4 : Hid (Below (w.heap.size + 1) W (w2.setCell ⟨w.heap.size + 1, 3, none⟩ v')) := Lib.hid (HB2.out.setCell (Nat.le_refl _) _)
      clear b1 b2 b3 hown hown2 hgrow2 HO HX3 HV v3 v3f q1 q2 a0 a1 a2 HB2 HO2 HVA hc
      go_roundw
      case rel => exact ⟨k + 1, v', by omega, by go_num, HV4, HO4, HX4, HB4⟩
      case measure => simp [intOf]; omega
    · have HO5 : Hid (OwnI wr (w.heap.size + 2) v (l.map icInt)) := Lib.hid (by
        have h := HO.out
        rwa [List.take_of_length_le (by have := hn.out; omega)] at h)
      obtain ⟨L, cl, hLe⟩ := HO5.out.len
      rw [List.length_map, hn.out] at hLe
      subst hLe
      obtain ⟨p0, p0f⟩ := HX3.out.1
      obtain ⟨p1, p1f⟩ := HX3.out.2.1
      obtain ⟨p2, p2f⟩ := HX3.out.2.2
      obtain ⟨p3, p3f⟩ := HV.out
      have HGr := HG.out
      have r0 := (HBr.out.cell (p := ⟨w.heap.size, 0, none⟩) (Nat.lt_succ_self _)).trans HG.out.1.1
      have r1 := (HBr.out.cell (p := ⟨w.heap.size, 1, none⟩) (Nat.lt_succ_self _)).trans HG.out.1.2.1
      have r2 := (HBr.out.cell (p := ⟨w.heap.size, 2, none⟩) (Nat.lt_succ_self _)).trans HG.out.1.2.2.1
      have r3 := (HBr.out.cell (p := ⟨w.heap.size, 3, none⟩) (Nat.lt_succ_self _)).trans HG.out.1.2.2.2
      have z0 := (HBr.out.frozen (p := ⟨w.heap.size, 0, none⟩) (Nat.lt_succ_self _)).trans (HG.out.2 0)
      have z1 := (HBr.out.frozen (p := ⟨w.heap.size, 1, none⟩) (Nat.lt_succ_self _)).trans (HG.out.2 1)
      have z2 := (HBr.out.frozen (p := ⟨w.heap.size, 2, none⟩) (Nat.lt_succ_self _)).trans (HG.out.2 2)
      have z3 := (HBr.out.frozen (p := ⟨w.heap.size, 3, none⟩) (Nat.lt_succ_self _)).trans (HG.out.2 3)
      have HBW := Lib.hid (HBX.out.trans (HBr.out.mono (Nat.le_succ _)))
      clear HX3 HV HO HGr
      obtain ⟨WF, hWF⟩ : ∃ u, (((wr.setCell ⟨w.heap.size, 0, none⟩ (.int .i64 3)).setCell ⟨w.heap.size, 1, none⟩ (.int .i64 0)).setCell ⟨w.heap.size, 2, none⟩ (.slice none 0 0)).setCell ⟨w.heap.size, 3, none⟩ (.slice L n cl) = u := ⟨_, rfl⟩
      have hgB : WF.heap[w.heap.size]? = some (.cells #[.int .i64 3, .int .i64 0, .slice none 0 0, .slice L n cl] 67 (0, 0)) := by
        have h0 := (HBr.out.block w.heap.size (Nat.lt_succ_self _)).trans HGB.out
        rw [← hWF, heap_setCell_same _ _ _ _ _ _ (heap_setCell_same _ _ _ _ _ _ (heap_setCell_same _ _ _ _ _ _ (heap_setCell_same _ _ _ _ _ _ h0)))]
        rfl
      have HO6 : Hid (OwnI WF (w.heap.size + 2) (.slice L n cl) (l.map icInt)) := Lib.hid (by
        rw [← hWF]
        exact (((HO5.out.set (by omega)).set (by omega)).set (by omega)).set (by omega))
      have HBF : Hid (Below w.heap.size w WF) := Lib.hid (by
        rw [← hWF]
        exact (((HBW.out.setCell (Nat.le_refl _) _).setCell (Nat.le_refl _) _).setCell (Nat.le_refl _) _).setCell (Nat.le_refl _) _)
      have hitr := its_ints (lo := w.heap.size) HO6.out (by omega)
      rw [hn.out] at hitr
      have HIT := Lib.hid hitr
      have HLD : Kp ((loadVar 67 ⟨w.heap.size, 0, none⟩).run Tryd.prog WF = .ok (.agg #[.int .i64 3, .int .i64 0, .slice none 0 0, .slice L n cl]) WF) := ⟨run_loadVar_row _ _ _ _ _ _ _ hgB Tryd.underlying67 rfl (by kernel_rfl)⟩
      have HWF := Lib.hid hWF
      clear hitr HO5 HO6 hgB hWF
      go_wp2
      rw [HWF.out]
      exact bodyPost_ret (v := .agg #[.int .i64 3, .int .i64 0, .slice none 0 0, .slice L n cl]) (results_cell1 (p := 2) (ty := 67) rfl _ _ ⟨w.heap.size, 0, none⟩ _ rfl HLD.out) rfl ⟨⟨3, 0, none, 0, 0, L, n, cl⟩, rfl, HIT.out, HBF.out⟩
set_option maxHeartbeats 1600000 in
theorem number_it (n : Int) (w : World) :
    Calls Tryd.prog 54 #[.int .i64 n] w fun e w' => e = .returned (icInt n).val ∧ Below w.heap.size w w' := by
  have HR0 : Hid ((w.alloc (.cells #[.int .i64 0, .int .i64 0, .slice none 0 0, .slice none 0 0] 67)).heap[w.heap.size]? = some (.cells #[.int .i64 0, .int .i64 0, .slice none 0 0, .slice none 0 0] 67 (0, 0))) := Lib.hid (heap_alloc_new _ _)
  go_enter Tryd.func54, Tryd.ntmps54
  go_wp2_with ((with_reducible show wpList _ _ _ (⟨none, _, _, _, _, _⟩ :: _) _ _); refine wpList_store_row rfl 67 _ _ rfl w.heap.size (Ic.cs (icInt n)) rfl rfl _ _ HR0.out (ic_info _) rfl (ic_one _) ?_)
  have hrw := setRow_heap _ _ _ (Ic.cs (icInt n)) _ _ HR0.out
  exact bodyPost_ret (v := (icInt n).val) (results_cell1 (p := 2) (ty := 67) rfl _ _ ⟨w.heap.size, 0, none⟩ _ rfl (run_loadVar_row _ _ _ _ _ _ _ hrw Tryd.underlying67 rfl (ic_info _))) rfl ⟨rfl, below_setRow' (below_box0 _ _) (Nat.le_refl _)⟩
set_option maxHeartbeats 1600000 in
theorem text_it (A : Option Addr) (n c : Nat) (w : World) :
    Calls Tryd.prog 53 #[.slice A n c] w fun e w' => e = .returned (icByt A n c).val ∧ Below w.heap.size w w' := by
  have HR0 : Hid ((w.alloc (.cells #[.int .i64 0, .int .i64 0, .slice none 0 0, .slice none 0 0] 67)).heap[w.heap.size]? = some (.cells #[.int .i64 0, .int .i64 0, .slice none 0 0, .slice none 0 0] 67 (0, 0))) := Lib.hid (heap_alloc_new _ _)
  go_enter Tryd.func53, Tryd.ntmps53
  go_wp2_with ((with_reducible show wpList _ _ _ (⟨none, _, _, _, _, _⟩ :: _) _ _); refine wpList_store_row rfl 67 _ _ rfl w.heap.size (Ic.cs (icByt A n c)) rfl rfl _ _ HR0.out (ic_info _) rfl (ic_one _) ?_)
  have hrw := setRow_heap _ _ _ (Ic.cs (icByt A n c)) _ _ HR0.out
  exact bodyPost_ret (v := (icByt A n c).val) (results_cell1 (p := 2) (ty := 67) rfl _ _ ⟨w.heap.size, 0, none⟩ _ rfl (run_loadVar_row _ _ _ _ _ _ _ hrw Tryd.underlying67 rfl (ic_info _))) rfl ⟨rfl, below_setRow' (below_box0 _ _) (Nat.le_refl _)⟩
set_option maxHeartbeats 1600000 in
theorem list_it (L : Option Addr) (n c : Nat) (w : World) :
    Calls Tryd.prog 52 #[.slice L n c] w fun e w' => e = .returned (Ic.mk 3 0 none 0 0 L n c).val ∧ Below w.heap.size w w' := by
  have HR0 : Hid ((w.alloc (.cells #[.int .i64 0, .int .i64 0, .slice none 0 0, .slice none 0 0] 67)).heap[w.heap.size]? = some (.cells #[.int .i64 0, .int .i64 0, .slice none 0 0, .slice none 0 0] 67 (0, 0))) := Lib.hid (heap_alloc_new _ _)
  go_enter Tryd.func52, Tryd.ntmps52
  go_wp2_with ((with_reducible show wpList _ _ _ (⟨none, _, _, _, _, _⟩ :: _) _ _); refine wpList_store_row rfl 67 _ _ rfl w.heap.size (Ic.cs (Ic.mk 3 0 none 0 0 L n c)) rfl rfl _ _ HR0.out (ic_info _) rfl (ic_one _) ?_)
  have hrw := setRow_heap _ _ _ (Ic.cs (Ic.mk 3 0 none 0 0 L n c)) _ _ HR0.out
  exact bodyPost_ret (v := (Ic.mk 3 0 none 0 0 L n c).val) (results_cell1 (p := 2) (ty := 67) rfl _ _ ⟨w.heap.size, 0, none⟩ _ rfl (run_loadVar_row _ _ _ _ _ _ _ hrw Tryd.underlying67 rfl (ic_info _))) rfl ⟨rfl, below_setRow' (below_box0 _ _) (Nat.le_refl _)⟩
set_option maxHeartbeats 12800000 in
theorem eitem_any (E1 E2 : Int) (A : Option Addr) (na ca : Nat) (al : List Int) (C : Int) (Z : Option Addr) (nz cz : Nat) (zs : List Int) (hna : Hid (al.length = na)) (hnz : Hid (zs.length = nz)) (hb1 : na ≤ 1000) (hb2 : nz ≤ 1000) (w : World) (hA : Hid (Sl w A al)) (hZ : Hid (Sl w Z zs)) :
    Calls Tryd.prog 55 #[esV E1 E2 A na ca C Z nz cz] w (ItOutS (eIt E1 E2 al C zs) w) := by
  obtain ⟨w0, hW⟩ : ∃ W, ((w.alloc (esO E1 E2 A na ca C Z nz cz)).alloc (.cells #[.int .i64 0, .int .i64 0, .slice none 0 0, .slice none 0 0] 67)) = W := ⟨_, rfl⟩
  have HBw : Hid (Below w.heap.size w w0) := Lib.hid (by rw [← hW]; exact below_two (Below.refl _ _))
  have hc : w0.cell? ⟨w.heap.size, 0, none⟩ = some (.int .i64 E1) ∧ w0.cell? ⟨w.heap.size, 1, none⟩ = some (.int .i64 E2) ∧ w0.cell? ⟨w.heap.size, 2, none⟩ = some (.slice A na ca) ∧ w0.cell? ⟨w.heap.size, 3, none⟩ = some (.int .i64 C) ∧ w0.cell? ⟨w.heap.size, 4, none⟩ = some (.slice Z nz cz) ∧ Own w0 ⟨w.heap.size + 1, 0, none⟩ (.int .i64 0) ∧ Own w0 ⟨w.heap.size + 1, 1, none⟩ (.int .i64 0) ∧ Own w0 ⟨w.heap.size + 1, 2, none⟩ (.slice none 0 0) ∧ Own w0 ⟨w.heap.size + 1, 3, none⟩ (.slice none 0 0) := by rw [← hW]; exact ⟨cell_below (allocs_cell (by simp) (by rfl)) (below_box0 _ _), cell_below (allocs_cell (by simp) (by rfl)) (below_box0 _ _), cell_below (allocs_cell (by simp) (by rfl)) (below_box0 _ _), cell_below (allocs_cell (by simp) (by rfl)) (below_box0 _ _), cell_below (allocs_cell (by simp) (by rfl)) (below_box0 _ _), allocs_own (by simp) (by rfl), allocs_own (by simp) (by rfl), allocs_own (by simp) (by rfl), allocs_own (by simp) (by rfl)⟩
  have kC := Lib.hid (show ∀ u : World, Hid (Below w0.heap.size w0 u) → u.cell? ⟨w.heap.size, 0, none⟩ = some (.int .i64 E1) ∧ u.cell? ⟨w.heap.size, 1, none⟩ = some (.int .i64 E2) ∧ u.cell? ⟨w.heap.size, 2, none⟩ = some (.slice A na ca) ∧ u.cell? ⟨w.heap.size, 3, none⟩ = some (.int .i64 C) ∧ u.cell? ⟨w.heap.size, 4, none⟩ = some (.slice Z nz cz) ∧ Own u ⟨w.heap.size + 1, 0, none⟩ (.int .i64 0) ∧ Own u ⟨w.heap.size + 1, 1, none⟩ (.int .i64 0) ∧ Own u ⟨w.heap.size + 1, 2, none⟩ (.slice none 0 0) ∧ Own u ⟨w.heap.size + 1, 3, none⟩ (.slice none 0 0) from fun u h => ⟨cell_below hc.1 h.out, cell_below hc.2.1 h.out, cell_below hc.2.2.1 h.out, cell_below hc.2.2.2.1 h.out, cell_below hc.2.2.2.2.1 h.out, (hc.2.2.2.2.2.1).below h.out, (hc.2.2.2.2.2.2.1).below h.out, (hc.2.2.2.2.2.2.2.1).below h.out, (hc.2.2.2.2.2.2.2.2).below h.out⟩)
  have kA := Lib.hid (show ∀ u : World, Hid (Below w0.heap.size w0 u) → Hid (Sl u A al) from fun u h => Lib.hid ((hA.out.below) (below_ext HBw.out h.out)))
  have kZ := Lib.hid (show ∀ u : World, Hid (Below w0.heap.size w0 u) → Hid (Sl u Z zs) from fun u h => Lib.hid ((hZ.out.below) (below_ext HBw.out h.out)))
  have HB_0 : Hid (Below w0.heap.size w0 w0) := Lib.hid (Below.refl _ _)
  have HW := Lib.hid hW
  have kRB := Lib.hid (show ∀ u : World, Hid (Below w0.heap.size w0 u) → Hid (u.heap[w.heap.size + 1]? = some (.cells #[.int .i64 0, .int .i64 0, .slice none 0 0, .slice none 0 0] 67)) from fun u h => Lib.hid (blk_below (by rw [← hW]; exact heap_alloc2_new _ _ _) h.out))
  clear hW hc hA hZ
  go_enter Tryd.func55, Tryd.ntmps55
  go_wp2_with fail
  rw [HW.out]
  obtain ⟨zc0, zc1, zc2, zc3, zc4, ⟨zc5, zf5⟩, ⟨zc6, zf6⟩, ⟨zc7, zf7⟩, ⟨zc8, zf8⟩⟩ := kC.out _ HB_0
  have HSZ0 : Hid (w0.heap.size = w.heap.size + 2) := Lib.hid (by rw [← HW.out]; simp)
  go_upto_region 1 with (fail)
  clear zc0 zc1 zc2 zc3 zc4 zc5 zf5 zc6 zf6 zc7 zf7 zc8 zf8
  have hBx := Lib.hid (show ∀ u u2 : World, Hid (Below w0.heap.size w0 u) → Below u.heap.size u u2 → Hid (Below w0.heap.size w0 u2) from fun u u2 h1 h2 => Lib.hid (below_ext h1.out h2))
  have hS := Lib.hid (show ∀ u : World, Hid (Below w0.heap.size w0 u) → (u.cell? ⟨w.heap.size, 0, none⟩ = some (.int .i64 E1) ∧ u.cell? ⟨w.heap.size, 1, none⟩ = some (.int .i64 E2) ∧ u.cell? ⟨w.heap.size, 2, none⟩ = some (.slice A na ca) ∧ u.cell? ⟨w.heap.size, 3, none⟩ = some (.int .i64 C) ∧ u.cell? ⟨w.heap.size, 4, none⟩ = some (.slice Z nz cz) ∧ Own u ⟨w.heap.size + 1, 0, none⟩ (.int .i64 0) ∧ Own u ⟨w.heap.size + 1, 1, none⟩ (.int .i64 0) ∧ Own u ⟨w.heap.size + 1, 2, none⟩ (.slice none 0 0) ∧ Own u ⟨w.heap.size + 1, 3, none⟩ (.slice none 0 0)) from fun u h1 => by
    obtain ⟨y0, y1, y2, y3, y4, y5, y6, y7, y8⟩ := kC.out _ (Lib.hid h1.out)
    exact ⟨y0, y1, y2, y3, y4, y5, y6, y7, y8⟩)
  have HBA : Hid (Below w0.heap.size w0 w0) := Lib.hid HB_0.out
  have HBD := hBx.out _ _ HBA (Below.refl _ _).drew
  refine wp_region_T (S := fun w' => w'.cell? ⟨w.heap.size, 0, none⟩ = some (.int .i64 E1) ∧ w'.cell? ⟨w.heap.size, 1, none⟩ = some (.int .i64 E2) ∧ w'.cell? ⟨w.heap.size, 2, none⟩ = some (.slice A na ca) ∧ w'.cell? ⟨w.heap.size, 3, none⟩ = some (.int .i64 C) ∧ w'.cell? ⟨w.heap.size, 4, none⟩ = some (.slice Z nz cz) ∧ Own w' ⟨w.heap.size + 1, 0, none⟩ (.int .i64 0) ∧ Own w' ⟨w.heap.size + 1, 1, none⟩ (.int .i64 0) ∧ Own w' ⟨w.heap.size + 1, 2, none⟩ (.slice none 0 0) ∧ Own w' ⟨w.heap.size + 1, 3, none⟩ (.slice none 0 0)) (E := [20]) (by kernel_rfl) (hS.out _ HBD) (fun hHeld => ?_)
  obtain ⟨wD, hwD⟩ : ∃ u, w0.drew = u := ⟨_, rfl⟩
  rw [hwD] at HBD hHeld ⊢
  have HSZD : Hid (w0.heap.size ≤ wD.heap.size) := Lib.hid (by rw [← hwD]; exact Nat.le_refl _)
  clear hwD
  refine tkV 0 ?_
  try simp only [qq1, qq2, qq3, Act.put, qq4, qq5, qq6]
  refine tkV 1 ?_
  try simp only [qq1, qq2, qq3, Act.put, qq4, qq5, qq6]
  refine tkV 2 ?_
  try simp only [qq1, qq2, qq3, Act.put, qq4, qq5, qq6]
  refine tkV 3 ?_
  try simp only [qq1, qq2, qq3, Act.put, qq4, qq5, qq6]
  refine tkV 6 ?_
  try simp only [qq1, qq2, qq3, Act.put, qq4, qq5, qq6]
  refine tkV 7 ?_
  try simp only [qq1, qq2, qq3, Act.put, qq4, qq5, qq6]
  refine tkV 8 ?_
  try simp only [qq1, qq2, qq3, Act.put, qq4, qq5, qq6]
  refine tkV 10 ?_
  try simp only [qq1, qq2, qq3, Act.put, qq4, qq5, qq6]
  refine tkV 11 ?_
  try simp only [qq1, qq2, qq3, Act.put, qq4, qq5, qq6]
  refine tkV 12 ?_
  try simp only [qq1, qq2, qq3, Act.put, qq4, qq5, qq6]
  refine tkV 13 ?_
  try simp only [qq1, qq2, qq3, Act.put, qq4, qq5, qq6]
  refine tkV 14 ?_
  try simp only [qq1, qq2, qq3, Act.put, qq4, qq5, qq6]
  refine tkV 15 ?_
  try simp only [qq1, qq2, qq3, Act.put, qq4, qq5, qq6]
  refine tkV 16 ?_
  try simp only [qq1, qq2, qq3, Act.put, qq4, qq5, qq6]
  refine wpT_frame (fun T a0 hT ha0 => ?_)
  clear hHeld
  have G4_5_9_17_18 : ∀ (gE : Nat) (cE : Ic) (cA : Ic) (cZ : Ic) (gL : Nat) (u : World), (Hid (Below w0.heap.size w0 u)) → (Hid (IB2 u gE (E1) (E2))) → (Hid (ItS w0.heap.size u (.lst ([E1, E2].map .int)) cE)) → (Hid (ItS w0.heap.size u (.lst ((al).map .int)) cA)) → (Hid (ItS w0.heap.size u (.lst ((zs).map .int)) cZ)) → (Hid (u.heap[gL]? = some (.cells #[.int .i64 cE.kind, .int .i64 cE.n, .slice cE.B cE.nb cE.cb, .slice cE.L cE.nl cE.cl, .int .i64 cA.kind, .int .i64 cA.n, .slice cA.B cA.nb cA.cb, .slice cA.L cA.nl cA.cl, .int .i64 1, .int .i64 C, .slice none 0 0, .slice none 0 0, .int .i64 cZ.kind, .int .i64 cZ.n, .slice cZ.B cZ.nb cZ.cb, .slice cZ.L cZ.nl cZ.cl] 67))) → (Hid (w0.heap.size ≤ gL)) → T 2 #[true, true, true, true, true, true, true, true, true, true, true, true, true, true, true, true, true, true, true, false, false] (((((a0.put (some 7) (.slice (some ⟨gE, 0, none⟩) 2 2)).put (some 8) (.agg #[.int .i64 cE.kind, .int .i64 cE.n, .slice cE.B cE.nb cE.cb, .slice cE.L cE.nl cE.cl])).put (some 12) (.agg #[.int .i64 cA.kind, .int .i64 cA.n, .slice cA.B cA.nb cA.cb, .slice cA.L cA.nl cA.cl])).put (some 20) (.agg #[.int .i64 cZ.kind, .int .i64 cZ.n, .slice cZ.B cZ.nb cZ.cb, .slice cZ.L cZ.nl cZ.cl])).put (some 21) (.slice (some ⟨gL, 0, none⟩) 4 4)) u := by
    intro gE cE cA cZ gL u FB FE HE HA HZ FL FLl
    have hHeld := hS.out _ FB
    rw [hT, ha0]
    try simp only [qq1, qq2, qq3, Act.put, qq4, qq5, qq6]
    have HE_w0 := Lib.hid FB.out
    refine tkV 19 ?_
    try simp only [qq1, qq2, qq3, Act.put, qq4, qq5, qq6]
    have FNIL := kRB.out _ (Lib.hid FB.out)
    refine wpT_pass (i := 20) (by kernel_rfl) (by simp) rfl (fun K hK => ?_)
    rw [show (if Region.wanted _ _ = true then _ else _ : Prop) = _ from if_pos rfl]
    refine wp_store_row 67 _ _ rfl (w.heap.size + 1) (Ic.cs ⟨3, 0, none, 0, 0, some ⟨gL, 0, none⟩, 4, 4⟩) rfl rfl 67 _ FNIL.out (ic_info _) rfl (ic_one _) ?_
    refine hK.out _ _ ?_
    clear hK K
    try simp only [qq1, qq2, qq3, Act.put, qq4, qq5, qq6]
    refine wpT_done (by kernel_rfl) ?_ _
    have hit : ItS w0.heap.size u (eIt E1 E2 al C zs) ⟨3, 0, none, 0, 0, some ⟨gL, 0, none⟩, 4, 4⟩ := its_blk (fun k => match k with | 0 => cE | 1 => cA | 2 => icInt C | _ => cZ) FL.out FLl.out rfl (fun k hk => by
        rcases (show k = 0 ∨ k = 1 ∨ k = 2 ∨ k = 3 by omega) with rfl | rfl | rfl | rfl <;> exact ⟨rfl, rfl, rfl, rfl⟩) (fun k hk => by
        rcases (show k = 0 ∨ k = 1 ∨ k = 2 ∨ k = 3 by omega) with rfl | rfl | rfl | rfl
        · exact HE.out
        · exact HA.out
        · exact its_int _ _ _
        · exact HZ.out)
    have hit2 := (hit.setRow (g := w.heap.size + 1) (by have := HSZ0.out; omega) (Ic.cs ⟨3, 0, none, 0, 0, some ⟨gL, 0, none⟩, 4, 4⟩)).mono (lo' := w.heap.size) (by have := HSZ0.out; omega)
    have hbF := below_setRow' (below_ext HBw.out FB.out) (cs := Ic.cs ⟨3, 0, none, 0, 0, some ⟨gL, 0, none⟩, 4, 4⟩) (Nat.le_add_right w.heap.size 1)
    have hrw := setRow_heap _ _ _ (Ic.cs ⟨3, 0, none, 0, 0, some ⟨gL, 0, none⟩, 4, 4⟩) _ _ FNIL.out
    go_wp2
    exact bodyPost_ret (v := (Ic.mk 3 0 none 0 0 (some ⟨gL, 0, none⟩) 4 4).val) (results_cell1 (p := 2) (ty := 67) rfl _ _ ⟨w.heap.size + 1, 0, none⟩ _ rfl (run_loadVar_row _ _ _ _ _ _ _ hrw Tryd.underlying67 rfl (ic_info _))) rfl ⟨_, rfl, hit2, hbF⟩
  have G4_5_9_17 : ∀ (gE : Nat) (cE : Ic) (cA : Ic) (cZ : Ic) (u : World), (Hid (Below w0.heap.size w0 u)) → (Hid (IB2 u gE (E1) (E2))) → (Hid (ItS w0.heap.size u (.lst ([E1, E2].map .int)) cE)) → (Hid (ItS w0.heap.size u (.lst ((al).map .int)) cA)) → (Hid (ItS w0.heap.size u (.lst ((zs).map .int)) cZ)) → T 3 #[true, true, true, true, true, true, true, true, true, true, true, true, true, true, true, true, true, true, false, false, false] ((((a0.put (some 7) (.slice (some ⟨gE, 0, none⟩) 2 2)).put (some 8) (.agg #[.int .i64 cE.kind, .int .i64 cE.n, .slice cE.B cE.nb cE.cb, .slice cE.L cE.nl cE.cl])).put (some 12) (.agg #[.int .i64 cA.kind, .int .i64 cA.n, .slice cA.B cA.nb cA.cb, .slice cA.L cA.nl cA.cl])).put (some 20) (.agg #[.int .i64 cZ.kind, .int .i64 cZ.n, .slice cZ.B cZ.nb cZ.cb, .slice cZ.L cZ.nl cZ.cl])) u := by
    intro gE cE cA cZ u FB FE HE HA HZ
    have hHeld := hS.out _ FB
    rw [hT, ha0]
    try simp only [qq1, qq2, qq3, Act.put, qq4, qq5, qq6]
    refine wpT_one (i := 18) (by kernel_rfl) rfl (fun K hK => ?_)
    go_simp
    have FB2 := hBx.out _ _ FB (below_box0 u (.cells #[.int .i64 cE.kind, .int .i64 cE.n, .slice cE.B cE.nb cE.cb, .slice cE.L cE.nl cE.cl, .int .i64 cA.kind, .int .i64 cA.n, .slice cA.B cA.nb cA.cb, .slice cA.L cA.nl cA.cl, .int .i64 1, .int .i64 C, .slice none 0 0, .slice none 0 0, .int .i64 cZ.kind, .int .i64 cZ.n, .slice cZ.B cZ.nb cZ.cb, .slice cZ.L cZ.nl cZ.cl] 67))
    refine hK.out _ _ ?_ (fun hHeld => ?_)
    · exact hS.out _ FB2
    clear hK K hHeld
    try simp only [qq1, qq2, qq3, Act.put, qq4, qq5, qq6]
    have hG := G4_5_9_17_18 gE cE cA cZ u.heap.size (u.alloc (.cells #[.int .i64 cE.kind, .int .i64 cE.n, .slice cE.B cE.nb cE.cb, .slice cE.L cE.nl cE.cl, .int .i64 cA.kind, .int .i64 cA.n, .slice cA.B cA.nb cA.cb, .slice cA.L cA.nl cA.cl, .int .i64 1, .int .i64 C, .slice none 0 0, .slice none 0 0, .int .i64 cZ.kind, .int .i64 cZ.n, .slice cZ.B cZ.nb cZ.cb, .slice cZ.L cZ.nl cZ.cl] 67)) FB2 (Lib.hid (FE.out.below (below_box0 u (.cells #[.int .i64 cE.kind, .int .i64 cE.n, .slice cE.B cE.nb cE.cb, .slice cE.L cE.nl cE.cl, .int .i64 cA.kind, .int .i64 cA.n, .slice cA.B cA.nb cA.cb, .slice cA.L cA.nl cA.cl, .int .i64 1, .int .i64 C, .slice none 0 0, .slice none 0 0, .int .i64 cZ.kind, .int .i64 cZ.n, .slice cZ.B cZ.nb cZ.cb, .slice cZ.L cZ.nl cZ.cl] 67)))) (Lib.hid (HE.out.kept (below_box0 u (.cells #[.int .i64 cE.kind, .int .i64 cE.n, .slice cE.B cE.nb cE.cb, .slice cE.L cE.nl cE.cl, .int .i64 cA.kind, .int .i64 cA.n, .slice cA.B cA.nb cA.cb, .slice cA.L cA.nl cA.cl, .int .i64 1, .int .i64 C, .slice none 0 0, .slice none 0 0, .int .i64 cZ.kind, .int .i64 cZ.n, .slice cZ.B cZ.nb cZ.cb, .slice cZ.L cZ.nl cZ.cl] 67)))) (Lib.hid (HA.out.kept (below_box0 u (.cells #[.int .i64 cE.kind, .int .i64 cE.n, .slice cE.B cE.nb cE.cb, .slice cE.L cE.nl cE.cl, .int .i64 cA.kind, .int .i64 cA.n, .slice cA.B cA.nb cA.cb, .slice cA.L cA.nl cA.cl, .int .i64 1, .int .i64 C, .slice none 0 0, .slice none 0 0, .int .i64 cZ.kind, .int .i64 cZ.n, .slice cZ.B cZ.nb cZ.cb, .slice cZ.L cZ.nl cZ.cl] 67)))) (Lib.hid (HZ.out.kept (below_box0 u (.cells #[.int .i64 cE.kind, .int .i64 cE.n, .slice cE.B cE.nb cE.cb, .slice cE.L cE.nl cE.cl, .int .i64 cA.kind, .int .i64 cA.n, .slice cA.B cA.nb cA.cb, .slice cA.L cA.nl cA.cl, .int .i64 1, .int .i64 C, .slice none 0 0, .slice none 0 0, .int .i64 cZ.kind, .int .i64 cZ.n, .slice cZ.B cZ.nb cZ.cb, .slice cZ.L cZ.nl cZ.cl] 67)))) (Lib.hid (heap_alloc_new u _)) (Lib.hid (by have := FB.out.size; omega))
    rw [hT, ha0] at hG
    (try simp only [qq1, qq2, qq3, Act.put, qq4, qq5, qq6] at hG)
    exact hG
  have G4_5_9 : ∀ (gE : Nat) (cE : Ic) (cA : Ic) (u : World), (Hid (Below w0.heap.size w0 u)) → (Hid (IB2 u gE (E1) (E2))) → (Hid (ItS w0.heap.size u (.lst ([E1, E2].map .int)) cE)) → (Hid (ItS w0.heap.size u (.lst ((al).map .int)) cA)) → T 4 #[true, true, true, true, true, true, true, true, true, true, true, true, true, true, true, true, true, false, false, false, false] (((a0.put (some 7) (.slice (some ⟨gE, 0, none⟩) 2 2)).put (some 8) (.agg #[.int .i64 cE.kind, .int .i64 cE.n, .slice cE.B cE.nb cE.cb, .slice cE.L cE.nl cE.cl])).put (some 12) (.agg #[.int .i64 cA.kind, .int .i64 cA.n, .slice cA.B cA.nb cA.cb, .slice cA.L cA.nl cA.cl])) u := by
    intro gE cE cA u FB FE HE HA
    have hHeld := hS.out _ FB
    rw [hT, ha0]
    try simp only [qq1, qq2, qq3, Act.put, qq4, qq5, qq6]
    refine wpT_one (i := 17) (by kernel_rfl) rfl (fun K hK => ?_)
    go_simp
    refine (intsS_any Z zs nz cz hnz (by omega) _ (kZ.out _ (Lib.hid FB.out))).mono ?_
    rintro e wB ⟨cB, rfl, hit, hq⟩
    have FB2 := hBx.out _ _ FB hq
    refine hK.out _ _ ?_ (fun hHeld => ?_)
    · exact hS.out _ FB2
    clear hK K hHeld
    try simp only [qq1, qq2, qq3, Act.put, qq4, qq5, qq6]
    have hG := G4_5_9_17 gE cE cA cB wB FB2 (Lib.hid (FE.out.below hq)) (Lib.hid (HE.out.kept hq)) (Lib.hid (HA.out.kept hq)) (Lib.hid (hit.mono (by have := FB.out.size; omega)))
    rw [hT, ha0] at hG
    (try simp only [qq1, qq2, qq3, Act.put, qq4, qq5, qq6] at hG)
    exact hG
  have G4_5 : ∀ (gE : Nat) (cE : Ic) (u : World), (Hid (Below w0.heap.size w0 u)) → (Hid (IB2 u gE (E1) (E2))) → (Hid (ItS w0.heap.size u (.lst ([E1, E2].map .int)) cE)) → T 5 #[true, true, true, true, true, true, true, true, true, false, true, true, true, true, true, true, true, false, false, false, false] ((a0.put (some 7) (.slice (some ⟨gE, 0, none⟩) 2 2)).put (some 8) (.agg #[.int .i64 cE.kind, .int .i64 cE.n, .slice cE.B cE.nb cE.cb, .slice cE.L cE.nl cE.cl])) u := by
    intro gE cE u FB FE HE
    have hHeld := hS.out _ FB
    rw [hT, ha0]
    try simp only [qq1, qq2, qq3, Act.put, qq4, qq5, qq6]
    refine wpT_one (i := 9) (by kernel_rfl) rfl (fun K hK => ?_)
    go_simp
    refine (intsS_any A al na ca hna (by omega) _ (kA.out _ (Lib.hid FB.out))).mono ?_
    rintro e wB ⟨cB, rfl, hit, hq⟩
    have FB2 := hBx.out _ _ FB hq
    refine hK.out _ _ ?_ (fun hHeld => ?_)
    · exact hS.out _ FB2
    clear hK K hHeld
    try simp only [qq1, qq2, qq3, Act.put, qq4, qq5, qq6]
    have hG := G4_5_9 gE cE cB wB FB2 (Lib.hid (FE.out.below hq)) (Lib.hid (HE.out.kept hq)) (Lib.hid (hit.mono (by have := FB.out.size; omega)))
    rw [hT, ha0] at hG
    (try simp only [qq1, qq2, qq3, Act.put, qq4, qq5, qq6] at hG)
    exact hG
  have G4 : ∀ (gE : Nat) (u : World), (Hid (Below w0.heap.size w0 u)) → (Hid (IB2 u gE (E1) (E2))) → T 6 #[true, true, true, true, true, false, true, true, true, false, true, true, true, true, true, true, true, false, false, false, false] (a0.put (some 7) (.slice (some ⟨gE, 0, none⟩) 2 2)) u := by
    intro gE u FB FE
    have hHeld := hS.out _ FB
    rw [hT, ha0]
    try simp only [qq1, qq2, qq3, Act.put, qq4, qq5, qq6]
    refine wpT_one (i := 5) (by kernel_rfl) rfl (fun K hK => ?_)
    go_simp
    refine (intsS_any (some ⟨gE, 0, none⟩) [E1, E2] 2 2 (Lib.hid rfl) (by omega) _ (Lib.hid FE.out.sl)).mono ?_
    rintro e wB ⟨cB, rfl, hit, hq⟩
    have FB2 := hBx.out _ _ FB hq
    refine hK.out _ _ ?_ (fun hHeld => ?_)
    · exact hS.out _ FB2
    clear hK K hHeld
    try simp only [qq1, qq2, qq3, Act.put, qq4, qq5, qq6]
    have hG := G4_5 gE cB wB FB2 (Lib.hid (FE.out.below hq)) (Lib.hid (hit.mono (by have := FB.out.size; omega)))
    rw [hT, ha0] at hG
    (try simp only [qq1, qq2, qq3, Act.put, qq4, qq5, qq6] at hG)
    exact hG
  have G0 : ∀  (u : World), (Hid (Below w0.heap.size w0 u)) → T 7 #[true, true, true, true, false, false, true, true, true, false, true, true, true, true, true, true, true, false, false, false, false] a0 u := by
    intro  u FB
    have hHeld := hS.out _ FB
    rw [hT, ha0]
    try simp only [qq1, qq2, qq3, Act.put, qq4, qq5, qq6]
    refine wpT_one (i := 4) (by kernel_rfl) rfl (fun K hK => ?_)
    go_simp
    have FB2 := hBx.out _ _ FB (below_box0 u (.cells #[.int .i64 (E1), .int .i64 (E2)] 3))
    refine hK.out _ _ ?_ (fun hHeld => ?_)
    · exact hS.out _ FB2
    clear hK K hHeld
    try simp only [qq1, qq2, qq3, Act.put, qq4, qq5, qq6]
    have hG := G4 u.heap.size (u.alloc (.cells #[.int .i64 (E1), .int .i64 (E2)] 3)) FB2 (Lib.hid (IB2.new u (E1) (E2)))
    rw [hT, ha0] at hG
    (try simp only [qq1, qq2, qq3, Act.put, qq4, qq5, qq6] at hG)
    exact hG
  exact G0 _ HBD
def ItG (g : Option Nat) (lo : Nat) (w : World) (i : It) (c : Ic) : Prop := ∀ w' : World, (∀ b, lo ≤ b → b < w.heap.size → g ≠ some b → w'.heap[b]? = w.heap[b]?) → ItR w' i c
theorem ItS.g {lo lo' : Nat} {g : Option Nat} {w : World} {i : It} {c : Ic} (h : ItS lo' w i c) (hl : lo ≤ lo') (hg : ∀ b, g = some b → b < lo') : ItG g lo w i c :=
  fun w' hw => h w' fun b h1 h2 => hw b (by omega) h2 (fun e => by have := hg b e; omega)
theorem ItG.s {lo : Nat} {g : Option Nat} {w : World} {i : It} {c : Ic} (h : ItG g lo w i c) : ItS lo w i c := fun w' hw => h w' fun b h1 h2 _ => hw b h1 h2
theorem ItG.kept {lo : Nat} {g : Option Nat} {w w' : World} {i : It} {c : Ic} (h : ItG g lo w i c) (hb : Below w.heap.size w w') : ItG g lo w' i c :=
  fun w2 hw => h w2 fun b h1 h2 h3 => (hw b h1 (by have := hb.size; omega) h3).trans (hb.block b h2)
theorem ItG.grown {lo : Nat} {g g' : Option Nat} {w w1 : World} {i : It} {c : Ic} (h : ItG g lo w i c) (hgr : w.grownBy w1 g) (hz : w.heap.size ≤ w1.heap.size) (hg : ∀ b, g' = some b → g = some b ∨ w.heap.size ≤ b) : ItG g' lo w1 i c :=
  fun w2 hw => h w2 fun b h1 h2 h3 => (hw b h1 (by omega) (fun e => by rcases hg b e with e2 | e2; exact h3 e2; omega)).trans (hgr.block b h2 (fun e => h3 e.symm))
theorem ItG.setCell {lo a j : Nat} {g : Option Nat} {w : World} {i : It} {c : Ic} {v : Value} (h : ItG g lo w i c) (ha : a < lo) : ItG g lo (w.setCell ⟨a, j, none⟩ v) i c :=
  fun w2 hw => h w2 fun b h1 h2 h3 => (hw b h1 (by rw [World.size_setCell]; exact h2) h3).trans (Go.Deep.blk_setCell_other _ _ _ _ (show b ≠ a by omega))
theorem its_own {w : World} {base lo n : Nat} {v : Value} {cs : List Ic} {l : List It} (h : OwnI w base v cs) (hc : cs.length = n) (hl : l.length = n) (hlo : lo ≤ base) (hr : ∀ k, k < n → ItS lo w (l.getD k default) (cs.getD k default)) :
    ∃ L cl, v = .slice L n cl ∧ ItS lo w (.lst l) ⟨3, 0, none, 0, 0, L, n, cl⟩ := by
  by_cases h0 : 0 < n
  · obtain ⟨g, cap, e, _⟩ := h.four (by omega)
    rw [hc] at e
    refine ⟨_, _, e, fun w' hw => ?_⟩
    obtain ⟨g', cap', e', hr'⟩ := itr_list (ownI_agree h fun b h1 h2 => hw b (by omega) h2) hc hl h0 fun k hk => hr k hk w' hw
    rw [e] at e'
    simp only [Value.slice.injEq, Option.some.injEq, Addr.mk.injEq] at e'
    obtain ⟨⟨rfl, -⟩, -, rfl⟩ := e'
    exact hr'
  · obtain rfl : n = 0 := by omega
    obtain rfl : l = [] := List.eq_nil_of_length_eq_zero hl
    obtain ⟨L, cl, hv⟩ := h.len
    rw [hc] at hv
    exact ⟨L, cl, hv, its_nil _ _ _ _⟩
theorem getP_mem {ps : List PartR} {k : Nat} (h : k < ps.length) : ps.getD k noPart ∈ ps := by
  rw [List.getD_eq_getElem?_getD, List.getElem?_eq_getElem h]; exact List.getElem_mem _
set_option maxHeartbeats 51200000 in
theorem item_any (o : OrdR) (hs : OrdS o) (w : World) (ho : Hid (OrdOk w o)) :
    Calls Tryd.prog 58 #[orV o] w (ItOutS (oIt o) w) := by
  obtain ⟨w0, hW⟩ : ∃ W, ((w.alloc (orO o)).alloc (.cells #[.int .i64 0, .int .i64 0, .slice none 0 0, .slice none 0 0] 67)) = W := ⟨_, rfl⟩
  have HBw : Hid (Below w.heap.size w w0) := Lib.hid (by rw [← hW]; exact below_two (Below.refl _ _))
  have hc : w0.cell? ⟨w.heap.size, 0, none⟩ = some (.int .i64 o.num) ∧ w0.cell? ⟨w.heap.size, 1, none⟩ = some (.string o.rs) ∧ w0.cell? ⟨w.heap.size, 2, none⟩ = some (.int .i64 o.E1) ∧ w0.cell? ⟨w.heap.size, 3, none⟩ = some (.int .i64 o.E2) ∧ w0.cell? ⟨w.heap.size, 4, none⟩ = some (.slice o.A o.na o.ca) ∧ w0.cell? ⟨w.heap.size, 5, none⟩ = some (.int .i64 o.C) ∧ w0.cell? ⟨w.heap.size, 6, none⟩ = some (.slice o.Z o.nz o.cz) ∧ w0.cell? ⟨w.heap.size, 7, none⟩ = some (.slice o.L o.np o.cp) ∧ w0.cell? ⟨w.heap.size, 8, none⟩ = some (.int .i64 o.key) ∧ Own w0 ⟨w.heap.size + 1, 0, none⟩ (.int .i64 0) ∧ Own w0 ⟨w.heap.size + 1, 1, none⟩ (.int .i64 0) ∧ Own w0 ⟨w.heap.size + 1, 2, none⟩ (.slice none 0 0) ∧ Own w0 ⟨w.heap.size + 1, 3, none⟩ (.slice none 0 0) := by rw [← hW]; exact ⟨cell_below (allocs_cell (by simp) (by rfl)) (below_box0 _ _), cell_below (allocs_cell (by simp) (by rfl)) (below_box0 _ _), cell_below (allocs_cell (by simp) (by rfl)) (below_box0 _ _), cell_below (allocs_cell (by simp) (by rfl)) (below_box0 _ _), cell_below (allocs_cell (by simp) (by rfl)) (below_box0 _ _), cell_below (allocs_cell (by simp) (by rfl)) (below_box0 _ _), cell_below (allocs_cell (by simp) (by rfl)) (below_box0 _ _), cell_below (allocs_cell (by simp) (by rfl)) (below_box0 _ _), cell_below (allocs_cell (by simp) (by rfl)) (below_box0 _ _), allocs_own (by simp) (by rfl), allocs_own (by simp) (by rfl), allocs_own (by simp) (by rfl), allocs_own (by simp) (by rfl)⟩
  have kC := Lib.hid (show ∀ u : World, Hid (Below w0.heap.size w0 u) → u.cell? ⟨w.heap.size, 0, none⟩ = some (.int .i64 o.num) ∧ u.cell? ⟨w.heap.size, 1, none⟩ = some (.string o.rs) ∧ u.cell? ⟨w.heap.size, 2, none⟩ = some (.int .i64 o.E1) ∧ u.cell? ⟨w.heap.size, 3, none⟩ = some (.int .i64 o.E2) ∧ u.cell? ⟨w.heap.size, 4, none⟩ = some (.slice o.A o.na o.ca) ∧ u.cell? ⟨w.heap.size, 5, none⟩ = some (.int .i64 o.C) ∧ u.cell? ⟨w.heap.size, 6, none⟩ = some (.slice o.Z o.nz o.cz) ∧ u.cell? ⟨w.heap.size, 7, none⟩ = some (.slice o.L o.np o.cp) ∧ u.cell? ⟨w.heap.size, 8, none⟩ = some (.int .i64 o.key) ∧ Own u ⟨w.heap.size + 1, 0, none⟩ (.int .i64 0) ∧ Own u ⟨w.heap.size + 1, 1, none⟩ (.int .i64 0) ∧ Own u ⟨w.heap.size + 1, 2, none⟩ (.slice none 0 0) ∧ Own u ⟨w.heap.size + 1, 3, none⟩ (.slice none 0 0) from fun u h => ⟨cell_below hc.1 h.out, cell_below hc.2.1 h.out, cell_below hc.2.2.1 h.out, cell_below hc.2.2.2.1 h.out, cell_below hc.2.2.2.2.1 h.out, cell_below hc.2.2.2.2.2.1 h.out, cell_below hc.2.2.2.2.2.2.1 h.out, cell_below hc.2.2.2.2.2.2.2.1 h.out, cell_below hc.2.2.2.2.2.2.2.2.1 h.out, (hc.2.2.2.2.2.2.2.2.2.1).below h.out, (hc.2.2.2.2.2.2.2.2.2.2.1).below h.out, (hc.2.2.2.2.2.2.2.2.2.2.2.1).below h.out, (hc.2.2.2.2.2.2.2.2.2.2.2.2).below h.out⟩)
  have kO := Lib.hid (show ∀ u : World, Hid (Below w0.heap.size w0 u) → Hid (OrdOk u o) from fun u h => Lib.hid ((ho.out.below) (below_ext HBw.out h.out)))
  have HB_0 : Hid (Below w0.heap.size w0 w0) := Lib.hid (Below.refl _ _)
  have HW := Lib.hid hW
  have kRB := Lib.hid (show ∀ u : World, Hid (Below w0.heap.size w0 u) → Hid (u.heap[w.heap.size + 1]? = some (.cells #[.int .i64 0, .int .i64 0, .slice none 0 0, .slice none 0 0] 67)) from fun u h => Lib.hid (blk_below (by rw [← hW]; exact heap_alloc2_new _ _ _) h.out))
  clear hW hc ho
  go_enter Tryd.func58, Tryd.ntmps58
  go_wp2_with fail
  rw [HW.out]
  obtain ⟨zc0, zc1, zc2, zc3, zc4, zc5, zc6, zc7, zc8, ⟨zc9, zf9⟩, ⟨zc10, zf10⟩, ⟨zc11, zf11⟩, ⟨zc12, zf12⟩⟩ := kC.out _ HB_0
  have HSZ0 : Hid (w0.heap.size = w.heap.size + 2) := Lib.hid (by rw [← HW.out]; simp)
  go_wp2_with fail
  refine (list_it none 0 0 _).mono ?_
  rintro e w1 ⟨rfl, hb0⟩
  rw [show (Ic.mk 3 0 none 0 0 none 0 0).val = .agg #[.int .i64 3, .int .i64 0, .slice none 0 0, .slice none 0 0] from rfl]
  have HB_1 := Lib.hid (below_ext HB_0.out hb0)
  clear zc0 zc1 zc2 zc3 zc4 zc5 zc6 zc7 zc8 zc9 zf9 zc10 zf10 zc11 zf11 zc12 zf12
  clear hb0
  obtain ⟨zc0, zc1, zc2, zc3, zc4, zc5, zc6, zc7, zc8, ⟨zc9, zf9⟩, ⟨zc10, zf10⟩, ⟨zc11, zf11⟩, ⟨zc12, zf12⟩⟩ := kC.out _ HB_1
  clear zc0 zc1 zc2 zc3 zc4 zc5 zc6 zc7 zc8 zc9 zf9 zc10 zf10 zc11 zf11 zc12 zf12
  have HBl := HB_1
  have hq0 := below_box0 w1 (.cells #[.int .i64 3, .int .i64 0, .slice none 0 0, .slice none 0 0] 67)
  have HB_2 := Lib.hid (below_ext HB_1.out hq0)
  clear hq0
  obtain ⟨zc0, zc1, zc2, zc3, zc4, zc5, zc6, zc7, zc8, ⟨zc9, zf9⟩, ⟨zc10, zf10⟩, ⟨zc11, zf11⟩, ⟨zc12, zf12⟩⟩ := kC.out _ HB_2
  go_wp2
  clear zc0 zc1 zc2 zc3 zc4 zc5 zc6 zc7 zc8 zc9 zf9 zc10 zf10 zc11 zf11 zc12 zf12
  obtain ⟨W, hW⟩ : ∃ x, w1.alloc (.cells #[.int .i64 3, .int .i64 0, .slice none 0 0, .slice none 0 0] 67) = x := ⟨_, rfl⟩
  rw [hW] at HB_2
  have HBX := HB_2
  obtain ⟨B, hB⟩ : ∃ x, w1.heap.size = x := ⟨_, rfl⟩
  have HSB : Hid (W.heap.size = B + 1 ∧ w0.heap.size ≤ B) := Lib.hid ⟨by rw [← hW, ← hB]; simp, by rw [← hB]; exact HBl.out.size⟩
  have hbk : W.heap[B]? = some (.cells #[.int .i64 3, .int .i64 0, .slice none 0 0, .slice none 0 0] 67) := by rw [← hW, ← hB]; exact heap_alloc_new _ _
  have HV0 : Hid (Own W ⟨B, 3, none⟩ (.slice none 0 0)) := Lib.hid ⟨cell_blk hbk 3, frozen_blk hbk 3⟩
  have HX0 : Hid (Own W ⟨B, 0, none⟩ (.int .i64 3) ∧ Own W ⟨B, 1, none⟩ (.int .i64 0) ∧ Own W ⟨B, 2, none⟩ (.slice none 0 0)) := Lib.hid ⟨⟨cell_blk hbk 0, frozen_blk hbk 0⟩, ⟨cell_blk hbk 1, frozen_blk hbk 1⟩, ⟨cell_blk hbk 2, frozen_blk hbk 2⟩⟩
  rw [hW, hB]
  clear hW hbk HBl
  obtain ⟨i0, hi, hz0, hz1, hz2⟩ := info_parts itemInfo
  obtain ⟨⟨okn, okc⟩, ok8⟩ : (o.ps.length = o.np ∧ o.np ≤ o.cp) ∧ o.ps.length ≤ 8 := ⟨((kO.out _ HBX).out).2.2.1, hs.n⟩
  go_loopw [10] (fun i u => ∃ (k : Nat) (v : Value) (cs : List Ic), k ≤ o.np ∧ i = .int .i64 k ∧ Hid (cs.length = k) ∧ Hid (Own u ⟨B, 3, none⟩ v) ∧ Hid (Own u ⟨B, 0, none⟩ (.int .i64 3) ∧ Own u ⟨B, 1, none⟩ (.int .i64 0) ∧ Own u ⟨B, 2, none⟩ (.slice none 0 0)) ∧ Hid (OwnI u (B + 1) v cs) ∧ Hid (∀ j, j < k → ItG v.ownBlock (B + 1) u (pIt (o.ps.getD j noPart)) (cs.getD j default)) ∧ Hid (Below B W u)) (fun i _ => o.np - (intOf i).toNat)
  case atStart => exact ⟨0, _, [], by omega, rfl, Lib.hid rfl, HV0, HX0, Lib.hid (ownI_nil _ _), Lib.hid (fun j h => absurd h (by omega)), Lib.hid (Below.refl _ _)⟩
  case round =>
    obtain ⟨k, v, cs, hk, rfl, HCL, HV, HX3, HO, HG, HBr⟩ := hrel
    have HBr0 : Hid (Below w0.heap.size w0 wr) := Lib.hid (HBX.out.trans (HBr.out.mono HSB.out.2))
    by_cases hlt : k < o.np
    · skip
      have hkl : k < o.ps.length := by rw [okn]; exact hlt
      obtain ⟨b, f, hA, j0, j1, j2, j3, j4, j5⟩ := (kO.out _ HBr0).out.2.2.2.2.2 k hkl
      have HLA := Lib.hid hA
      have hps := hs.p _ (getP_mem hkl)
      obtain ⟨p, hp⟩ : ∃ p, o.ps.getD k noPart = p := ⟨_, rfl⟩
      have HPP := Lib.hid hp
      rw [hp] at j0 j1 j2 j3 j4 j5 hps
      obtain ⟨x1, x2, x3, x4⟩ := j5
      have HNA := Lib.hid x1
      have HNZ := Lib.hid x2
      have HSA := Lib.hid x3
      have HSZ := Lib.hid x4
      obtain ⟨hps1, hps2⟩ := hps
      have bna : p.na ≤ 20 := by rw [← x1]; exact hps1
      have bnz : p.nz ≤ 20 := by rw [← x2]; exact hps2
      obtain ⟨v3, v3f⟩ := HV.out
      clear hp hA hkl x1 x2 x3 x4 hps1 hps2
      rw [HLA.out]
      have HB_wr_2 : Hid (Below wr.heap.size wr wr) := Lib.hid (Below.refl _ _)
      have kPA := Lib.hid (show ∀ u : World, Hid (Below wr.heap.size wr u) → Hid (Sl u p.A p.al) from fun u h => Lib.hid (HSA.out.below h.out))
      have kPZ := Lib.hid (show ∀ u : World, Hid (Below wr.heap.size wr u) → Hid (Sl u p.Z p.zs) from fun u h => Lib.hid (HSZ.out.below h.out))
      obtain ⟨zc0, zc1, zc2, zc3, zc4, zc5, zc6, zc7, zc8, ⟨zc9, zf9⟩, ⟨zc10, zf10⟩, ⟨zc11, zf11⟩, ⟨zc12, zf12⟩⟩ := kC.out _ HBr0
      have kX := Lib.hid (show ∀ u : World, Hid (Below wr.heap.size wr u) → u.cell? ⟨B, 3, none⟩ = some v from fun u h => cell_below HV.out.1 h.out)
      have hq := below_box0 wr (ptO p)
      have HB_3 := Lib.hid (below_ext HBr0.out hq)
      have HB_wr_3 := Lib.hid (below_ext HB_wr_2.out hq)
      have hc : (wr.alloc (ptO p)).cell? ⟨wr.heap.size, 0, none⟩ = some (.int .i64 p.ix) ∧ (wr.alloc (ptO p)).cell? ⟨wr.heap.size, 1, none⟩ = some (.int .i64 p.v) ∧ (wr.alloc (ptO p)).cell? ⟨wr.heap.size, 2, none⟩ = some (.slice p.A p.na p.ca) ∧ (wr.alloc (ptO p)).cell? ⟨wr.heap.size, 3, none⟩ = some (.int .i64 p.C) ∧ (wr.alloc (ptO p)).cell? ⟨wr.heap.size, 4, none⟩ = some (.slice p.Z p.nz p.cz) := ⟨allocs_cell rfl (by rfl), allocs_cell rfl (by rfl), allocs_cell rfl (by rfl), allocs_cell rfl (by rfl), allocs_cell rfl (by rfl)⟩
      have HC3 := Lib.hid hc
      clear hq
      obtain ⟨zc0x, zc1x, zc2x, zc3x, zc4x, zc5x, zc6x, zc7x, zc8x, ⟨zc9x, zf9x⟩, ⟨zc10x, zf10x⟩, ⟨zc11x, zf11x⟩, ⟨zc12x, zf12x⟩⟩ := kC.out _ HB_3
      have kX_0x := kX.out _ HB_wr_3
      obtain ⟨zq0, zq1, zq2, zq3, zq4⟩ := hc
      go_upto_region 5 with (fail)
      obtain ⟨w3, hw⟩ : ∃ x, (wr.alloc (ptO p)) = x := ⟨_, rfl⟩
      rw [hw] at HC3 HB_3 HB_wr_3 ⊢
      have HSN3 : Hid (w3.heap.size = wr.heap.size + 1) := Lib.hid (by rw [← hw]; simp)
      clear zc0 zc1 zc2 zc3 zc4 zc5 zc6 zc7 zc8 zc9 zf9 zc10 zf10 zc11 zf11 zc12 zf12 zc0x zc1x zc2x zc3x zc4x zc5x zc6x zc7x zc8x zc9x zf9x zc10x zf10x zc11x zf11x zc12x zf12x kX_0x zq0 zq1 zq2 zq3 zq4
      clear hw
      have HB_w3_3 : Hid (Below w3.heap.size w3 w3) := Lib.hid (Below.refl _ _)
      have kS := Lib.hid (show ∀ u : World, Hid (Below w3.heap.size w3 u) → u.cell? ⟨wr.heap.size, 0, none⟩ = some (.int .i64 p.ix) ∧ u.cell? ⟨wr.heap.size, 1, none⟩ = some (.int .i64 p.v) ∧ u.cell? ⟨wr.heap.size, 2, none⟩ = some (.slice p.A p.na p.ca) ∧ u.cell? ⟨wr.heap.size, 3, none⟩ = some (.int .i64 p.C) ∧ u.cell? ⟨wr.heap.size, 4, none⟩ = some (.slice p.Z p.nz p.cz) from fun u h => ⟨cell_below HC3.out.1 h.out, cell_below HC3.out.2.1 h.out, cell_below HC3.out.2.2.1 h.out, cell_below HC3.out.2.2.2.1 h.out, cell_below HC3.out.2.2.2.2 h.out⟩)
      obtain ⟨zc0, zc1, zc2, zc3, zc4, zc5, zc6, zc7, zc8, ⟨zc9, zf9⟩, ⟨zc10, zf10⟩, ⟨zc11, zf11⟩, ⟨zc12, zf12⟩⟩ := kC.out _ HB_3
      have kX_0 := kX.out _ HB_wr_3
      obtain ⟨kS_0, kS_1, kS_2, kS_3, kS_4⟩ := kS.out _ HB_w3_3
      clear j0 j1 j2 j3 j4 v3 v3f
      clear zc0 zc1 zc2 zc3 zc4 zc5 zc6 zc7 zc8 zc9 zf9 zc10 zf10 zc11 zf11 zc12 zf12 kX_0 kS_0 kS_1 kS_2 kS_3 kS_4
      obtain ⟨zc0, zc1, zc2, zc3, zc4, zc5, zc6, zc7, zc8, ⟨zc9, zf9⟩, ⟨zc10, zf10⟩, ⟨zc11, zf11⟩, ⟨zc12, zf12⟩⟩ := kC.out _ HB_3
      have kX_0 := kX.out _ HB_wr_3
      obtain ⟨kS_0, kS_1, kS_2, kS_3, kS_4⟩ := kS.out _ HB_w3_3
      clear zc0 zc1 zc2 zc3 zc4 zc5 zc6 zc7 zc8 zc9 zf9 zc10 zf10 zc11 zf11 zc12 zf12 kX_0 kS_0 kS_1 kS_2 kS_3 kS_4
      have hBx := Lib.hid (show ∀ u u2 : World, Hid (Below w0.heap.size w0 u ∧ Below wr.heap.size wr u ∧ Below w3.heap.size w3 u) → Below u.heap.size u u2 → Hid (Below w0.heap.size w0 u2 ∧ Below wr.heap.size wr u2 ∧ Below w3.heap.size w3 u2) from fun u u2 h1 h2 => Lib.hid ⟨(below_ext h1.out.1 h2), (below_ext h1.out.2.1 h2), (below_ext h1.out.2.2 h2)⟩)
      have hS := Lib.hid (show ∀ u : World, Hid (Below w0.heap.size w0 u ∧ Below wr.heap.size wr u ∧ Below w3.heap.size w3 u) → (u.cell? ⟨w.heap.size, 0, none⟩ = some (.int .i64 o.num) ∧ u.cell? ⟨w.heap.size, 1, none⟩ = some (.string o.rs) ∧ u.cell? ⟨w.heap.size, 2, none⟩ = some (.int .i64 o.E1) ∧ u.cell? ⟨w.heap.size, 3, none⟩ = some (.int .i64 o.E2) ∧ u.cell? ⟨w.heap.size, 4, none⟩ = some (.slice o.A o.na o.ca) ∧ u.cell? ⟨w.heap.size, 5, none⟩ = some (.int .i64 o.C) ∧ u.cell? ⟨w.heap.size, 6, none⟩ = some (.slice o.Z o.nz o.cz) ∧ u.cell? ⟨w.heap.size, 7, none⟩ = some (.slice o.L o.np o.cp) ∧ u.cell? ⟨w.heap.size, 8, none⟩ = some (.int .i64 o.key) ∧ Own u ⟨w.heap.size + 1, 0, none⟩ (.int .i64 0) ∧ Own u ⟨w.heap.size + 1, 1, none⟩ (.int .i64 0) ∧ Own u ⟨w.heap.size + 1, 2, none⟩ (.slice none 0 0) ∧ Own u ⟨w.heap.size + 1, 3, none⟩ (.slice none 0 0) ∧ u.cell? ⟨B, 3, none⟩ = some v ∧ u.cell? ⟨wr.heap.size, 0, none⟩ = some (.int .i64 p.ix) ∧ u.cell? ⟨wr.heap.size, 1, none⟩ = some (.int .i64 p.v) ∧ u.cell? ⟨wr.heap.size, 2, none⟩ = some (.slice p.A p.na p.ca) ∧ u.cell? ⟨wr.heap.size, 3, none⟩ = some (.int .i64 p.C) ∧ u.cell? ⟨wr.heap.size, 4, none⟩ = some (.slice p.Z p.nz p.cz)) from fun u h1 => by
        obtain ⟨y0, y1, y2, y3, y4, y5, y6, y7, y8, y9, y10, y11, y12⟩ := kC.out _ (Lib.hid h1.out.1)
        have kX_0 := kX.out _ (Lib.hid h1.out.2.1)
        obtain ⟨kS_0, kS_1, kS_2, kS_3, kS_4⟩ := kS.out _ (Lib.hid h1.out.2.2)
        exact ⟨y0, y1, y2, y3, y4, y5, y6, y7, y8, y9, y10, y11, y12, kX_0, kS_0, kS_1, kS_2, kS_3, kS_4⟩)
      have HBA : Hid (Below w0.heap.size w0 w3 ∧ Below wr.heap.size wr w3 ∧ Below w3.heap.size w3 w3) := Lib.hid ⟨HB_3.out, HB_wr_3.out, HB_w3_3.out⟩
      have HBD := hBx.out _ _ HBA (Below.refl _ _).drew
      refine wp_region_T (S := fun w' => w'.cell? ⟨w.heap.size, 0, none⟩ = some (.int .i64 o.num) ∧ w'.cell? ⟨w.heap.size, 1, none⟩ = some (.string o.rs) ∧ w'.cell? ⟨w.heap.size, 2, none⟩ = some (.int .i64 o.E1) ∧ w'.cell? ⟨w.heap.size, 3, none⟩ = some (.int .i64 o.E2) ∧ w'.cell? ⟨w.heap.size, 4, none⟩ = some (.slice o.A o.na o.ca) ∧ w'.cell? ⟨w.heap.size, 5, none⟩ = some (.int .i64 o.C) ∧ w'.cell? ⟨w.heap.size, 6, none⟩ = some (.slice o.Z o.nz o.cz) ∧ w'.cell? ⟨w.heap.size, 7, none⟩ = some (.slice o.L o.np o.cp) ∧ w'.cell? ⟨w.heap.size, 8, none⟩ = some (.int .i64 o.key) ∧ Own w' ⟨w.heap.size + 1, 0, none⟩ (.int .i64 0) ∧ Own w' ⟨w.heap.size + 1, 1, none⟩ (.int .i64 0) ∧ Own w' ⟨w.heap.size + 1, 2, none⟩ (.slice none 0 0) ∧ Own w' ⟨w.heap.size + 1, 3, none⟩ (.slice none 0 0) ∧ w'.cell? ⟨B, 3, none⟩ = some v ∧ w'.cell? ⟨wr.heap.size, 0, none⟩ = some (.int .i64 p.ix) ∧ w'.cell? ⟨wr.heap.size, 1, none⟩ = some (.int .i64 p.v) ∧ w'.cell? ⟨wr.heap.size, 2, none⟩ = some (.slice p.A p.na p.ca) ∧ w'.cell? ⟨wr.heap.size, 3, none⟩ = some (.int .i64 p.C) ∧ w'.cell? ⟨wr.heap.size, 4, none⟩ = some (.slice p.Z p.nz p.cz)) (E := [23, 24, 25]) (by kernel_rfl) (hS.out _ HBD) (fun hHeld => ?_)
      obtain ⟨wD, hwD⟩ : ∃ u, w3.drew = u := ⟨_, rfl⟩
      rw [hwD] at HBD hHeld ⊢
      have HSZD : Hid (w3.heap.size ≤ wD.heap.size) := Lib.hid (by rw [← hwD]; exact Nat.le_refl _)
      clear hwD
      refine tkV 0 ?_
      try simp only [qq1, qq2, qq3, Act.put, qq4, qq5, qq6]
      refine tkV 1 ?_
      try simp only [qq1, qq2, qq3, Act.put, qq4, qq5, qq6]
      refine tkV 2 ?_
      try simp only [qq1, qq2, qq3, Act.put, qq4, qq5, qq6]
      refine tkV 3 ?_
      try simp only [qq1, qq2, qq3, Act.put, qq4, qq5, qq6]
      refine tkV 4 ?_
      try simp only [qq1, qq2, qq3, Act.put, qq4, qq5, qq6]
      refine tkV 5 ?_
      try simp only [qq1, qq2, qq3, Act.put, qq4, qq5, qq6]
      refine tkV 8 ?_
      try simp only [qq1, qq2, qq3, Act.put, qq4, qq5, qq6]
      refine tkV 9 ?_
      try simp only [qq1, qq2, qq3, Act.put, qq4, qq5, qq6]
      refine tkV 10 ?_
      try simp only [qq1, qq2, qq3, Act.put, qq4, qq5, qq6]
      refine tkV 12 ?_
      try simp only [qq1, qq2, qq3, Act.put, qq4, qq5, qq6]
      refine tkV 13 ?_
      try simp only [qq1, qq2, qq3, Act.put, qq4, qq5, qq6]
      refine tkV 14 ?_
      try simp only [qq1, qq2, qq3, Act.put, qq4, qq5, qq6]
      refine tkV 16 ?_
      try simp only [qq1, qq2, qq3, Act.put, qq4, qq5, qq6]
      refine tkV 17 ?_
      try simp only [qq1, qq2, qq3, Act.put, qq4, qq5, qq6]
      refine tkV 18 ?_
      try simp only [qq1, qq2, qq3, Act.put, qq4, qq5, qq6]
      refine wpT_frame (fun T a0 hT ha0 => ?_)
      clear hHeld
      have G6_7_11_15_19_20_21_22 : ∀ (gE : Nat) (cE : Ic) (cA : Ic) (cZ : Ic) (gL : Nat) (gO : Nat) (u : World), (Hid (Below w0.heap.size w0 u ∧ Below wr.heap.size wr u ∧ Below w3.heap.size w3 u)) → (Hid (IB2 u gE (p.ix) (p.v))) → (Hid (ItS w3.heap.size u (.lst ([p.ix, p.v].map .int)) cE)) → (Hid (ItS w3.heap.size u (.lst ((p.al).map .int)) cA)) → (Hid (ItS w3.heap.size u (.lst ((p.zs).map .int)) cZ)) → (Hid (u.heap[gL]? = some (.cells #[.int .i64 cE.kind, .int .i64 cE.n, .slice cE.B cE.nb cE.cb, .slice cE.L cE.nl cE.cl, .int .i64 cA.kind, .int .i64 cA.n, .slice cA.B cA.nb cA.cb, .slice cA.L cA.nl cA.cl, .int .i64 1, .int .i64 p.C, .slice none 0 0, .slice none 0 0, .int .i64 cZ.kind, .int .i64 cZ.n, .slice cZ.B cZ.nb cZ.cb, .slice cZ.L cZ.nl cZ.cl] 67))) → (Hid (w3.heap.size ≤ gL)) → (Hid (u.heap[gO]? = some (.cells #[.int .i64 3, .int .i64 0, .slice none 0 0, .slice (some ⟨gL, 0, none⟩) 4 4] 67))) → T 3 #[true, true, true, true, true, true, true, true, true, true, true, true, true, true, true, true, true, true, true, true, true, true, true, false, false, false] ((((((((a0.put (some 20) (.slice (some ⟨gE, 0, none⟩) 2 2)).put (some 21) (.agg #[.int .i64 cE.kind, .int .i64 cE.n, .slice cE.B cE.nb cE.cb, .slice cE.L cE.nl cE.cl])).put (some 25) (.agg #[.int .i64 cA.kind, .int .i64 cA.n, .slice cA.B cA.nb cA.cb, .slice cA.L cA.nl cA.cl])).put (some 29) (.agg #[.int .i64 1, .int .i64 (p.C), .slice none 0 0, .slice none 0 0])).put (some 33) (.agg #[.int .i64 cZ.kind, .int .i64 cZ.n, .slice cZ.B cZ.nb cZ.cb, .slice cZ.L cZ.nl cZ.cl])).put (some 34) (.slice (some ⟨gL, 0, none⟩) 4 4)).put (some 35) (.agg #[.int .i64 3, .int .i64 (0), .slice none 0 0, .slice (some ⟨gL, 0, none⟩) 4 4])).put (some 36) (.slice (some ⟨gO, 0, none⟩) 1 1)) u := by
        intro gE cE cA cZ gL gO u FB FE HE HA HZ FL FLl FO
        have hHeld := hS.out _ FB
        rw [hT, ha0]
        try simp only [qq1, qq2, qq3, Act.put, qq4, qq5, qq6]
        have HE_w0 := Lib.hid FB.out.1
        have HE_wr := Lib.hid FB.out.2.1
        have HE_w3 := Lib.hid FB.out.2.2
        have hit : ItS w3.heap.size u (pIt p) (Ic.mk 3 0 none 0 0 (some ⟨gL, 0, none⟩) 4 4) := its_blk (fun k => match k with | 0 => cE | 1 => cA | 2 => icInt p.C | _ => cZ) FL.out FLl.out rfl (fun k hk => by
            rcases (show k = 0 ∨ k = 1 ∨ k = 2 ∨ k = 3 by omega) with rfl | rfl | rfl | rfl <;> exact ⟨rfl, rfl, rfl, rfl⟩) (fun k hk => by
            rcases (show k = 0 ∨ k = 1 ∨ k = 2 ∨ k = 3 by omega) with rfl | rfl | rfl | rfl
            · exact HE.out
            · exact HA.out
            · exact its_int _ _ _
            · exact HZ.out)
        have hown : u.ownsRow (B + 1) 67 4 v k (cs.flatMap itemCells) := by
          have h := HO.out.keep FB.out.2.1
          unfold OwnI at h
          rwa [HCL.out] at h
        have hbz := FB.out.1.size
        have hWr := HBr.out.size
        have hno : v.ownBlock ≠ some B := HO.out.no (by omega)
        have hvq := HV.out.below FB.out.2.1
        have hsb := HSB.out
        have hwrz := FB.out.2.1.size
        have hwnz := FB.out.2.2.size
        have hwr1 := HSN3.out
        refine wpT_pass (i := 23) (by kernel_rfl) (by simp) rfl (fun K hK => ?_)
        refine step_append_lies _ (by rfl) _ _ _ (by rfl) (B + 1) 67 i0 _ 4 64 Tryd.underlying65 hi hz0 hz1 hz2 rfl (by omega) v k (cs.flatMap itemCells) (by rfl) hown ⟨gO, 0, none⟩ 1 1 [.int .i64 3, .int .i64 0, .slice none 0 0, .slice (some ⟨gL, 0, none⟩) 4 4] (by rfl) (by rfl) (World.news_of_block (cs := #[.int .i64 3, .int .i64 0, .slice none 0 0, .slice (some ⟨gL, 0, none⟩) 4 4]) (t := 67) (fr := (0, 0)) FO.out) (by simp [Value.oneCell']) (by omega) (by unfold maxLen; omega) (by omega) (by omega) u.heap.size rfl ?_
        intro gg cap wz hown1 hgrow hgg hlt2
        have HVz := own_grown2 hvq hgrow hno
        have HVY := HVz
        obtain ⟨p2, f2⟩ := HVY
        refine hK.out _ _ ?_
        clear hK K
        try simp only [qq1, qq2, qq3, Act.put, qq4, qq5, qq6]
        refine wpT_pass (i := 24) (by kernel_rfl) (by simp) rfl (fun K hK => ?_)
        go_simp
        refine hK.out _ _ ?_
        clear hK K
        try simp only [qq1, qq2, qq3, Act.put, qq4, qq5, qq6]
        refine wpT_pass (i := 25) (by kernel_rfl) (by simp) rfl (fun K hK => ?_)
        go_simp
        refine hK.out _ _ ?_
        clear hK K
        try simp only [qq1, qq2, qq3, Act.put, qq4, qq5, qq6]
        refine wpT_done (by kernel_rfl) ?_ _
        clear hHeld hT ha0
        have hgz : u.heap.size ≤ wz.heap.size := hgrow.size
        have HO4 : Hid (OwnI (wz.setCell ⟨B, 3, none⟩ (.slice (some ⟨gg, 0, none⟩) (k + 1) cap)) (B + 1) (.slice (some ⟨gg, 0, none⟩) (k + 1) cap) (cs ++ [(Ic.mk 3 0 none 0 0 (some ⟨gL, 0, none⟩) 4 4)])) := Lib.hid ((OwnI.app HCL.out.symm (by simpa [itemCells] using hown1)).set (by omega))
        have HV4 : Hid (Own (wz.setCell ⟨B, 3, none⟩ (.slice (some ⟨gg, 0, none⟩) (k + 1) cap)) ⟨B, 3, none⟩ (.slice (some ⟨gg, 0, none⟩) (k + 1) cap)) := Lib.hid (own_set_eq2 HVz)
        have HX4 : Hid (Own (wz.setCell ⟨B, 3, none⟩ (.slice (some ⟨gg, 0, none⟩) (k + 1) cap)) ⟨B, 0, none⟩ (.int .i64 3) ∧ Own (wz.setCell ⟨B, 3, none⟩ (.slice (some ⟨gg, 0, none⟩) (k + 1) cap)) ⟨B, 1, none⟩ (.int .i64 0) ∧ Own (wz.setCell ⟨B, 3, none⟩ (.slice (some ⟨gg, 0, none⟩) (k + 1) cap)) ⟨B, 2, none⟩ (.slice none 0 0)) := Lib.hid ⟨own_set_ne2 (own_grown2 (HX3.out.1.below FB.out.2.1) hgrow hno) (by simp), own_set_ne2 (own_grown2 (HX3.out.2.1.below FB.out.2.1) hgrow hno) (by simp), own_set_ne2 (own_grown2 (HX3.out.2.2.below FB.out.2.1) hgrow hno) (by simp)⟩
        have hgg2 : ∀ b, ((.slice (some ⟨gg, 0, none⟩) (k + 1) cap) : Value).ownBlock = some b → v.ownBlock = some b ∨ u.heap.size ≤ b := fun b e => by
          cases e
          rcases hgg with e | e
          · exact Or.inl e
          · exact Or.inr (show u.heap.size ≤ gg by omega)
        have hown_lt : ∀ b, v.ownBlock = some b → b < wr.heap.size := fun b e => (World.ownsRow.lt HO.out b e).2
        have HG4 : Hid (∀ j, j < k + 1 → ItG ((.slice (some ⟨gg, 0, none⟩) (k + 1) cap) : Value).ownBlock (B + 1) (wz.setCell ⟨B, 3, none⟩ (.slice (some ⟨gg, 0, none⟩) (k + 1) cap)) (pIt (o.ps.getD j noPart)) ((cs ++ [(Ic.mk 3 0 none 0 0 (some ⟨gL, 0, none⟩) 4 4)]).getD j default)) := Lib.hid (fun j hj => by
          by_cases e : j = k
          · subst e
            rw [HPP.out, show (cs ++ [((Ic.mk 3 0 none 0 0 (some ⟨gL, 0, none⟩) 4 4) : Ic)]).getD j default = (Ic.mk 3 0 none 0 0 (some ⟨gL, 0, none⟩) 4 4) by rw [List.getD_eq_getElem?_getD, List.getElem?_append_right (by rw [HCL.out]; exact Nat.le_refl _), HCL.out, Nat.sub_self]; rfl]
            exact ((hit.g (lo := B + 1) (by omega) (fun b e => by have := hown_lt b e; omega)).grown hgrow hgz hgg2).setCell (by omega)
          · rw [show (cs ++ [((Ic.mk 3 0 none 0 0 (some ⟨gL, 0, none⟩) 4 4) : Ic)]).getD j default = cs.getD j default by rw [List.getD_eq_getElem?_getD, List.getElem?_append_left (by rw [HCL.out]; omega), ← List.getD_eq_getElem?_getD]]
            exact (((HG.out j (by omega)).kept FB.out.2.1).grown hgrow hgz hgg2).setCell (by omega))
        have HB4 : Hid (Below B W (wz.setCell ⟨B, 3, none⟩ (.slice (some ⟨gg, 0, none⟩) (k + 1) cap))) := Lib.hid (((HBr.out.trans (FB.out.2.1.mono (by omega))).grown hgrow (by omega) (fun j hj => by have := (World.ownsRow.lt HO.out j hj).1; omega)).setCell (Nat.le_refl _) _)
        have HCL4 : Hid ((cs ++ [((Ic.mk 3 0 none 0 0 (some ⟨gL, 0, none⟩) 4 4) : Ic)]).length = k + 1) := Lib.hid (by rw [List.length_append, HCL.out]; rfl)
        clear hown hvq hown1 hgrow hgg hlt2 HVz p2 f2 hgg2 hown_lt hit
        go_wp2
        go_roundw
        case rel => exact ⟨k + 1, _, _, by omega, by go_num, HCL4, HV4, HX4, HO4, HG4, HB4⟩
        case measure => simp [intOf]; omega
      have G6_7_11_15_19_20_21 : ∀ (gE : Nat) (cE : Ic) (cA : Ic) (cZ : Ic) (gL : Nat) (u : World), (Hid (Below w0.heap.size w0 u ∧ Below wr.heap.size wr u ∧ Below w3.heap.size w3 u)) → (Hid (IB2 u gE (p.ix) (p.v))) → (Hid (ItS w3.heap.size u (.lst ([p.ix, p.v].map .int)) cE)) → (Hid (ItS w3.heap.size u (.lst ((p.al).map .int)) cA)) → (Hid (ItS w3.heap.size u (.lst ((p.zs).map .int)) cZ)) → (Hid (u.heap[gL]? = some (.cells #[.int .i64 cE.kind, .int .i64 cE.n, .slice cE.B cE.nb cE.cb, .slice cE.L cE.nl cE.cl, .int .i64 cA.kind, .int .i64 cA.n, .slice cA.B cA.nb cA.cb, .slice cA.L cA.nl cA.cl, .int .i64 1, .int .i64 p.C, .slice none 0 0, .slice none 0 0, .int .i64 cZ.kind, .int .i64 cZ.n, .slice cZ.B cZ.nb cZ.cb, .slice cZ.L cZ.nl cZ.cl] 67))) → (Hid (w3.heap.size ≤ gL)) → T 4 #[true, true, true, true, true, true, true, true, true, true, true, true, true, true, true, true, true, true, true, true, true, true, false, false, false, false] (((((((a0.put (some 20) (.slice (some ⟨gE, 0, none⟩) 2 2)).put (some 21) (.agg #[.int .i64 cE.kind, .int .i64 cE.n, .slice cE.B cE.nb cE.cb, .slice cE.L cE.nl cE.cl])).put (some 25) (.agg #[.int .i64 cA.kind, .int .i64 cA.n, .slice cA.B cA.nb cA.cb, .slice cA.L cA.nl cA.cl])).put (some 29) (.agg #[.int .i64 1, .int .i64 (p.C), .slice none 0 0, .slice none 0 0])).put (some 33) (.agg #[.int .i64 cZ.kind, .int .i64 cZ.n, .slice cZ.B cZ.nb cZ.cb, .slice cZ.L cZ.nl cZ.cl])).put (some 34) (.slice (some ⟨gL, 0, none⟩) 4 4)).put (some 35) (.agg #[.int .i64 3, .int .i64 (0), .slice none 0 0, .slice (some ⟨gL, 0, none⟩) 4 4])) u := by
        intro gE cE cA cZ gL u FB FE HE HA HZ FL FLl
        have hHeld := hS.out _ FB
        rw [hT, ha0]
        try simp only [qq1, qq2, qq3, Act.put, qq4, qq5, qq6]
        refine wpT_one (i := 22) (by kernel_rfl) rfl (fun K hK => ?_)
        go_simp
        have FB2 := hBx.out _ _ FB (below_box0 u (.cells #[.int .i64 3, .int .i64 0, .slice none 0 0, .slice (some ⟨gL, 0, none⟩) 4 4] 67))
        refine hK.out _ _ ?_ (fun hHeld => ?_)
        · exact hS.out _ FB2
        clear hK K hHeld
        try simp only [qq1, qq2, qq3, Act.put, qq4, qq5, qq6]
        have hG := G6_7_11_15_19_20_21_22 gE cE cA cZ gL u.heap.size (u.alloc (.cells #[.int .i64 3, .int .i64 0, .slice none 0 0, .slice (some ⟨gL, 0, none⟩) 4 4] 67)) FB2 (Lib.hid (FE.out.below (below_box0 u (.cells #[.int .i64 3, .int .i64 0, .slice none 0 0, .slice (some ⟨gL, 0, none⟩) 4 4] 67)))) (Lib.hid (HE.out.kept (below_box0 u (.cells #[.int .i64 3, .int .i64 0, .slice none 0 0, .slice (some ⟨gL, 0, none⟩) 4 4] 67)))) (Lib.hid (HA.out.kept (below_box0 u (.cells #[.int .i64 3, .int .i64 0, .slice none 0 0, .slice (some ⟨gL, 0, none⟩) 4 4] 67)))) (Lib.hid (HZ.out.kept (below_box0 u (.cells #[.int .i64 3, .int .i64 0, .slice none 0 0, .slice (some ⟨gL, 0, none⟩) 4 4] 67)))) (Lib.hid (blk_below FL.out (below_box0 u (.cells #[.int .i64 3, .int .i64 0, .slice none 0 0, .slice (some ⟨gL, 0, none⟩) 4 4] 67)))) (FLl) (Lib.hid (heap_alloc_new u _))
        rw [hT, ha0] at hG
        (try simp only [qq1, qq2, qq3, Act.put, qq4, qq5, qq6] at hG)
        exact hG
      have G6_7_11_15_19_20 : ∀ (gE : Nat) (cE : Ic) (cA : Ic) (cZ : Ic) (gL : Nat) (u : World), (Hid (Below w0.heap.size w0 u ∧ Below wr.heap.size wr u ∧ Below w3.heap.size w3 u)) → (Hid (IB2 u gE (p.ix) (p.v))) → (Hid (ItS w3.heap.size u (.lst ([p.ix, p.v].map .int)) cE)) → (Hid (ItS w3.heap.size u (.lst ((p.al).map .int)) cA)) → (Hid (ItS w3.heap.size u (.lst ((p.zs).map .int)) cZ)) → (Hid (u.heap[gL]? = some (.cells #[.int .i64 cE.kind, .int .i64 cE.n, .slice cE.B cE.nb cE.cb, .slice cE.L cE.nl cE.cl, .int .i64 cA.kind, .int .i64 cA.n, .slice cA.B cA.nb cA.cb, .slice cA.L cA.nl cA.cl, .int .i64 1, .int .i64 p.C, .slice none 0 0, .slice none 0 0, .int .i64 cZ.kind, .int .i64 cZ.n, .slice cZ.B cZ.nb cZ.cb, .slice cZ.L cZ.nl cZ.cl] 67))) → (Hid (w3.heap.size ≤ gL)) → T 5 #[true, true, true, true, true, true, true, true, true, true, true, true, true, true, true, true, true, true, true, true, true, false, false, false, false, false] ((((((a0.put (some 20) (.slice (some ⟨gE, 0, none⟩) 2 2)).put (some 21) (.agg #[.int .i64 cE.kind, .int .i64 cE.n, .slice cE.B cE.nb cE.cb, .slice cE.L cE.nl cE.cl])).put (some 25) (.agg #[.int .i64 cA.kind, .int .i64 cA.n, .slice cA.B cA.nb cA.cb, .slice cA.L cA.nl cA.cl])).put (some 29) (.agg #[.int .i64 1, .int .i64 (p.C), .slice none 0 0, .slice none 0 0])).put (some 33) (.agg #[.int .i64 cZ.kind, .int .i64 cZ.n, .slice cZ.B cZ.nb cZ.cb, .slice cZ.L cZ.nl cZ.cl])).put (some 34) (.slice (some ⟨gL, 0, none⟩) 4 4)) u := by
        intro gE cE cA cZ gL u FB FE HE HA HZ FL FLl
        have hHeld := hS.out _ FB
        rw [hT, ha0]
        try simp only [qq1, qq2, qq3, Act.put, qq4, qq5, qq6]
        refine wpT_one (i := 21) (by kernel_rfl) rfl (fun K hK => ?_)
        go_simp
        refine (list_it (some ⟨gL, 0, none⟩) 4 4 _).mono ?_
        rintro e wB ⟨rfl, hq⟩
        have FB2 := hBx.out _ _ FB hq
        refine hK.out _ _ ?_ (fun hHeld => ?_)
        · exact hS.out _ FB2
        clear hK K hHeld
        try simp only [qq1, qq2, qq3, Act.put, qq4, qq5, qq6]
        have hG := G6_7_11_15_19_20_21 gE cE cA cZ gL wB FB2 (Lib.hid (FE.out.below hq)) (Lib.hid (HE.out.kept hq)) (Lib.hid (HA.out.kept hq)) (Lib.hid (HZ.out.kept hq)) (Lib.hid (blk_below FL.out hq)) (FLl)
        rw [hT, ha0] at hG
        (try simp only [qq1, qq2, qq3, Act.put, qq4, qq5, qq6] at hG)
        exact hG
      have G6_7_11_15_19 : ∀ (gE : Nat) (cE : Ic) (cA : Ic) (cZ : Ic) (u : World), (Hid (Below w0.heap.size w0 u ∧ Below wr.heap.size wr u ∧ Below w3.heap.size w3 u)) → (Hid (IB2 u gE (p.ix) (p.v))) → (Hid (ItS w3.heap.size u (.lst ([p.ix, p.v].map .int)) cE)) → (Hid (ItS w3.heap.size u (.lst ((p.al).map .int)) cA)) → (Hid (ItS w3.heap.size u (.lst ((p.zs).map .int)) cZ)) → T 6 #[true, true, true, true, true, true, true, true, true, true, true, true, true, true, true, true, true, true, true, true, false, false, false, false, false, false] (((((a0.put (some 20) (.slice (some ⟨gE, 0, none⟩) 2 2)).put (some 21) (.agg #[.int .i64 cE.kind, .int .i64 cE.n, .slice cE.B cE.nb cE.cb, .slice cE.L cE.nl cE.cl])).put (some 25) (.agg #[.int .i64 cA.kind, .int .i64 cA.n, .slice cA.B cA.nb cA.cb, .slice cA.L cA.nl cA.cl])).put (some 29) (.agg #[.int .i64 1, .int .i64 (p.C), .slice none 0 0, .slice none 0 0])).put (some 33) (.agg #[.int .i64 cZ.kind, .int .i64 cZ.n, .slice cZ.B cZ.nb cZ.cb, .slice cZ.L cZ.nl cZ.cl])) u := by
        intro gE cE cA cZ u FB FE HE HA HZ
        have hHeld := hS.out _ FB
        rw [hT, ha0]
        try simp only [qq1, qq2, qq3, Act.put, qq4, qq5, qq6]
        refine wpT_one (i := 20) (by kernel_rfl) rfl (fun K hK => ?_)
        go_simp
        have FB2 := hBx.out _ _ FB (below_box0 u (.cells #[.int .i64 cE.kind, .int .i64 cE.n, .slice cE.B cE.nb cE.cb, .slice cE.L cE.nl cE.cl, .int .i64 cA.kind, .int .i64 cA.n, .slice cA.B cA.nb cA.cb, .slice cA.L cA.nl cA.cl, .int .i64 1, .int .i64 p.C, .slice none 0 0, .slice none 0 0, .int .i64 cZ.kind, .int .i64 cZ.n, .slice cZ.B cZ.nb cZ.cb, .slice cZ.L cZ.nl cZ.cl] 67))
        refine hK.out _ _ ?_ (fun hHeld => ?_)
        · exact hS.out _ FB2
        clear hK K hHeld
        try simp only [qq1, qq2, qq3, Act.put, qq4, qq5, qq6]
        have hG := G6_7_11_15_19_20 gE cE cA cZ u.heap.size (u.alloc (.cells #[.int .i64 cE.kind, .int .i64 cE.n, .slice cE.B cE.nb cE.cb, .slice cE.L cE.nl cE.cl, .int .i64 cA.kind, .int .i64 cA.n, .slice cA.B cA.nb cA.cb, .slice cA.L cA.nl cA.cl, .int .i64 1, .int .i64 p.C, .slice none 0 0, .slice none 0 0, .int .i64 cZ.kind, .int .i64 cZ.n, .slice cZ.B cZ.nb cZ.cb, .slice cZ.L cZ.nl cZ.cl] 67)) FB2 (Lib.hid (FE.out.below (below_box0 u (.cells #[.int .i64 cE.kind, .int .i64 cE.n, .slice cE.B cE.nb cE.cb, .slice cE.L cE.nl cE.cl, .int .i64 cA.kind, .int .i64 cA.n, .slice cA.B cA.nb cA.cb, .slice cA.L cA.nl cA.cl, .int .i64 1, .int .i64 p.C, .slice none 0 0, .slice none 0 0, .int .i64 cZ.kind, .int .i64 cZ.n, .slice cZ.B cZ.nb cZ.cb, .slice cZ.L cZ.nl cZ.cl] 67)))) (Lib.hid (HE.out.kept (below_box0 u (.cells #[.int .i64 cE.kind, .int .i64 cE.n, .slice cE.B cE.nb cE.cb, .slice cE.L cE.nl cE.cl, .int .i64 cA.kind, .int .i64 cA.n, .slice cA.B cA.nb cA.cb, .slice cA.L cA.nl cA.cl, .int .i64 1, .int .i64 p.C, .slice none 0 0, .slice none 0 0, .int .i64 cZ.kind, .int .i64 cZ.n, .slice cZ.B cZ.nb cZ.cb, .slice cZ.L cZ.nl cZ.cl] 67)))) (Lib.hid (HA.out.kept (below_box0 u (.cells #[.int .i64 cE.kind, .int .i64 cE.n, .slice cE.B cE.nb cE.cb, .slice cE.L cE.nl cE.cl, .int .i64 cA.kind, .int .i64 cA.n, .slice cA.B cA.nb cA.cb, .slice cA.L cA.nl cA.cl, .int .i64 1, .int .i64 p.C, .slice none 0 0, .slice none 0 0, .int .i64 cZ.kind, .int .i64 cZ.n, .slice cZ.B cZ.nb cZ.cb, .slice cZ.L cZ.nl cZ.cl] 67)))) (Lib.hid (HZ.out.kept (below_box0 u (.cells #[.int .i64 cE.kind, .int .i64 cE.n, .slice cE.B cE.nb cE.cb, .slice cE.L cE.nl cE.cl, .int .i64 cA.kind, .int .i64 cA.n, .slice cA.B cA.nb cA.cb, .slice cA.L cA.nl cA.cl, .int .i64 1, .int .i64 p.C, .slice none 0 0, .slice none 0 0, .int .i64 cZ.kind, .int .i64 cZ.n, .slice cZ.B cZ.nb cZ.cb, .slice cZ.L cZ.nl cZ.cl] 67)))) (Lib.hid (heap_alloc_new u _)) (Lib.hid (by have := FB.out.2.2.size; omega))
        rw [hT, ha0] at hG
        (try simp only [qq1, qq2, qq3, Act.put, qq4, qq5, qq6] at hG)
        exact hG
      have G6_7_11_15 : ∀ (gE : Nat) (cE : Ic) (cA : Ic) (u : World), (Hid (Below w0.heap.size w0 u ∧ Below wr.heap.size wr u ∧ Below w3.heap.size w3 u)) → (Hid (IB2 u gE (p.ix) (p.v))) → (Hid (ItS w3.heap.size u (.lst ([p.ix, p.v].map .int)) cE)) → (Hid (ItS w3.heap.size u (.lst ((p.al).map .int)) cA)) → T 7 #[true, true, true, true, true, true, true, true, true, true, true, true, true, true, true, true, true, true, true, false, false, false, false, false, false, false] ((((a0.put (some 20) (.slice (some ⟨gE, 0, none⟩) 2 2)).put (some 21) (.agg #[.int .i64 cE.kind, .int .i64 cE.n, .slice cE.B cE.nb cE.cb, .slice cE.L cE.nl cE.cl])).put (some 25) (.agg #[.int .i64 cA.kind, .int .i64 cA.n, .slice cA.B cA.nb cA.cb, .slice cA.L cA.nl cA.cl])).put (some 29) (.agg #[.int .i64 1, .int .i64 (p.C), .slice none 0 0, .slice none 0 0])) u := by
        intro gE cE cA u FB FE HE HA
        have hHeld := hS.out _ FB
        rw [hT, ha0]
        try simp only [qq1, qq2, qq3, Act.put, qq4, qq5, qq6]
        refine wpT_one (i := 19) (by kernel_rfl) rfl (fun K hK => ?_)
        go_simp
        refine (intsS_any p.Z p.zs p.nz p.cz HNZ (by omega) _ (kPZ.out _ (Lib.hid FB.out.2.1))).mono ?_
        rintro e wB ⟨cB, rfl, hit, hq⟩
        have FB2 := hBx.out _ _ FB hq
        refine hK.out _ _ ?_ (fun hHeld => ?_)
        · exact hS.out _ FB2
        clear hK K hHeld
        try simp only [qq1, qq2, qq3, Act.put, qq4, qq5, qq6]
        have hG := G6_7_11_15_19 gE cE cA cB wB FB2 (Lib.hid (FE.out.below hq)) (Lib.hid (HE.out.kept hq)) (Lib.hid (HA.out.kept hq)) (Lib.hid (hit.mono (by have := FB.out.2.2.size; omega)))
        rw [hT, ha0] at hG
        (try simp only [qq1, qq2, qq3, Act.put, qq4, qq5, qq6] at hG)
        exact hG
      have G6_7_11 : ∀ (gE : Nat) (cE : Ic) (cA : Ic) (u : World), (Hid (Below w0.heap.size w0 u ∧ Below wr.heap.size wr u ∧ Below w3.heap.size w3 u)) → (Hid (IB2 u gE (p.ix) (p.v))) → (Hid (ItS w3.heap.size u (.lst ([p.ix, p.v].map .int)) cE)) → (Hid (ItS w3.heap.size u (.lst ((p.al).map .int)) cA)) → T 8 #[true, true, true, true, true, true, true, true, true, true, true, true, true, true, true, false, true, true, true, false, false, false, false, false, false, false] (((a0.put (some 20) (.slice (some ⟨gE, 0, none⟩) 2 2)).put (some 21) (.agg #[.int .i64 cE.kind, .int .i64 cE.n, .slice cE.B cE.nb cE.cb, .slice cE.L cE.nl cE.cl])).put (some 25) (.agg #[.int .i64 cA.kind, .int .i64 cA.n, .slice cA.B cA.nb cA.cb, .slice cA.L cA.nl cA.cl])) u := by
        intro gE cE cA u FB FE HE HA
        have hHeld := hS.out _ FB
        rw [hT, ha0]
        try simp only [qq1, qq2, qq3, Act.put, qq4, qq5, qq6]
        refine wpT_one (i := 15) (by kernel_rfl) rfl (fun K hK => ?_)
        go_simp
        refine (number_it p.C _).mono ?_
        rintro e wB ⟨rfl, hq⟩
        have FB2 := hBx.out _ _ FB hq
        refine hK.out _ _ ?_ (fun hHeld => ?_)
        · exact hS.out _ FB2
        clear hK K hHeld
        try simp only [qq1, qq2, qq3, Act.put, qq4, qq5, qq6]
        have hG := G6_7_11_15 gE cE cA wB FB2 (Lib.hid (FE.out.below hq)) (Lib.hid (HE.out.kept hq)) (Lib.hid (HA.out.kept hq))
        rw [hT, ha0] at hG
        (try simp only [qq1, qq2, qq3, Act.put, qq4, qq5, qq6] at hG)
        exact hG
      have G6_7 : ∀ (gE : Nat) (cE : Ic) (u : World), (Hid (Below w0.heap.size w0 u ∧ Below wr.heap.size wr u ∧ Below w3.heap.size w3 u)) → (Hid (IB2 u gE (p.ix) (p.v))) → (Hid (ItS w3.heap.size u (.lst ([p.ix, p.v].map .int)) cE)) → T 9 #[true, true, true, true, true, true, true, true, true, true, true, false, true, true, true, false, true, true, true, false, false, false, false, false, false, false] ((a0.put (some 20) (.slice (some ⟨gE, 0, none⟩) 2 2)).put (some 21) (.agg #[.int .i64 cE.kind, .int .i64 cE.n, .slice cE.B cE.nb cE.cb, .slice cE.L cE.nl cE.cl])) u := by
        intro gE cE u FB FE HE
        have hHeld := hS.out _ FB
        rw [hT, ha0]
        try simp only [qq1, qq2, qq3, Act.put, qq4, qq5, qq6]
        refine wpT_one (i := 11) (by kernel_rfl) rfl (fun K hK => ?_)
        go_simp
        refine (intsS_any p.A p.al p.na p.ca HNA (by omega) _ (kPA.out _ (Lib.hid FB.out.2.1))).mono ?_
        rintro e wB ⟨cB, rfl, hit, hq⟩
        have FB2 := hBx.out _ _ FB hq
        refine hK.out _ _ ?_ (fun hHeld => ?_)
        · exact hS.out _ FB2
        clear hK K hHeld
        try simp only [qq1, qq2, qq3, Act.put, qq4, qq5, qq6]
        have hG := G6_7_11 gE cE cB wB FB2 (Lib.hid (FE.out.below hq)) (Lib.hid (HE.out.kept hq)) (Lib.hid (hit.mono (by have := FB.out.2.2.size; omega)))
        rw [hT, ha0] at hG
        (try simp only [qq1, qq2, qq3, Act.put, qq4, qq5, qq6] at hG)
        exact hG
      have G6 : ∀ (gE : Nat) (u : World), (Hid (Below w0.heap.size w0 u ∧ Below wr.heap.size wr u ∧ Below w3.heap.size w3 u)) → (Hid (IB2 u gE (p.ix) (p.v))) → T 10 #[true, true, true, true, true, true, true, false, true, true, true, false, true, true, true, false, true, true, true, false, false, false, false, false, false, false] (a0.put (some 20) (.slice (some ⟨gE, 0, none⟩) 2 2)) u := by
        intro gE u FB FE
        have hHeld := hS.out _ FB
        rw [hT, ha0]
        try simp only [qq1, qq2, qq3, Act.put, qq4, qq5, qq6]
        refine wpT_one (i := 7) (by kernel_rfl) rfl (fun K hK => ?_)
        go_simp
        refine (intsS_any (some ⟨gE, 0, none⟩) [p.ix, p.v] 2 2 (Lib.hid rfl) (by omega) _ (Lib.hid FE.out.sl)).mono ?_
        rintro e wB ⟨cB, rfl, hit, hq⟩
        have FB2 := hBx.out _ _ FB hq
        refine hK.out _ _ ?_ (fun hHeld => ?_)
        · exact hS.out _ FB2
        clear hK K hHeld
        try simp only [qq1, qq2, qq3, Act.put, qq4, qq5, qq6]
        have hG := G6_7 gE cB wB FB2 (Lib.hid (FE.out.below hq)) (Lib.hid (hit.mono (by have := FB.out.2.2.size; omega)))
        rw [hT, ha0] at hG
        (try simp only [qq1, qq2, qq3, Act.put, qq4, qq5, qq6] at hG)
        exact hG
      have G0 : ∀  (u : World), (Hid (Below w0.heap.size w0 u ∧ Below wr.heap.size wr u ∧ Below w3.heap.size w3 u)) → T 11 #[true, true, true, true, true, true, false, false, true, true, true, false, true, true, true, false, true, true, true, false, false, false, false, false, false, false] a0 u := by
        intro  u FB
        have hHeld := hS.out _ FB
        rw [hT, ha0]
        try simp only [qq1, qq2, qq3, Act.put, qq4, qq5, qq6]
        refine wpT_one (i := 6) (by kernel_rfl) rfl (fun K hK => ?_)
        go_simp
        have FB2 := hBx.out _ _ FB (below_box0 u (.cells #[.int .i64 (p.ix), .int .i64 (p.v)] 3))
        refine hK.out _ _ ?_ (fun hHeld => ?_)
        · exact hS.out _ FB2
        clear hK K hHeld
        try simp only [qq1, qq2, qq3, Act.put, qq4, qq5, qq6]
        have hG := G6 u.heap.size (u.alloc (.cells #[.int .i64 (p.ix), .int .i64 (p.v)] 3)) FB2 (Lib.hid (IB2.new u (p.ix) (p.v)))
        rw [hT, ha0] at hG
        (try simp only [qq1, qq2, qq3, Act.put, qq4, qq5, qq6] at hG)
        exact hG
      exact G0 _ HBD
    · skip
      have hke : k = o.np := by omega
      obtain ⟨L5, cl5, hv5, hit5⟩ := its_own (l := o.ps.map pIt) (lo := B + 1) HO.out HCL.out (by rw [List.length_map, okn, hke]) (Nat.le_refl _) (fun j hj => by
        rw [show (o.ps.map pIt).getD j default = pIt (o.ps.getD j noPart) by rw [List.getD_eq_getElem?_getD, List.getElem?_map, List.getD_eq_getElem?_getD, List.getElem?_eq_getElem (show j < o.ps.length by omega)]; rfl]
        exact (HG.out j hj).s)
      subst hv5
      have HIT5 := Lib.hid hit5
      obtain ⟨⟨a3, _⟩, ⟨a0, _⟩, ⟨a1, _⟩, ⟨a2, _⟩⟩ := (⟨HV.out, HX3.out⟩ : _ ∧ _ ∧ _ ∧ _)
      have HC5 : Hid (wr.cell? ⟨B, 0, none⟩ = some (.int .i64 3) ∧ wr.cell? ⟨B, 1, none⟩ = some (.int .i64 0) ∧ wr.cell? ⟨B, 2, none⟩ = some (.slice none 0 0) ∧ wr.cell? ⟨B, 3, none⟩ = some (.slice L5 k cl5)) := Lib.hid ⟨a0, a1, a2, a3⟩
      have HKE := Lib.hid hke
      clear hit5 a0 a1 a2 a3 HO HG HV HX3 hke
      have HB_wr_2 : Hid (Below wr.heap.size wr wr) := Lib.hid (Below.refl _ _)
      have kX5 := Lib.hid (show ∀ u : World, Hid (Below wr.heap.size wr u) → u.cell? ⟨B, 0, none⟩ = some (.int .i64 3) ∧ u.cell? ⟨B, 1, none⟩ = some (.int .i64 0) ∧ u.cell? ⟨B, 2, none⟩ = some (.slice none 0 0) ∧ u.cell? ⟨B, 3, none⟩ = some (.slice L5 k cl5) from fun u h => ⟨cell_below HC5.out.1 h.out, cell_below HC5.out.2.1 h.out, cell_below HC5.out.2.2.1 h.out, cell_below HC5.out.2.2.2 h.out⟩)
      have hcv := fun w => run_bytes_of_string (P := Tryd.prog) w 9 63 5 o.rs Tryd.underlying9 Tryd.underlying63 Tryd.underlying5
      have kA := Lib.hid (show ∀ u : World, Hid (Below wr.heap.size wr u) → Hid (Sl u o.A o.al) from fun u h => Lib.hid ((kO.out _ HBr0).out.2.2.2.1.below h.out))
      have kZ := Lib.hid (show ∀ u : World, Hid (Below wr.heap.size wr u) → Hid (Sl u o.Z o.zs) from fun u h => Lib.hid ((kO.out _ HBr0).out.2.2.2.2.1.below h.out))
      obtain ⟨q1, q2⟩ : Hid (o.al.length = o.na) ∧ Hid (o.zs.length = o.nz) := ⟨Lib.hid (kO.out _ HBr0).out.1, Lib.hid (kO.out _ HBr0).out.2.1⟩
      have bna : o.na ≤ 20 := by rw [← q1.out]; exact hs.a
      have bnz : o.nz ≤ 20 := by rw [← q2.out]; exact hs.z
      obtain ⟨zc0, zc1, zc2, zc3, zc4, zc5, zc6, zc7, zc8, ⟨zc9, zf9⟩, ⟨zc10, zf10⟩, ⟨zc11, zf11⟩, ⟨zc12, zf12⟩⟩ := kC.out _ HBr0
      obtain ⟨kX5_0, kX5_1, kX5_2, kX5_3⟩ := kX5.out _ HB_wr_2
      go_upto_region 7 with (fail)
      clear zc0 zc1 zc2 zc3 zc4 zc5 zc6 zc7 zc8 zc9 zf9 zc10 zf10 zc11 zf11 zc12 zf12 kX5_0 kX5_1 kX5_2 kX5_3
      have hBx := Lib.hid (show ∀ u u2 : World, Hid (Below w0.heap.size w0 u ∧ Below wr.heap.size wr u) → Below u.heap.size u u2 → Hid (Below w0.heap.size w0 u2 ∧ Below wr.heap.size wr u2) from fun u u2 h1 h2 => Lib.hid ⟨(below_ext h1.out.1 h2), (below_ext h1.out.2 h2)⟩)
      have hS := Lib.hid (show ∀ u : World, Hid (Below w0.heap.size w0 u ∧ Below wr.heap.size wr u) → (u.cell? ⟨w.heap.size, 0, none⟩ = some (.int .i64 o.num) ∧ u.cell? ⟨w.heap.size, 1, none⟩ = some (.string o.rs) ∧ u.cell? ⟨w.heap.size, 2, none⟩ = some (.int .i64 o.E1) ∧ u.cell? ⟨w.heap.size, 3, none⟩ = some (.int .i64 o.E2) ∧ u.cell? ⟨w.heap.size, 4, none⟩ = some (.slice o.A o.na o.ca) ∧ u.cell? ⟨w.heap.size, 5, none⟩ = some (.int .i64 o.C) ∧ u.cell? ⟨w.heap.size, 6, none⟩ = some (.slice o.Z o.nz o.cz) ∧ u.cell? ⟨w.heap.size, 7, none⟩ = some (.slice o.L o.np o.cp) ∧ u.cell? ⟨w.heap.size, 8, none⟩ = some (.int .i64 o.key) ∧ Own u ⟨w.heap.size + 1, 0, none⟩ (.int .i64 0) ∧ Own u ⟨w.heap.size + 1, 1, none⟩ (.int .i64 0) ∧ Own u ⟨w.heap.size + 1, 2, none⟩ (.slice none 0 0) ∧ Own u ⟨w.heap.size + 1, 3, none⟩ (.slice none 0 0) ∧ u.cell? ⟨B, 0, none⟩ = some (.int .i64 3) ∧ u.cell? ⟨B, 1, none⟩ = some (.int .i64 0) ∧ u.cell? ⟨B, 2, none⟩ = some (.slice none 0 0) ∧ u.cell? ⟨B, 3, none⟩ = some (.slice L5 k cl5)) from fun u h1 => by
        obtain ⟨y0, y1, y2, y3, y4, y5, y6, y7, y8, y9, y10, y11, y12⟩ := kC.out _ (Lib.hid h1.out.1)
        obtain ⟨kX5_0, kX5_1, kX5_2, kX5_3⟩ := kX5.out _ (Lib.hid h1.out.2)
        exact ⟨y0, y1, y2, y3, y4, y5, y6, y7, y8, y9, y10, y11, y12, kX5_0, kX5_1, kX5_2, kX5_3⟩)
      have HBA : Hid (Below w0.heap.size w0 wr ∧ Below wr.heap.size wr wr) := Lib.hid ⟨HBr0.out, HB_wr_2.out⟩
      have HBD := hBx.out _ _ HBA (Below.refl _ _).drew
      refine wp_region_T (S := fun w' => w'.cell? ⟨w.heap.size, 0, none⟩ = some (.int .i64 o.num) ∧ w'.cell? ⟨w.heap.size, 1, none⟩ = some (.string o.rs) ∧ w'.cell? ⟨w.heap.size, 2, none⟩ = some (.int .i64 o.E1) ∧ w'.cell? ⟨w.heap.size, 3, none⟩ = some (.int .i64 o.E2) ∧ w'.cell? ⟨w.heap.size, 4, none⟩ = some (.slice o.A o.na o.ca) ∧ w'.cell? ⟨w.heap.size, 5, none⟩ = some (.int .i64 o.C) ∧ w'.cell? ⟨w.heap.size, 6, none⟩ = some (.slice o.Z o.nz o.cz) ∧ w'.cell? ⟨w.heap.size, 7, none⟩ = some (.slice o.L o.np o.cp) ∧ w'.cell? ⟨w.heap.size, 8, none⟩ = some (.int .i64 o.key) ∧ Own w' ⟨w.heap.size + 1, 0, none⟩ (.int .i64 0) ∧ Own w' ⟨w.heap.size + 1, 1, none⟩ (.int .i64 0) ∧ Own w' ⟨w.heap.size + 1, 2, none⟩ (.slice none 0 0) ∧ Own w' ⟨w.heap.size + 1, 3, none⟩ (.slice none 0 0) ∧ w'.cell? ⟨B, 0, none⟩ = some (.int .i64 3) ∧ w'.cell? ⟨B, 1, none⟩ = some (.int .i64 0) ∧ w'.cell? ⟨B, 2, none⟩ = some (.slice none 0 0) ∧ w'.cell? ⟨B, 3, none⟩ = some (.slice L5 k cl5)) (E := [16]) (by kernel_rfl) (hS.out _ HBD) (fun hHeld => ?_)
      obtain ⟨wD, hwD⟩ : ∃ u, wr.drew = u := ⟨_, rfl⟩
      rw [hwD] at HBD hHeld ⊢
      have HSZD : Hid (wr.heap.size ≤ wD.heap.size) := Lib.hid (by rw [← hwD]; exact Nat.le_refl _)
      clear hwD
      refine tkV 0 ?_
      try simp only [qq1, qq2, qq3, Act.put, qq4, qq5, qq6]
      refine tkV 1 ?_
      try simp only [qq1, qq2, qq3, Act.put, qq4, qq5, qq6]
      refine tkV 3 ?_
      try simp only [qq1, qq2, qq3, Act.put, qq4, qq5, qq6]
      refine tkV 4 ?_
      try simp only [qq1, qq2, qq3, Act.put, qq4, qq5, qq6]
      refine tkV 7 ?_
      try simp only [qq1, qq2, qq3, Act.put, qq4, qq5, qq6]
      refine tkV 8 ?_
      try simp only [qq1, qq2, qq3, Act.put, qq4, qq5, qq6]
      refine tkV 10 ?_
      try simp only [qq1, qq2, qq3, Act.put, qq4, qq5, qq6]
      refine tkV 11 ?_
      try simp only [qq1, qq2, qq3, Act.put, qq4, qq5, qq6]
      refine tkV 12 ?_
      try simp only [qq1, qq2, qq3, Act.put, qq4, qq5, qq6]
      refine wpT_frame (fun T a0 hT ha0 => ?_)
      clear hHeld
      have G2_5_6_9_13_14_15 : ∀ (gC : Nat) (cC : Nat) (cE : Ic) (gL : Nat) (u : World), (Hid (Below w0.heap.size w0 u ∧ Below wr.heap.size wr u)) → (Hid (Sk .u8 u (some ⟨gC, 0, none⟩) (bys o.rs))) → (Hid (w0.heap.size ≤ gC)) → (Hid (ItS w0.heap.size u (eIt o.E1 o.E2 o.al o.C o.zs) cE)) → (Hid (u.heap[gL]? = some (.cells #[.int .i64 1, .int .i64 o.num, .slice none 0 0, .slice none 0 0, .int .i64 2, .int .i64 0, .slice (some ⟨gC, 0, none⟩) o.rs.size cC, .slice none 0 0, .int .i64 cE.kind, .int .i64 cE.n, .slice cE.B cE.nb cE.cb, .slice cE.L cE.nl cE.cl, .int .i64 3, .int .i64 0, .slice none 0 0, .slice L5 k cl5, .int .i64 1, .int .i64 o.key, .slice none 0 0, .slice none 0 0] 67))) → (Hid (w0.heap.size ≤ gL)) → T 1 #[true, true, true, true, true, true, true, true, true, true, true, true, true, true, true, true, false] (((((((a0.put (some 42) (.agg #[.int .i64 1, .int .i64 (o.num), .slice none 0 0, .slice none 0 0])).put (some 45) (.slice (some ⟨gC, 0, none⟩) o.rs.size cC)).put (some 46) (.agg #[.int .i64 2, .int .i64 (0), .slice (some ⟨gC, 0, none⟩) o.rs.size cC, .slice none 0 0])).put (some 49) (.agg #[.int .i64 cE.kind, .int .i64 cE.n, .slice cE.B cE.nb cE.cb, .slice cE.L cE.nl cE.cl])).put (some 53) (.agg #[.int .i64 1, .int .i64 (o.key), .slice none 0 0, .slice none 0 0])).put (some 54) (.slice (some ⟨gL, 0, none⟩) 5 5)).put (some 55) (.agg #[.int .i64 3, .int .i64 (0), .slice none 0 0, .slice (some ⟨gL, 0, none⟩) 5 5])) u := by
        intro gC cC cE gL u FB FC FCl HE FL FLl
        have hHeld := hS.out _ FB
        rw [hT, ha0]
        try simp only [qq1, qq2, qq3, Act.put, qq4, qq5, qq6]
        have HE_w0 := Lib.hid FB.out.1
        have HE_wr := Lib.hid FB.out.2
        have FNIL := kRB.out _ (Lib.hid FB.out.1)
        refine wpT_pass (i := 16) (by kernel_rfl) (by simp) rfl (fun K hK => ?_)
        rw [show (if Region.wanted _ _ = true then _ else _ : Prop) = _ from if_pos rfl]
        refine wp_store_row 67 _ _ rfl (w.heap.size + 1) (Ic.cs ⟨3, 0, none, 0, 0, some ⟨gL, 0, none⟩, 5, 5⟩) rfl rfl 67 _ FNIL.out (ic_info _) rfl (ic_one _) ?_
        refine hK.out _ _ ?_
        clear hK K
        try simp only [qq1, qq2, qq3, Act.put, qq4, qq5, qq6]
        refine wpT_done (by kernel_rfl) ?_ _
        have hit : ItS w0.heap.size u (oIt o) ⟨3, 0, none, 0, 0, some ⟨gL, 0, none⟩, 5, 5⟩ := its_blk (fun k9 => match k9 with | 0 => icInt o.num | 1 => icByt (some ⟨gC, 0, none⟩) o.rs.size cC | 2 => cE | 3 => ⟨3, 0, none, 0, 0, L5, k, cl5⟩ | _ => icInt o.key) FL.out FLl.out rfl (fun k9 hk => by
            rcases (show k9 = 0 ∨ k9 = 1 ∨ k9 = 2 ∨ k9 = 3 ∨ k9 = 4 by omega) with rfl | rfl | rfl | rfl | rfl <;> exact ⟨rfl, rfl, rfl, rfl⟩) (fun k9 hk => by
            rcases (show k9 = 0 ∨ k9 = 1 ∨ k9 = 2 ∨ k9 = 3 ∨ k9 = 4 by omega) with rfl | rfl | rfl | rfl | rfl
            · exact its_int _ _ _
            · exact its_byt FC.out FCl.out (bys_len _)
            · exact HE.out
            · exact (HIT5.out.kept FB.out.2).mono (by have := HSB.out; omega)
            · exact its_int _ _ _)
        have hit2 := (hit.setRow (g := w.heap.size + 1) (by have := HSZ0.out; omega) (Ic.cs ⟨3, 0, none, 0, 0, some ⟨gL, 0, none⟩, 5, 5⟩)).mono (lo' := w.heap.size) (by have := HSZ0.out; omega)
        have hbF := below_setRow' (below_ext HBw.out FB.out.1) (cs := Ic.cs ⟨3, 0, none, 0, 0, some ⟨gL, 0, none⟩, 5, 5⟩) (Nat.le_add_right w.heap.size 1)
        have hrw := setRow_heap _ _ _ (Ic.cs ⟨3, 0, none, 0, 0, some ⟨gL, 0, none⟩, 5, 5⟩) _ _ FNIL.out
        go_wp2
        exact bodyPost_ret (v := (Ic.mk 3 0 none 0 0 (some ⟨gL, 0, none⟩) 5 5).val) (results_cell1 (p := 2) (ty := 67) rfl _ _ ⟨w.heap.size + 1, 0, none⟩ _ rfl (run_loadVar_row _ _ _ _ _ _ _ hrw Tryd.underlying67 rfl (ic_info _))) rfl ⟨_, rfl, hit2, hbF⟩
      have G2_5_6_9_13_14 : ∀ (gC : Nat) (cC : Nat) (cE : Ic) (gL : Nat) (u : World), (Hid (Below w0.heap.size w0 u ∧ Below wr.heap.size wr u)) → (Hid (Sk .u8 u (some ⟨gC, 0, none⟩) (bys o.rs))) → (Hid (w0.heap.size ≤ gC)) → (Hid (ItS w0.heap.size u (eIt o.E1 o.E2 o.al o.C o.zs) cE)) → (Hid (u.heap[gL]? = some (.cells #[.int .i64 1, .int .i64 o.num, .slice none 0 0, .slice none 0 0, .int .i64 2, .int .i64 0, .slice (some ⟨gC, 0, none⟩) o.rs.size cC, .slice none 0 0, .int .i64 cE.kind, .int .i64 cE.n, .slice cE.B cE.nb cE.cb, .slice cE.L cE.nl cE.cl, .int .i64 3, .int .i64 0, .slice none 0 0, .slice L5 k cl5, .int .i64 1, .int .i64 o.key, .slice none 0 0, .slice none 0 0] 67))) → (Hid (w0.heap.size ≤ gL)) → T 2 #[true, true, true, true, true, true, true, true, true, true, true, true, true, true, true, false, false] ((((((a0.put (some 42) (.agg #[.int .i64 1, .int .i64 (o.num), .slice none 0 0, .slice none 0 0])).put (some 45) (.slice (some ⟨gC, 0, none⟩) o.rs.size cC)).put (some 46) (.agg #[.int .i64 2, .int .i64 (0), .slice (some ⟨gC, 0, none⟩) o.rs.size cC, .slice none 0 0])).put (some 49) (.agg #[.int .i64 cE.kind, .int .i64 cE.n, .slice cE.B cE.nb cE.cb, .slice cE.L cE.nl cE.cl])).put (some 53) (.agg #[.int .i64 1, .int .i64 (o.key), .slice none 0 0, .slice none 0 0])).put (some 54) (.slice (some ⟨gL, 0, none⟩) 5 5)) u := by
        intro gC cC cE gL u FB FC FCl HE FL FLl
        have hHeld := hS.out _ FB
        rw [hT, ha0]
        try simp only [qq1, qq2, qq3, Act.put, qq4, qq5, qq6]
        refine wpT_one (i := 15) (by kernel_rfl) rfl (fun K hK => ?_)
        go_simp
        refine (list_it (some ⟨gL, 0, none⟩) 5 5 _).mono ?_
        rintro e wB ⟨rfl, hq⟩
        have FB2 := hBx.out _ _ FB hq
        refine hK.out _ _ ?_ (fun hHeld => ?_)
        · exact hS.out _ FB2
        clear hK K hHeld
        try simp only [qq1, qq2, qq3, Act.put, qq4, qq5, qq6]
        have hG := G2_5_6_9_13_14_15 gC cC cE gL wB FB2 (Lib.hid (FC.out.below hq)) (FCl) (Lib.hid (HE.out.kept hq)) (Lib.hid (blk_below FL.out hq)) (FLl)
        rw [hT, ha0] at hG
        (try simp only [qq1, qq2, qq3, Act.put, qq4, qq5, qq6] at hG)
        exact hG
      have G2_5_6_9_13 : ∀ (gC : Nat) (cC : Nat) (cE : Ic) (u : World), (Hid (Below w0.heap.size w0 u ∧ Below wr.heap.size wr u)) → (Hid (Sk .u8 u (some ⟨gC, 0, none⟩) (bys o.rs))) → (Hid (w0.heap.size ≤ gC)) → (Hid (ItS w0.heap.size u (eIt o.E1 o.E2 o.al o.C o.zs) cE)) → T 3 #[true, true, true, true, true, true, true, true, true, true, true, true, true, true, false, false, false] (((((a0.put (some 42) (.agg #[.int .i64 1, .int .i64 (o.num), .slice none 0 0, .slice none 0 0])).put (some 45) (.slice (some ⟨gC, 0, none⟩) o.rs.size cC)).put (some 46) (.agg #[.int .i64 2, .int .i64 (0), .slice (some ⟨gC, 0, none⟩) o.rs.size cC, .slice none 0 0])).put (some 49) (.agg #[.int .i64 cE.kind, .int .i64 cE.n, .slice cE.B cE.nb cE.cb, .slice cE.L cE.nl cE.cl])).put (some 53) (.agg #[.int .i64 1, .int .i64 (o.key), .slice none 0 0, .slice none 0 0])) u := by
        intro gC cC cE u FB FC FCl HE
        have hHeld := hS.out _ FB
        rw [hT, ha0]
        try simp only [qq1, qq2, qq3, Act.put, qq4, qq5, qq6]
        refine wpT_one (i := 14) (by kernel_rfl) rfl (fun K hK => ?_)
        go_simp
        have FB2 := hBx.out _ _ FB (below_box0 u (.cells #[.int .i64 1, .int .i64 o.num, .slice none 0 0, .slice none 0 0, .int .i64 2, .int .i64 0, .slice (some ⟨gC, 0, none⟩) o.rs.size cC, .slice none 0 0, .int .i64 cE.kind, .int .i64 cE.n, .slice cE.B cE.nb cE.cb, .slice cE.L cE.nl cE.cl, .int .i64 3, .int .i64 0, .slice none 0 0, .slice L5 k cl5, .int .i64 1, .int .i64 o.key, .slice none 0 0, .slice none 0 0] 67))
        refine hK.out _ _ ?_ (fun hHeld => ?_)
        · exact hS.out _ FB2
        clear hK K hHeld
        try simp only [qq1, qq2, qq3, Act.put, qq4, qq5, qq6]
        have hG := G2_5_6_9_13_14 gC cC cE u.heap.size (u.alloc (.cells #[.int .i64 1, .int .i64 o.num, .slice none 0 0, .slice none 0 0, .int .i64 2, .int .i64 0, .slice (some ⟨gC, 0, none⟩) o.rs.size cC, .slice none 0 0, .int .i64 cE.kind, .int .i64 cE.n, .slice cE.B cE.nb cE.cb, .slice cE.L cE.nl cE.cl, .int .i64 3, .int .i64 0, .slice none 0 0, .slice L5 k cl5, .int .i64 1, .int .i64 o.key, .slice none 0 0, .slice none 0 0] 67)) FB2 (Lib.hid (FC.out.below (below_box0 u (.cells #[.int .i64 1, .int .i64 o.num, .slice none 0 0, .slice none 0 0, .int .i64 2, .int .i64 0, .slice (some ⟨gC, 0, none⟩) o.rs.size cC, .slice none 0 0, .int .i64 cE.kind, .int .i64 cE.n, .slice cE.B cE.nb cE.cb, .slice cE.L cE.nl cE.cl, .int .i64 3, .int .i64 0, .slice none 0 0, .slice L5 k cl5, .int .i64 1, .int .i64 o.key, .slice none 0 0, .slice none 0 0] 67)))) (FCl) (Lib.hid (HE.out.kept (below_box0 u (.cells #[.int .i64 1, .int .i64 o.num, .slice none 0 0, .slice none 0 0, .int .i64 2, .int .i64 0, .slice (some ⟨gC, 0, none⟩) o.rs.size cC, .slice none 0 0, .int .i64 cE.kind, .int .i64 cE.n, .slice cE.B cE.nb cE.cb, .slice cE.L cE.nl cE.cl, .int .i64 3, .int .i64 0, .slice none 0 0, .slice L5 k cl5, .int .i64 1, .int .i64 o.key, .slice none 0 0, .slice none 0 0] 67)))) (Lib.hid (heap_alloc_new u _)) (Lib.hid (by have := FB.out.1.size; omega))
        rw [hT, ha0] at hG
        (try simp only [qq1, qq2, qq3, Act.put, qq4, qq5, qq6] at hG)
        exact hG
      have G2_5_6_9 : ∀ (gC : Nat) (cC : Nat) (cE : Ic) (u : World), (Hid (Below w0.heap.size w0 u ∧ Below wr.heap.size wr u)) → (Hid (Sk .u8 u (some ⟨gC, 0, none⟩) (bys o.rs))) → (Hid (w0.heap.size ≤ gC)) → (Hid (ItS w0.heap.size u (eIt o.E1 o.E2 o.al o.C o.zs) cE)) → T 4 #[true, true, true, true, true, true, true, true, true, true, true, true, true, false, false, false, false] ((((a0.put (some 42) (.agg #[.int .i64 1, .int .i64 (o.num), .slice none 0 0, .slice none 0 0])).put (some 45) (.slice (some ⟨gC, 0, none⟩) o.rs.size cC)).put (some 46) (.agg #[.int .i64 2, .int .i64 (0), .slice (some ⟨gC, 0, none⟩) o.rs.size cC, .slice none 0 0])).put (some 49) (.agg #[.int .i64 cE.kind, .int .i64 cE.n, .slice cE.B cE.nb cE.cb, .slice cE.L cE.nl cE.cl])) u := by
        intro gC cC cE u FB FC FCl HE
        have hHeld := hS.out _ FB
        rw [hT, ha0]
        try simp only [qq1, qq2, qq3, Act.put, qq4, qq5, qq6]
        refine wpT_one (i := 13) (by kernel_rfl) rfl (fun K hK => ?_)
        go_simp
        refine (number_it o.key _).mono ?_
        rintro e wB ⟨rfl, hq⟩
        have FB2 := hBx.out _ _ FB hq
        refine hK.out _ _ ?_ (fun hHeld => ?_)
        · exact hS.out _ FB2
        clear hK K hHeld
        try simp only [qq1, qq2, qq3, Act.put, qq4, qq5, qq6]
        have hG := G2_5_6_9_13 gC cC cE wB FB2 (Lib.hid (FC.out.below hq)) (FCl) (Lib.hid (HE.out.kept hq))
        rw [hT, ha0] at hG
        (try simp only [qq1, qq2, qq3, Act.put, qq4, qq5, qq6] at hG)
        exact hG
      have G2_5_6 : ∀ (gC : Nat) (cC : Nat) (u : World), (Hid (Below w0.heap.size w0 u ∧ Below wr.heap.size wr u)) → (Hid (Sk .u8 u (some ⟨gC, 0, none⟩) (bys o.rs))) → (Hid (w0.heap.size ≤ gC)) → T 5 #[true, true, true, true, true, true, true, true, true, false, true, true, true, false, false, false, false] (((a0.put (some 42) (.agg #[.int .i64 1, .int .i64 (o.num), .slice none 0 0, .slice none 0 0])).put (some 45) (.slice (some ⟨gC, 0, none⟩) o.rs.size cC)).put (some 46) (.agg #[.int .i64 2, .int .i64 (0), .slice (some ⟨gC, 0, none⟩) o.rs.size cC, .slice none 0 0])) u := by
        intro gC cC u FB FC FCl
        have hHeld := hS.out _ FB
        rw [hT, ha0]
        try simp only [qq1, qq2, qq3, Act.put, qq4, qq5, qq6]
        refine wpT_one (i := 9) (by kernel_rfl) rfl (fun K hK => ?_)
        go_simp
        refine (eitem_any o.E1 o.E2 o.A o.na o.ca o.al o.C o.Z o.nz o.cz o.zs q1 q2 (by omega) (by omega) _ (kA.out _ (Lib.hid FB.out.2)) (kZ.out _ (Lib.hid FB.out.2))).mono ?_
        rintro e wB ⟨cB, rfl, hit, hq⟩
        have FB2 := hBx.out _ _ FB hq
        refine hK.out _ _ ?_ (fun hHeld => ?_)
        · exact hS.out _ FB2
        clear hK K hHeld
        try simp only [qq1, qq2, qq3, Act.put, qq4, qq5, qq6]
        have hG := G2_5_6_9 gC cC cB wB FB2 (Lib.hid (FC.out.below hq)) (FCl) (Lib.hid (hit.mono (by have := FB.out.1.size; omega)))
        rw [hT, ha0] at hG
        (try simp only [qq1, qq2, qq3, Act.put, qq4, qq5, qq6] at hG)
        exact hG
      have G2_5 : ∀ (gC : Nat) (cC : Nat) (u : World), (Hid (Below w0.heap.size w0 u ∧ Below wr.heap.size wr u)) → (Hid (Sk .u8 u (some ⟨gC, 0, none⟩) (bys o.rs))) → (Hid (w0.heap.size ≤ gC)) → T 6 #[true, true, true, true, true, true, false, true, true, false, true, true, true, false, false, false, false] ((a0.put (some 42) (.agg #[.int .i64 1, .int .i64 (o.num), .slice none 0 0, .slice none 0 0])).put (some 45) (.slice (some ⟨gC, 0, none⟩) o.rs.size cC)) u := by
        intro gC cC u FB FC FCl
        have hHeld := hS.out _ FB
        rw [hT, ha0]
        try simp only [qq1, qq2, qq3, Act.put, qq4, qq5, qq6]
        refine wpT_one (i := 6) (by kernel_rfl) rfl (fun K hK => ?_)
        go_simp
        refine (text_it (some ⟨gC, 0, none⟩) o.rs.size cC _).mono ?_
        rintro e wB ⟨rfl, hq⟩
        have FB2 := hBx.out _ _ FB hq
        refine hK.out _ _ ?_ (fun hHeld => ?_)
        · exact hS.out _ FB2
        clear hK K hHeld
        try simp only [qq1, qq2, qq3, Act.put, qq4, qq5, qq6]
        have hG := G2_5_6 gC cC wB FB2 (Lib.hid (FC.out.below hq)) (FCl)
        rw [hT, ha0] at hG
        (try simp only [qq1, qq2, qq3, Act.put, qq4, qq5, qq6] at hG)
        exact hG
      have G2 : ∀  (u : World), (Hid (Below w0.heap.size w0 u ∧ Below wr.heap.size wr u)) → T 7 #[true, true, true, true, true, false, false, true, true, false, true, true, true, false, false, false, false] (a0.put (some 42) (.agg #[.int .i64 1, .int .i64 (o.num), .slice none 0 0, .slice none 0 0])) u := by
        intro  u FB
        have hHeld := hS.out _ FB
        rw [hT, ha0]
        try simp only [qq1, qq2, qq3, Act.put, qq4, qq5, qq6]
        refine wpT_one (i := 5) (by kernel_rfl) rfl (fun K hK => ?_)
        go_simp
        have FB2 := hBx.out _ _ FB ((below_box0 u (.cells (bytesRow o.rs (grownCap u o.rs.size 0 5)) 5 ((bytesRow o.rs (grownCap u o.rs.size 0 5)).size, (bytesRow o.rs (grownCap u o.rs.size 0 5)).size + 1))).drew)
        refine hK.out _ _ ?_ (fun hHeld => ?_)
        · exact hS.out _ FB2
        clear hK K hHeld
        try simp only [qq1, qq2, qq3, Act.put, qq4, qq5, qq6]
        have hG := G2_5 u.heap.size ((grownCap u o.rs.size 0 5)) (u.alloc (.cells (bytesRow o.rs (grownCap u o.rs.size 0 5)) 5 ((bytesRow o.rs (grownCap u o.rs.size 0 5)).size, (bytesRow o.rs (grownCap u o.rs.size 0 5)).size + 1))).drew FB2 (Lib.hid ((bys_sk (heap_alloc_new u _)).below ((Below.refl _ _).drew))) (Lib.hid (by have := FB.out.1.size; omega))
        rw [hT, ha0] at hG
        (try simp only [qq1, qq2, qq3, Act.put, qq4, qq5, qq6] at hG)
        exact hG
      have G5 : ∀ (gC : Nat) (cC : Nat) (u : World), (Hid (Below w0.heap.size w0 u ∧ Below wr.heap.size wr u)) → (Hid (Sk .u8 u (some ⟨gC, 0, none⟩) (bys o.rs))) → (Hid (w0.heap.size ≤ gC)) → T 7 #[true, true, false, true, true, true, false, true, true, false, true, true, true, false, false, false, false] (a0.put (some 45) (.slice (some ⟨gC, 0, none⟩) o.rs.size cC)) u := by
        intro gC cC u FB FC FCl
        have hHeld := hS.out _ FB
        rw [hT, ha0]
        try simp only [qq1, qq2, qq3, Act.put, qq4, qq5, qq6]
        refine wpT_one (i := 2) (by kernel_rfl) rfl (fun K hK => ?_)
        go_simp
        refine (number_it o.num _).mono ?_
        rintro e wB ⟨rfl, hq⟩
        have FB2 := hBx.out _ _ FB hq
        refine hK.out _ _ ?_ (fun hHeld => ?_)
        · exact hS.out _ FB2
        clear hK K hHeld
        try simp only [qq1, qq2, qq3, Act.put, qq4, qq5, qq6]
        have hG := G2_5 gC cC wB FB2 (Lib.hid (FC.out.below hq)) (FCl)
        rw [hT, ha0] at hG
        (try simp only [qq1, qq2, qq3, Act.put, qq4, qq5, qq6] at hG)
        exact hG
      have G0 : ∀  (u : World), (Hid (Below w0.heap.size w0 u ∧ Below wr.heap.size wr u)) → T 8 #[true, true, false, true, true, false, false, true, true, false, true, true, true, false, false, false, false] a0 u := by
        intro  u FB
        have hHeld := hS.out _ FB
        rw [hT, ha0]
        try simp only [qq1, qq2, qq3, Act.put, qq4, qq5, qq6]
        refine wpT_two (i1 := 2) (i2 := 5) (by kernel_rfl) rfl rfl (fun K hK => ?_) (fun K hK => ?_)
        · skip
          go_simp
          refine (number_it o.num _).mono ?_
          rintro e wB ⟨rfl, hq⟩
          have FB2 := hBx.out _ _ FB hq
          refine hK.out _ _ ?_ (fun hHeld => ?_)
          · exact hS.out _ FB2
          clear hK K hHeld
          try simp only [qq1, qq2, qq3, Act.put, qq4, qq5, qq6]
          have hG := G2  wB FB2
          rw [hT, ha0] at hG
          (try simp only [qq1, qq2, qq3, Act.put, qq4, qq5, qq6] at hG)
          exact hG
        · skip
          go_simp
          have FB2 := hBx.out _ _ FB ((below_box0 u (.cells (bytesRow o.rs (grownCap u o.rs.size 0 5)) 5 ((bytesRow o.rs (grownCap u o.rs.size 0 5)).size, (bytesRow o.rs (grownCap u o.rs.size 0 5)).size + 1))).drew)
          refine hK.out _ _ ?_ (fun hHeld => ?_)
          · exact hS.out _ FB2
          clear hK K hHeld
          try simp only [qq1, qq2, qq3, Act.put, qq4, qq5, qq6]
          have hG := G5 u.heap.size ((grownCap u o.rs.size 0 5)) (u.alloc (.cells (bytesRow o.rs (grownCap u o.rs.size 0 5)) 5 ((bytesRow o.rs (grownCap u o.rs.size 0 5)).size, (bytesRow o.rs (grownCap u o.rs.size 0 5)).size + 1))).drew FB2 (Lib.hid ((bys_sk (heap_alloc_new u _)).below ((Below.refl _ _).drew))) (Lib.hid (by have := FB.out.1.size; omega))
          rw [hT, ha0] at hG
          (try simp only [qq1, qq2, qq3, Act.put, qq4, qq5, qq6] at hG)
          exact hG
      exact G0 _ HBD
end Go.Proofs.YtofkihlpbfcdkaaDoor
