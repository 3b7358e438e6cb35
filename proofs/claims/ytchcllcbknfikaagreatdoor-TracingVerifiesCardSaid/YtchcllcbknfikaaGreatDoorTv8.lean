/- Contracts and lemmas: OpTl, TlL, TlJ, TlM, TlN, TlO, TlP, TlQ, Row, TlR, Bef, TlG, TlB. -/
import Derived.Laws.AppendOwnNone
import Derived.Deep.MidRow
import Derived.Deep.RegionLaw
import Derived.Test.YtchcllcbknfikaaGreatDoorTv7
set_option linter.unusedVariables false
set_option linter.unusedSimpArgs false
set_option maxRecDepth 100000
set_option maxHeartbeats 25600000
namespace Go.Proofs.YtchcllcbknfikaaGreatDoor
open Go.ChangeShapes Go.WideShapes Go.ChangeAt Go.RowKit rQ
theorem Et : Tryz.prog.cellsOf 104 = 9 := by kernel_rfl
theorem MZ : Tryz.prog.cellsOf 52 = 2 := by kernel_rfl
theorem M3 : Tryz.prog.cellsOf 9 = 1 := by kernel_rfl
theorem M4 : Tryz.prog.cellsOf 102 = 1 := by kernel_rfl
theorem M5 : Tryz.prog.cellsOf 49 = 1 := by kernel_rfl
theorem M6 : Tryz.prog.cellsOf 50 = 1 := by kernel_rfl
section
variable {H : Type} {enc : TypeId × Value → H} {w : World} {base : Nat} {held : Bool}
theorem qQ {x : Int} (h : (Lit.int .i64 x).wf = true) : i64 x := by
 simp [Lit.wf, IntKind.min, IntKind.max, IntKind.signed, IntKind.bits] at h
 unfold i64; omega
theorem Am {n : Nat} {cs : List Value} {x : DataW H × List MemPlace} (h : DataW.trod enc Tryz.prog w base (fun _ => true) held n 24 cs = some x) :
  ∃ R : Row, cs = [R.val] ∧ zh w R ∧ ∀ x ∈ R.xs, i64 x := by
 rcases open_ints Tryz.underlying24 Tryz.underlying3 kG h with ⟨rfl, _⟩ | ⟨a, len, cap, zs, rfl, _, hlc, _, hz, _, hcell, hw⟩
 · exact ⟨dh, rfl, ⟨rfl, fun k hk => absurd hk (by simp)⟩, fun x hx => absurd hx (by simp)⟩
 ·
  simp at hz
  refine ⟨⟨some a, len, cap, zs.take len⟩, rfl, ⟨by show (zs.take len).length = len; rw [List.length_take]; omega, fun k hk => ?_⟩, fun x hx => qQ (hw x (List.mem_of_mem_take hx))⟩
  dsimp only at hk ⊢
  rw [List.length_take] at hk
  obtain ⟨b, off, rfl, hc⟩ := ints_at hcell (by omega)
  refine ⟨b, off, rfl, ?_⟩
  rw [hc k (by omega), List.getD_eq_getElem?_getD, List.getD_eq_getElem?_getD, List.getElem?_take_of_lt (by omega)]
theorem qh {n : Nat} {cs : List Value} {x : DataW H × List MemPlace} (h : DataW.trod enc Tryz.prog w base (fun _ => true) held n 54 cs = some x) :
  ∃ (A : Option Addr) (na ca : Nat) (al : List Int) (C : Int) (Z : Option Addr) (nz cz : Nat) (zs : List Int), cs = [.slice A na ca, .int .i64 C, .slice Z nz cz] ∧ al.length = na ∧ zs.length = nz ∧ Sl w A al ∧ Sl w Z zs ∧ (∀ x ∈ al, i64 x) ∧ (∀ x ∈ zs, i64 x) ∧ i64 C := by
 obtain ⟨xs, m, rfl, _, hl, hxl, hf⟩ := DataW.trod_struct Tryz.underlying54 h
 rw [ze] at hl
 match cs, hl with
 | [c0, c1, c2], _ =>
  have f0 : DataW.trod enc Tryz.prog w base (fun _ => true) held m 24 (([c0, c1, c2].drop 0).take (Tryz.prog.cellsOf 24)) = xs[0]? := hf 0 _ rfl
  have f1 : DataW.trod enc Tryz.prog w base (fun _ => true) held m 3 (([c0, c1, c2].drop 1).take (Tryz.prog.cellsOf 3)) = xs[1]? := hf 1 _ rfl
  have f2 : DataW.trod enc Tryz.prog w base (fun _ => true) held m 24 (([c0, c1, c2].drop 2).take (Tryz.prog.cellsOf 24)) = xs[2]? := hf 2 _ rfl
  rw [Es] at f0 f2
  rw [kG] at f1
  have hl3 : xs.length = 3 := hxl
  match xs, hl3 with
  | [x0, x1, x2], _ =>
   obtain ⟨RA, hA, oA, bA⟩ := Am f0
   obtain ⟨C, hC, _, wC⟩ := DataW.trod_int Tryz.underlying3 f1
   obtain ⟨RZ, hZ, oZ, bZ⟩ := Am f2
   simp at hA hC hZ
   subst hA; subst hC; subst hZ
   exact ⟨RA.p, RA.n, RA.c, RA.xs, C, RZ.p, RZ.n, RZ.c, RZ.xs, rfl, oA.1, oZ.1, oA.2, oZ.2, bA, bZ, qQ wC⟩
theorem vI {n : Nat} {cs : List Value} {x : DataW H × List MemPlace} (h : DataW.trod enc Tryz.prog w base (fun _ => true) held n 56 cs = some x) :
  ∃ p : a_, cs = [.int .i64 p.ix, .int .i64 p.v, .slice p.A p.na p.ca, .int .i64 p.C, .slice p.Z p.nz p.cz] ∧ EF w p ∧ EE p := by
 obtain ⟨xs, m, rfl, _, hl, hxl, hf⟩ := DataW.trod_struct Tryz.underlying56 h
 rw [AQ] at hl
 match cs, hl with
 | [c0, c1, c2, c3, c4], _ =>
  have f0 : DataW.trod enc Tryz.prog w base (fun _ => true) held m 3 (([c0, c1, c2, c3, c4].drop 0).take (Tryz.prog.cellsOf 3)) = xs[0]? := hf 0 _ rfl
  have f1 : DataW.trod enc Tryz.prog w base (fun _ => true) held m 3 (([c0, c1, c2, c3, c4].drop 1).take (Tryz.prog.cellsOf 3)) = xs[1]? := hf 1 _ rfl
  have f2 : DataW.trod enc Tryz.prog w base (fun _ => true) held m 54 (([c0, c1, c2, c3, c4].drop 2).take (Tryz.prog.cellsOf 54)) = xs[2]? := hf 2 _ rfl
  rw [kG] at f0 f1
  rw [ze] at f2
  have hl3 : xs.length = 3 := hxl
  match xs, hl3 with
  | [x0, x1, x2], _ =>
   obtain ⟨E1, hE1, _, w1⟩ := DataW.trod_int Tryz.underlying3 f0
   obtain ⟨E2, hE2, _, w2⟩ := DataW.trod_int Tryz.underlying3 f1
   obtain ⟨A, na, ca, al, C, Z, nz, cz, zs, hP, h1, h2, h3, h4, h5, h6, h7⟩ := qh f2
   simp at hE1 hE2 hP
   obtain ⟨rfl, rfl, rfl⟩ := hP
   subst hE1; subst hE2
   exact ⟨⟨E1, E2, A, na, ca, al, C, Z, nz, cz, zs⟩, rfl, ⟨h1, h2, h3, h4⟩, qQ w1, qQ w2, h7, h5, h6⟩
theorem vH {n : Nat} {cs : List Value} {x : DataW H × List MemPlace} (h : DataW.trod enc Tryz.prog w base (fun _ => true) held n 102 cs = some x) :
  ∃ (L : Option Addr) (n c : Nat) (l : List a_), cs = [.slice L n c] ∧ l.length = n ∧ n ≤ c ∧ Pa w L l ∧ ∀ p ∈ l, EE p := by
 rcases Go.Deep.open_slice Tryz.underlying102 h with ⟨h0, _⟩ | ⟨a', len, cap, m, n', D, Pl, h0, _, hlc, _, hm, _, hx⟩
 · exact ⟨none, 0, 0, [], h0, rfl, Nat.le_refl _, fun k hk => absurd hk (by simp), fun p hp => absurd hp (by simp)⟩
 ·
  simp at hm
  haveI : Inhabited a_ := ⟨aF⟩
  obtain ⟨f, hf⟩ := Go.Deep.choose_lt (α := a_) (n := len) (p := fun i p => (∀ r, r < 5 → w.cell? ((a'.add (i * 5)).add r) = (paC p)[r]?) ∧ EF w p ∧ EE p) (fun i hi => by
   obtain ⟨cs', h1, h2⟩ := hx i (by omega)
   rw [AQ] at h1
   obtain ⟨_, hlen, hcell⟩ := World.cells?_some h1
   obtain ⟨p, hp, hok, hr⟩ := vI h2
   exact ⟨p, fun r hr => by rw [hcell r hr, hp]; rfl, hok, hr⟩)
  have e : ∀ k, k < len → ((List.range len).map f).getD k aF = f k := fun k hk => by
   rw [List.getD_eq_getElem?_getD, List.getElem?_eq_getElem (by simpa using hk)]
   simp
  refine ⟨some a', len, cap, (List.range len).map f, h0, by simp, hlc, fun k hk => ?_, fun p hp => by
   obtain ⟨k, hk, rfl⟩ := List.mem_map.1 hp
   exact (hf k (by simpa using hk)).2.2⟩
  have hk' : k < len := by simpa using hk
  rw [e k hk']
  obtain ⟨h1, h2, h3⟩ := hf k hk'
  obtain ⟨b, off, spot⟩ := a'
  have hspot : spot = none := by
   have := World.cell?_spot ((hf 0 (by omega)).1 0 (by omega))
   rw [Nat.zero_mul] at this
   have h9 : (((⟨b, off, spot⟩ : Addr).add 0).add 0) = ⟨b, off, spot⟩ := by unfold Addr.add; simp
   rw [h9] at this
   exact this
  subst hspot
  have key : ∀ r, r < 5 → w.cell? ⟨b, off + k * 5 + r, none⟩ = (paC (f k))[r]? := fun r hr => by
   have := h1 r hr
   rw [rM _ _ _ _ rfl, rM _ _ _ _ rfl] at this
   exact this
  exact ⟨b, off, rfl, key 0 (by omega), key 1 (by omega), key 2 (by omega), key 3 (by omega), key 4 (by omega), h2⟩
abbrev R9 (o : aJ) : List Value := [.int .i64 o.num, .string o.rs, .int .i64 o.E1, .int .i64 o.E2, .slice o.A o.na o.ca, .int .i64 o.C, .slice o.Z o.nz o.cz, .slice o.L o.np o.cp, .int .i64 o.key]
theorem vJ {n : Nat} {cs : List Value} {x : DataW H × List MemPlace} (h : DataW.trod enc Tryz.prog w base (fun _ => true) held n 104 cs = some x) :
  ∃ o : aJ, cs = R9 o ∧ gy w o ∧ gP o := by
 obtain ⟨xs, m, rfl, _, hl, hxl, hf⟩ := DataW.trod_struct Tryz.underlying104 h
 rw [Et] at hl
 match cs, hl with
 | [c0, c1, c2, c3, c4, c5, c6, c7, c8], _ =>
  have f0 : DataW.trod enc Tryz.prog w base (fun _ => true) held m 3 (([c0, c1, c2, c3, c4, c5, c6, c7, c8].drop 0).take (Tryz.prog.cellsOf 3)) = xs[0]? := hf 0 _ rfl
  have f1 : DataW.trod enc Tryz.prog w base (fun _ => true) held m 9 (([c0, c1, c2, c3, c4, c5, c6, c7, c8].drop 1).take (Tryz.prog.cellsOf 9)) = xs[1]? := hf 1 _ rfl
  have f2 : DataW.trod enc Tryz.prog w base (fun _ => true) held m 99 (([c0, c1, c2, c3, c4, c5, c6, c7, c8].drop 2).take (Tryz.prog.cellsOf 99)) = xs[2]? := hf 2 _ rfl
  have f3 : DataW.trod enc Tryz.prog w base (fun _ => true) held m 102 (([c0, c1, c2, c3, c4, c5, c6, c7, c8].drop 7).take (Tryz.prog.cellsOf 102)) = xs[3]? := hf 3 _ rfl
  have f4 : DataW.trod enc Tryz.prog w base (fun _ => true) held m 3 (([c0, c1, c2, c3, c4, c5, c6, c7, c8].drop 8).take (Tryz.prog.cellsOf 3)) = xs[4]? := hf 4 _ rfl
  rw [kG] at f0 f4
  rw [M3] at f1
  rw [M7] at f2
  rw [M4] at f3
  have hl5 : xs.length = 5 := hxl
  match xs, hl5 with
  | [x0, x1, x2, x3, x4], _ =>
   obtain ⟨N, hN, _, wN⟩ := DataW.trod_int Tryz.underlying3 f0
   obtain ⟨s, hs, _, _⟩ := DataW.trod_string Tryz.underlying9 f1
   obtain ⟨ys, m2, _, _, _, hyl, hg⟩ := DataW.trod_struct Tryz.underlying99 f2
   have g0 : DataW.trod enc Tryz.prog w base (fun _ => true) held m2 3 (([c2, c3, c4, c5, c6].drop 0).take (Tryz.prog.cellsOf 3)) = ys[0]? := hg 0 _ rfl
   have g1 : DataW.trod enc Tryz.prog w base (fun _ => true) held m2 3 (([c2, c3, c4, c5, c6].drop 1).take (Tryz.prog.cellsOf 3)) = ys[1]? := hg 1 _ rfl
   have g2 : DataW.trod enc Tryz.prog w base (fun _ => true) held m2 54 (([c2, c3, c4, c5, c6].drop 2).take (Tryz.prog.cellsOf 54)) = ys[2]? := hg 2 _ rfl
   rw [kG] at g0 g1
   rw [ze] at g2
   have hl3 : ys.length = 3 := hyl
   match ys, hl3 with
   | [y0, y1, y2], _ =>
    obtain ⟨E1, hE1, _, w1⟩ := DataW.trod_int Tryz.underlying3 g0
    obtain ⟨E2, hE2, _, w2⟩ := DataW.trod_int Tryz.underlying3 g1
    obtain ⟨A, na, ca, al, C, Z, nz, cz, zs, hP, h1, h2, h3, h4, h5, h6, h7⟩ := qh g2
    obtain ⟨L, np, cp, ps, hL, k1, k2, k3, k4⟩ := vH f3
    obtain ⟨K, hK, _, wK⟩ := DataW.trod_int Tryz.underlying3 f4
    simp at hN hs hE1 hE2 hP hL hK
    obtain ⟨rfl, rfl, rfl⟩ := hP
    subst hN; subst hs; subst hE1; subst hE2; subst hL; subst hK
    exact ⟨⟨N, s, E1, E2, A, na, ca, al, C, Z, nz, cz, zs, L, np, cp, ps, K⟩, rfl, ⟨h1, h2, ⟨k1, k2⟩, h3, h4, k3⟩, qQ wN, qQ w1, qQ w2, h7, qQ wK, h5, h6, k4⟩
theorem uF {n : Nat} {cs : List Value} {x : DataW H × List MemPlace} (h : DataW.trod enc Tryz.prog w base (fun _ => true) held n 49 cs = some x) :
  ∃ (O : Option Addr) (n c : Nat) (os : List aJ), cs = [.slice O n c] ∧ os.length = n ∧ Os w O os ∧ ∀ k, k < n → gP (iT os k) := by
 rcases Go.Deep.open_slice Tryz.underlying49 h with ⟨h0, _⟩ | ⟨a', len, cap, m, n', D, Pl, h0, _, hlc, _, hm, _, hx⟩
 · exact ⟨none, 0, 0, [], h0, rfl, fun k hk => absurd hk (by simp), fun k hk => absurd hk (by omega)⟩
 ·
  simp at hm
  haveI : Inhabited aJ := ⟨iF⟩
  obtain ⟨f, hf⟩ := Go.Deep.choose_lt (α := aJ) (n := len) (p := fun i o => (∀ r, r < 9 → w.cell? ((a'.add (i * 9)).add r) = (R9 o)[r]?) ∧ gy w o ∧ gP o) (fun i hi => by
   obtain ⟨cs', h1, h2⟩ := hx i (by omega)
   rw [Et] at h1
   obtain ⟨_, hlen, hcell⟩ := World.cells?_some h1
   obtain ⟨o, ho, hok, hr⟩ := vJ h2
   exact ⟨o, fun r hr => by rw [hcell r hr, ho], hok, hr⟩)
  have e : ∀ k, k < len → ((List.range len).map f).getD k iF = f k := fun k hk => by
   rw [List.getD_eq_getElem?_getD, List.getElem?_eq_getElem (by simpa using hk)]
   simp
  refine ⟨some a', len, cap, (List.range len).map f, h0, by simp, fun k hk => ?_, fun k hk => by rw [iT, e k hk]; exact (hf k hk).2.2⟩
  have hk' : k < len := by simpa using hk
  rw [e k hk']
  obtain ⟨h1, h2, h3⟩ := hf k hk'
  obtain ⟨b, off, spot⟩ := a'
  have hspot : spot = none := by
   have := World.cell?_spot ((hf 0 (by omega)).1 0 (by omega))
   rw [Nat.zero_mul] at this
   have h9 : (((⟨b, off, spot⟩ : Addr).add 0).add 0) = ⟨b, off, spot⟩ := by unfold Addr.add; simp
   rw [h9] at this
   exact this
  subst hspot
  have key : ∀ r, r < 9 → w.cell? ⟨b, off + k * 9 + r, none⟩ = (R9 (f k))[r]? := fun r hr => by
   have := h1 r hr
   rw [rM _ _ _ _ rfl, rM _ _ _ _ rfl] at this
   exact this
  exact ⟨b, off, rfl, ⟨key 0 (by omega), key 1 (by omega), key 2 (by omega), key 3 (by omega), key 4 (by omega), key 5 (by omega), key 6 (by omega), key 7 (by omega), key 8 (by omega)⟩, h2⟩
theorem wV {n : Nat} {cs : List Value} {x : DataW H × List MemPlace} (h : DataW.trod enc Tryz.prog w base (fun _ => true) held n 41 cs = some x) :
  ∃ l : List Int, cs = l.map (Value.int .u8) ∧ l.length = 32 ∧ az l = true := by
 obtain ⟨ys, m', _, _, hcl, hyl, hfy⟩ := DataW.trod_array Tryz.underlying41 h
 rw [AR] at hcl
 obtain ⟨hh, h1, h2, h3⟩ := Ep (cl := cs) 32 (fun i hi => by
  have fi := hfy i hi
  rw [Ia, Nat.mul_one, List.getElem?_eq_getElem (by rw [hyl]; exact hi)] at fi
  obtain ⟨z, hz, _, wz⟩ := DataW.trod_int Tryz.underlying5 fi
  refine ⟨z, hz, ?_⟩
  simp [Lit.wf, IntKind.min, IntKind.max, IntKind.signed, IntKind.bits] at wz
  omega)
 exact ⟨hh, by rw [← h2, List.take_of_length_le (by rw [hcl]; exact Nat.le_refl _)], h1, h3⟩
theorem uG {n : Nat} {cs : List Value} {x : DataW H × List MemPlace} (h : DataW.trod enc Tryz.prog w base (fun _ => true) held n 50 cs = some x) :
  ∃ (K : Option Addr) (n c : Nat) (hs : List (List Int)), cs = [.slice K n c] ∧ hs.length = n ∧ Hs w K hs := by
 rcases Go.Deep.open_slice Tryz.underlying50 h with ⟨h0, _⟩ | ⟨a', len, cap, m, n', D, Pl, h0, _, hlc, _, hm, _, hx⟩
 · exact ⟨none, 0, 0, [], h0, rfl, fun k hk => absurd hk (by simp)⟩
 ·
  simp at hm
  obtain ⟨f, hf⟩ := Go.Deep.choose_lt (α := List Int) (n := len) (p := fun i l => (∀ r, r < 32 → w.cell? ((a'.add (i * 32)).add r) = (l.map (Value.int .u8))[r]?) ∧ l.length = 32) (fun i hi => by
   obtain ⟨cs', h1, h2⟩ := hx i (by omega)
   rw [AR] at h1
   obtain ⟨_, hlen, hcell⟩ := World.cells?_some h1
   obtain ⟨o, ho, hok, _⟩ := wV h2
   exact ⟨o, fun r hr => by rw [hcell r hr, ho], hok⟩)
  have e : ∀ k, k < len → hsL ((List.range len).map f) k = f k := fun k hk => by
   rw [hsL, List.getD_eq_getElem?_getD, List.getElem?_eq_getElem (by simpa using hk)]
   simp
  refine ⟨some a', len, cap, (List.range len).map f, h0, by simp, fun k hk => ?_⟩
  have hk' : k < len := by simpa using hk
  rw [e k hk']
  obtain ⟨h1, h2⟩ := hf k hk'
  obtain ⟨b, off, spot⟩ := a'
  have hspot : spot = none := by
   have h8 := (hf 0 (by omega)).1 0 (by omega)
   rw [List.getElem?_eq_getElem (by rw [List.length_map, (hf 0 (by omega)).2]; decide)] at h8
   have := World.cell?_spot h8
   rw [Nat.zero_mul] at this
   have h9 : (((⟨b, off, spot⟩ : Addr).add 0).add 0) = ⟨b, off, spot⟩ := by unfold Addr.add; simp
   rw [h9] at this
   exact this
  subst hspot
  refine ⟨b, off, rfl, h2, fun j v hj => ?_⟩
  have hj2 : j < 32 := by have := (List.getElem?_eq_some_iff.1 hj).1; rw [List.length_map, h2] at this; exact this
  have := h1 j hj2
  rw [rM _ _ _ _ rfl, rM _ _ _ _ rfl] at this
  rw [this]; exact hj
theorem Lm {r : Reach} {b0 : Nat} {v : Value} {d : DataW H} {ps : List MemPlace} (hval : Value.okWide Tryz.prog w r b0 52 v) (hd : DataW.Trod enc Tryz.prog w base (fun _ => true) held 52 v d ps) :
  ∃ (O : Option Addr) (n c : Nat) (os : List aJ) (K : Option Addr) (m d : Nat) (hs : List (List Int)), v = .agg #[.slice O n c, .slice K m d] ∧ os.length = n ∧ hs.length = m ∧ Os w O os ∧ Hs w K hs ∧ ∀ k, k < n → gP (iT os k) := by
 obtain ⟨cs, rfl, hsz⟩ := okWide_struct Tryz.underlying52 hval
 obtain ⟨n, h⟩ := hd
 obtain ⟨xs, m, rfl, _, hl, hxl, hf⟩ := DataW.trod_struct Tryz.underlying52 h
 rw [MZ] at hl
 obtain ⟨cl⟩ := cs
 simp only [Value.cells] at hl hf
 match cl, hl with
 | [c0, c1], _ =>
  have f0 : DataW.trod enc Tryz.prog w base (fun _ => true) held m 49 (([c0, c1].drop 0).take (Tryz.prog.cellsOf 49)) = xs[0]? := hf 0 _ rfl
  have f1 : DataW.trod enc Tryz.prog w base (fun _ => true) held m 50 (([c0, c1].drop 1).take (Tryz.prog.cellsOf 50)) = xs[1]? := hf 1 _ rfl
  rw [M5] at f0
  rw [M6] at f1
  have hl2 : xs.length = 2 := hxl
  match xs, hl2 with
  | [x0, x1], _ =>
   obtain ⟨O, n, c, os, hO, h1, h2, h3⟩ := uF f0
   obtain ⟨K, m, d, hs, hK, k1, k2⟩ := uG f1
   simp at hO hK
   subst hO; subst hK
   exact ⟨O, n, c, os, K, m, d, hs, rfl, h1, k1, h2, k2, h3⟩
end
end Go.Proofs.YtchcllcbknfikaaGreatDoor
namespace Go.Proofs.YtchcllcbknfikaaGreatDoor
open Go.RowKit rQ
theorem Ap (A : Option Addr) (na ca : Nat) (C : Int) (Z : Option Addr) (nz cz : Nat) (w : World) :
  Calls Tryz.prog 23 #[iL A na ca C Z nz cz] w fun e' w' => ∃ b : Bool, e' = .returned (.bool b) ∧ Below w.heap.size w w' := by
 have HX := af w (eG A na ca C Z nz cz)
 by_cases h0 : na ≤ 30
 ·
  have d0 : decide ((na : Int) ≤ 30) = true := by simp; omega
  by_cases h1 : nz ≤ 30
  ·
   have d1 : decide ((nz : Int) ≤ 30) = true := by simp; omega
   go_in
   go_wp2
   go_ret
   exact ⟨_, rfl, HX⟩
  ·
   have d1 : decide ((nz : Int) ≤ 30) = false := by simp; omega
   go_in
   go_wp2
   go_ret
   exact ⟨_, rfl, HX⟩
 ·
  have d0 : decide ((na : Int) ≤ 30) = false := by simp; omega
  go_in
  go_wp2
  go_ret
  exact ⟨_, rfl, HX⟩
theorem Wv (p : a_) (w : World) :
  Calls Tryz.prog 71 #[G7 p] w fun e' w' => ∃ b : Bool, e' = .returned (.bool b) ∧ Below w.heap.size w w' := by
 obtain ⟨w0, HW, ai, kC⟩ := st1 (uf p) sG w
 have ah := bS w0
 go_in
 go_wp2_with fail
 rw [HW.out]
 have zc := kC.out _ ah
 go_wp2_with fail
 refine (Ap p.A p.na p.ca p.C p.Z p.nz p.cz _).mono ?_
 rintro e w1 ⟨b, rfl, hb0⟩
 have aD := bY ah hb0
 clear zc hb0
 have zc := kC.out _ aD
 have bV := ag ai.out aD.out
 cases b with
 | false => go_wp2; go_ret; exact ⟨_, rfl, bV⟩
 | true => go_wp2; go_ret; exact ⟨_, rfl, bV⟩
theorem Pk (A : Option Addr) (xs : List a_) (n c : Nat) (hn : Hid (xs.length = n)) (hbig : n < 1000000) (w : World) (hs : Hid (Pa w A xs)) :
  Calls Tryz.prog 124 #[.slice A n c, .func (.func 71) #[] #[]] w fun e w' => ∃ i : Int, e = .returned (.int .i64 i) ∧ Below w.heap.size w w' := by
 go_in
 go_wp2
 go_loopw [8] (fun i wr => ∃ k : Nat, k ≤ n ∧ i = .int .i64 k ∧ Hid (Below w.heap.size w wr)) (fun i _ => n - (intOf i).toNat)
 case atStart => exact ⟨0, by omega, rfl, aa (Below.refl _ _)⟩
 case round =>
  obtain ⟨k, hk, rfl, au⟩ := hrel
  by_cases hlt : k < n
  ·
   have hkl : k < xs.length := by rw [hn.out]; exact hlt
   obtain ⟨b, o, hA, i0, i1, i2, i3, i4, i5⟩ := (hs.out.below au.out) k hkl
   subst hA
   clear i5
   obtain ⟨p, hp⟩ : ∃ p, xs.getD k aF = p := ⟨_, rfl⟩
   rw [hp] at i0 i1 i2 i3 i4
   clear hp hkl
   go_wp2_with fail
   refine (Wv p wr).mono ?_
   rintro e w2 ⟨b9, rfl, hb0⟩
   have HB2 := aa (ag au.out hb0)
   clear hb0 au i0 i1 i2 i3 i4
   cases b9 with
   | false =>
    go_wp2
    go_roundw
    case rel => exact ⟨k + 1, by omega, by go_num, HB2⟩
    case measure => simp [intOf]; omega
   | true =>
    go_wp2
    go_ret
    exact ⟨_, rfl, HB2.out⟩
  ·
   obtain rfl : k = n := by omega
   go_wp2
   go_ret
   exact ⟨_, rfl, au.out⟩
theorem Gi (A : Option Addr) (xs : List a_) (n c : Nat) (hn : Hid (xs.length = n)) (hbig : n < 1000000) (w : World) (hs : Hid (Pa w A xs)) :
  Calls Tryz.prog 70 #[.slice A n c, .func (.func 71) #[] #[]] w fun e' w' => ∃ b : Bool, e' = .returned (.bool b) ∧ Below w.heap.size w w' := by
 go_in
 go_wp2_with fail
 refine (Pk A xs n c hn hbig _ hs).mono ?_
 rintro e w1 ⟨i, rfl, hb1⟩
 go_wp2
 go_ret
 exact ⟨_, rfl, hb1⟩
theorem Tt (o : aJ) (h : 300 < o.rs.size) (w : World) :
  Calls Tryz.prog 69 #[wU o] w fun e' w' => ∃ b : Bool, e' = .returned (.bool b) ∧ Below w.heap.size w w' := by
 have d0 : decide ((300 : Int) < (o.rs.size : Int)) = true := by simp; omega
 obtain ⟨w0, HW, ai, kC⟩ := st1 (vo o) xM w
 have ah := bS w0
 go_in
 go_upto_region 1 with (fail)
 rw [HW.out]
 have zc := kC.out _ ah
 have bV := ag ai.out ah.out
 go_wp2
 go_ret
 exact ⟨_, rfl, bV⟩
theorem Tq (o : aJ) (h0 : ¬ 300 < o.rs.size) (h : 12 < o.np) (w : World) :
  Calls Tryz.prog 69 #[wU o] w fun e' w' => ∃ b : Bool, e' = .returned (.bool b) ∧ Below w.heap.size w w' := by
 have d0 : decide ((300 : Int) < (o.rs.size : Int)) = false := by simp; omega
 have d1 : decide ((12 : Int) < (o.np : Int)) = true := by simp; omega
 obtain ⟨w0, HW, ai, kC⟩ := st1 (vo o) xM w
 have ah := bS w0
 go_in
 go_upto_region 1 with (fail)
 rw [HW.out]
 have zc := kC.out _ ah
 have bV := ag ai.out ah.out
 go_wp2
 go_ret
 exact ⟨_, rfl, bV⟩
theorem Tp (o : aJ) (h0 : ¬ 300 < o.rs.size) (h : ¬ 12 < o.np) (w : World) (ho : Hid (gy w o)) :
  Calls Tryz.prog 69 #[wU o] w fun e' w' => ∃ b : Bool, e' = .returned (.bool b) ∧ Below w.heap.size w w' := by
 have d0 : decide ((300 : Int) < (o.rs.size : Int)) = false := by simp; omega
 have d1 : decide ((12 : Int) < (o.np : Int)) = false := by simp; omega
 obtain ⟨w0, HW, ai, kC⟩ := st1 (vo o) xM w
 have kO := gV (fun u => gy u o) ai ho (·.below)
 have ah := bS w0
 clear ho
 go_in
 go_upto_region 1 with (fail)
 rw [HW.out]
 have zc := kC.out _ ah
 go_wp2_with fail
 refine (Ap o.A o.na o.ca o.C o.Z o.nz o.cz _).mono ?_
 rintro e w1 ⟨b, rfl, hb0⟩
 have aD := bY ah hb0
 clear zc hb0
 have zc := kC.out _ aD
 cases b with
 | false =>
  have bV := ag ai.out aD.out
  go_wp2
  go_ret
  exact ⟨_, rfl, bV⟩
 | true =>
  go_wp2_with fail
  refine (Gi o.L o.ps o.np o.cp (aa ((kO.out _ aD)).out.2.2.1.1) (by omega) _ (aa ((kO.out _ aD)).out.2.2.2.2.2)).mono ?_
  rintro e w2 ⟨b2, rfl, hb0⟩
  have aN := bY aD hb0
  clear zc hb0
  have zc := kC.out _ aN
  have bV := ag ai.out aN.out
  go_wp2
  go_ret
  exact ⟨_, rfl, bV⟩
theorem MK (o : aJ) (w : World) (ho : Hid (gy w o)) :
  Calls Tryz.prog 69 #[wU o] w fun e' w' => ∃ b : Bool, e' = .returned (.bool b) ∧ Below w.heap.size w w' := by
 by_cases h0 : 300 < o.rs.size
 · exact Tt o h0 w
 ·
  by_cases h1 : 12 < o.np
  · exact Tq o h0 h1 w
  · exact Tp o h0 h1 w ho
theorem SC (A : Option Addr) (xs : List aJ) (n c : Nat) (hn : Hid (xs.length = n)) (hbig : n < 1000000) (w : World) (hs : Hid (Os w A xs)) :
  Calls Tryz.prog 123 #[.slice A n c, .func (.func 69) #[] #[]] w fun e w' => ∃ i : Int, e = .returned (.int .i64 i) ∧ Below w.heap.size w w' := by
 go_in
 go_wp2
 go_loopw [8] (fun i wr => ∃ k : Nat, k ≤ n ∧ i = .int .i64 k ∧ Hid (Below w.heap.size w wr)) (fun i _ => n - (intOf i).toNat)
 case atStart => exact ⟨0, by omega, rfl, aa (Below.refl _ _)⟩
 case round =>
  obtain ⟨k, hk, rfl, au⟩ := hrel
  by_cases hlt : k < n
  ·
   have hkl : k < xs.length := by rw [hn.out]; exact hlt
   obtain ⟨b, o, hA, i9, Zh⟩ := (hs.out.below au.out) k hkl
   obtain ⟨i0, i1, i2, i3, i4, i5, i6, i7, i8⟩ := i9
   subst hA
   obtain ⟨p, hp⟩ : ∃ p, xs.getD k iF = p := ⟨_, rfl⟩
   rw [hp] at i0 i1 i2 i3 i4 i5 i6 i7 i8 Zh
   have nV := aa Zh
   clear Zh hp hkl
   go_wp2_with fail
   refine (MK p wr nV).mono ?_
   rintro e w2 ⟨b9, rfl, hb0⟩
   have HB2 := aa (ag au.out hb0)
   clear hb0 au i0 i1 i2 i3 i4 i5 i6 i7 i8
   cases b9 with
   | false =>
    go_wp2
    go_roundw
    case rel => exact ⟨k + 1, by omega, by go_num, HB2⟩
    case measure => simp [intOf]; omega
   | true =>
    go_wp2
    go_ret
    exact ⟨_, rfl, HB2.out⟩
  ·
   obtain rfl : k = n := by omega
   go_wp2
   go_ret
   exact ⟨_, rfl, au.out⟩
theorem AP (A : Option Addr) (xs : List aJ) (n c : Nat) (hn : Hid (xs.length = n)) (hbig : n < 1000000) (w : World) (hs : Hid (Os w A xs)) :
  Calls Tryz.prog 68 #[.slice A n c, .func (.func 69) #[] #[]] w fun e' w' => ∃ b : Bool, e' = .returned (.bool b) ∧ Below w.heap.size w w' := by
 go_in
 go_wp2_with fail
 refine (SC A xs n c hn hbig _ hs).mono ?_
 rintro e w1 ⟨i, rfl, hb1⟩
 go_wp2
 go_ret
 exact ⟨_, rfl, hb1⟩
theorem Wu (O : Option Addr) (n c : Nat) (K : Option Addr) (m d : Nat) (h : 12 < n) (h1 : n ≤ 100) (w : World) :
  Calls Tryz.prog 22 #[kN O n c K m d] w fun e' w' => ∃ b : Bool, e' = .returned (.bool b) ∧ (b = true → n ≤ 110 ∧ m ≤ 120) ∧ Below w.heap.size w w' := by
 have d0 : decide ((12 : Int) < (n : Int)) = true := by simp; omega
 have d1 : decide ((n : Int) ≤ 100) = true := by simp; omega
 obtain ⟨w0, HW, ai, kC⟩ := st1 (qj O n c K m d) xN w
 have ah := bS w0
 go_in
 go_upto_region 1 with (fail)
 rw [HW.out]
 have zc := kC.out _ ah
 have bV := ag ai.out ah.out
 go_wp2
 go_ret
 exact ⟨false, by first | rfl | simp, fun h9 => Bool.noConfusion h9, bV⟩
theorem Wt (O : Option Addr) (n c : Nat) (K : Option Addr) (m d : Nat) (h : 110 < n) (w : World) :
  Calls Tryz.prog 22 #[kN O n c K m d] w fun e' w' => ∃ b : Bool, e' = .returned (.bool b) ∧ (b = true → n ≤ 110 ∧ m ≤ 120) ∧ Below w.heap.size w w' := by
 have d0 : decide ((12 : Int) < (n : Int)) = true := by simp; omega
 have d1 : decide ((n : Int) ≤ 100) = false := by simp; omega
 have d2 : decide ((110 : Int) < (n : Int)) = true := by simp; omega
 obtain ⟨w0, HW, ai, kC⟩ := st1 (qj O n c K m d) xN w
 have ah := bS w0
 go_in
 go_upto_region 1 with (fail)
 rw [HW.out]
 have zc := kC.out _ ah
 have bV := ag ai.out ah.out
 go_wp2
 go_ret
 exact ⟨false, by first | rfl | simp, fun h9 => Bool.noConfusion h9, bV⟩
theorem Ws (O : Option Addr) (n c : Nat) (K : Option Addr) (m d : Nat) (h : ¬ 12 < n) (h1 : 120 < m) (w : World) :
  Calls Tryz.prog 22 #[kN O n c K m d] w fun e' w' => ∃ b : Bool, e' = .returned (.bool b) ∧ (b = true → n ≤ 110 ∧ m ≤ 120) ∧ Below w.heap.size w w' := by
 have d0 : decide ((12 : Int) < (n : Int)) = false := by simp; omega
 have d2 : decide ((110 : Int) < (n : Int)) = false := by simp; omega
 have d3 : decide ((120 : Int) < (m : Int)) = true := by simp; omega
 obtain ⟨w0, HW, ai, kC⟩ := st1 (qj O n c K m d) xN w
 have ah := bS w0
 go_in
 go_upto_region 1 with (fail)
 rw [HW.out]
 have zc := kC.out _ ah
 have bV := ag ai.out ah.out
 go_wp2
 go_ret
 exact ⟨false, by first | rfl | simp, fun h9 => Bool.noConfusion h9, bV⟩
theorem Wq (O : Option Addr) (n c : Nat) (K : Option Addr) (m d : Nat) (h : ¬ n ≤ 100) (h2 : n ≤ 110) (h1 : 120 < m) (w : World) :
  Calls Tryz.prog 22 #[kN O n c K m d] w fun e' w' => ∃ b : Bool, e' = .returned (.bool b) ∧ (b = true → n ≤ 110 ∧ m ≤ 120) ∧ Below w.heap.size w w' := by
 have d0 : decide ((12 : Int) < (n : Int)) = true := by simp; omega
 have d1 : decide ((n : Int) ≤ 100) = false := by simp; omega
 have d2 : decide ((110 : Int) < (n : Int)) = false := by simp; omega
 have d3 : decide ((120 : Int) < (m : Int)) = true := by simp; omega
 obtain ⟨w0, HW, ai, kC⟩ := st1 (qj O n c K m d) xN w
 have ah := bS w0
 go_in
 go_upto_region 1 with (fail)
 rw [HW.out]
 have zc := kC.out _ ah
 have bV := ag ai.out ah.out
 go_wp2
 go_ret
 exact ⟨false, by first | rfl | simp, fun h9 => Bool.noConfusion h9, bV⟩
theorem Wp (O : Option Addr) (os : List aJ) (n c : Nat) (K : Option Addr) (m d : Nat) (hn : Hid (os.length = n)) (h : ¬ 12 < n) (h1 : ¬ 120 < m) (w : World) (hO : Hid (Os w O os)) :
  Calls Tryz.prog 22 #[kN O n c K m d] w fun e' w' => ∃ b : Bool, e' = .returned (.bool b) ∧ (b = true → n ≤ 110 ∧ m ≤ 120) ∧ Below w.heap.size w w' := by
 have d0 : decide ((12 : Int) < (n : Int)) = false := by simp; omega
 have d2 : decide ((110 : Int) < (n : Int)) = false := by simp; omega
 have d3 : decide ((120 : Int) < (m : Int)) = false := by simp; omega
 obtain ⟨w0, HW, ai, kC⟩ := st1 (qj O n c K m d) xN w
 have Hw := gV (fun u => Os u O os) ai hO (·.below)
 have ah := bS w0
 clear hO
 go_in
 go_upto_region 1 with (fail)
 rw [HW.out]
 have zc := kC.out _ ah
 go_wp2_with fail
 refine (AP O os n c hn (by omega) _ (Hw.out _ ah)).mono ?_
 rintro e w1 ⟨b, rfl, hb0⟩
 have aD := bY ah hb0
 clear zc hb0
 have zc := kC.out _ aD
 have bV := ag ai.out aD.out
 go_wp2
 go_ret
 exact ⟨_, rfl, fun _ => ⟨by omega, by omega⟩, bV⟩
theorem Wo (O : Option Addr) (os : List aJ) (n c : Nat) (K : Option Addr) (m d : Nat) (hn : Hid (os.length = n)) (h : ¬ n ≤ 100) (h2 : n ≤ 110) (h1 : ¬ 120 < m) (w : World) (hO : Hid (Os w O os)) :
  Calls Tryz.prog 22 #[kN O n c K m d] w fun e' w' => ∃ b : Bool, e' = .returned (.bool b) ∧ (b = true → n ≤ 110 ∧ m ≤ 120) ∧ Below w.heap.size w w' := by
 have d0 : decide ((12 : Int) < (n : Int)) = true := by simp; omega
 have d1 : decide ((n : Int) ≤ 100) = false := by simp; omega
 have d2 : decide ((110 : Int) < (n : Int)) = false := by simp; omega
 have d3 : decide ((120 : Int) < (m : Int)) = false := by simp; omega
 obtain ⟨w0, HW, ai, kC⟩ := st1 (qj O n c K m d) xN w
 have Hw := gV (fun u => Os u O os) ai hO (·.below)
 have ah := bS w0
 clear hO
 go_in
 go_upto_region 1 with (fail)
 rw [HW.out]
 have zc := kC.out _ ah
 go_wp2_with fail
 refine (AP O os n c hn (by omega) _ (Hw.out _ ah)).mono ?_
 rintro e w1 ⟨b, rfl, hb0⟩
 have aD := bY ah hb0
 clear zc hb0
 have zc := kC.out _ aD
 have bV := ag ai.out aD.out
 go_wp2
 go_ret
 exact ⟨_, rfl, fun _ => ⟨by omega, by omega⟩, bV⟩
theorem JB (O : Option Addr) (os : List aJ) (n c : Nat) (K : Option Addr) (m d : Nat) (hn : Hid (os.length = n)) (w : World) (hO : Hid (Os w O os)) :
  Calls Tryz.prog 22 #[kN O n c K m d] w fun e' w' => ∃ b : Bool, e' = .returned (.bool b) ∧ (b = true → n ≤ 110 ∧ m ≤ 120) ∧ Below w.heap.size w w' := by
 by_cases h : 12 < n
 ·
  by_cases h1 : n ≤ 100
  · exact Wu O n c K m d h h1 w
  ·
   by_cases h2 : 110 < n
   · exact Wt O n c K m d h2 w
   ·
    by_cases h3 : 120 < m
    · exact Wq O n c K m d h1 (by omega) h3 w
    · exact Wo O os n c K m d hn h1 (by omega) h3 w hO
 ·
  by_cases h3 : 120 < m
  · exact Ws O n c K m d h h3 w
  · exact Wp O os n c K m d hn h h3 w hO
abbrev OY (o : aJ) : List Value := [.int .i64 o.num, .string o.rs, .int .i64 o.E1, .int .i64 o.E2, .slice o.A o.na o.ca, .int .i64 o.C, .slice o.Z o.nz o.cz, .slice o.L o.np o.cp, .int .i64 o.key]
abbrev Y8 (p : a_) : List Value := [.int .i64 p.ix, .int .i64 p.v, .slice p.A p.na p.ca, .int .i64 p.C, .slice p.Z p.nz p.cz]
abbrev Zn (h : List Int) : List Value := h.map (Value.int .u8)
theorem OX : (Tryz.prog.info? 104).map (fun i => (i.zero, i.size, i.bytes)) = some (some (.agg #[.int .i64 0, .string ⟨#[]⟩, .int .i64 0, .int .i64 0, .slice none 0 0, .int .i64 0, .slice none 0 0, .slice none 0 0, .int .i64 0]), 9, 128) := by kernel_rfl
theorem H6 {α : Type _} (f : α → List Value) (s : Nat) (d : α) : ∀ (l : List α) (k r : Nat), (∀ x ∈ l, (f x).length = s) → r < s → k < l.length → (l.flatMap f)[k * s + r]? = (f (l.getD k d))[r]?
 | [], k, r, _, _, hk => absurd hk (by simp)
 | c :: cs, 0, r, h, hr, _ => by
  rw [List.flatMap_cons, Nat.zero_mul, Nat.zero_add, List.getElem?_append_left (by rw [h c (List.mem_cons_self ..)]; exact hr)]
  rfl
 | c :: cs, k + 1, r, h, hr, hk => by
  have hc := h c (List.mem_cons_self ..)
  rw [List.flatMap_cons, List.getElem?_append_right (by rw [hc, Nat.succ_mul]; omega)]
  rw [show (k + 1) * s + r - (f c).length = k * s + r by rw [hc, Nat.succ_mul]; omega]
  rw [H6 f s d cs k r (fun x hx => h x (List.mem_cons_of_mem _ hx)) hr (by simpa using hk)]
  rfl
theorem Jg {α : Type _} (f : α → List Value) (s : Nat) (d : α) {w : World} {base n : Nat} {T : TypeId} {v : Value} {l : List α} (h : w.ownsRow base T s v n (l.flatMap f)) (hn : l.length = n) (hl : ∀ x ∈ l, (f x).length = s) (h0 : 0 < n) :
  ∃ g cap, v = .slice (some ⟨g, 0, none⟩) n cap ∧ base ≤ g ∧ g < w.heap.size ∧ n ≤ cap ∧ (∀ j, w.frozen? ⟨g, j, none⟩ = false) ∧ ∀ k, k < n → ∀ r, r < s → w.cell? ⟨g, k * s + r, none⟩ = (f (l.getD k d))[r]? := by
 rcases h.2 with ⟨_, h3⟩ | ⟨g, cap, cur, rfl, hg, hh, hc, _, hs, ht⟩
 · omega
 ·
  refine ⟨g, cap, rfl, hg, (Array.getElem?_eq_some_iff.1 hh).1, hc, fun j => aX hh j, fun k hk r hr => ?_⟩
  have h1 : k * s + r < n * s := by
   have : (k + 1) * s ≤ n * s := Nat.mul_le_mul_right s hk
   rw [Nat.succ_mul] at this; omega
  rw [ak hh, ← Array.getElem?_toList, ← H6 f s d l k r hl hr (by omega), ← ht, List.getElem?_take_of_lt h1]
section
variable {P : Program} {w : World}
end
def PB (w : World) (b : Nat) (ps : List a_) : Prop := (∀ j, w.frozen? ⟨b, j, none⟩ = false) ∧ ∀ k, k < ps.length → ∀ r, r < 5 → w.cell? ⟨b, k * 5 + r, none⟩ = (Y8 (ps.getD k aF))[r]?
theorem PB.agree {w w' : World} {b : Nat} {ps : List a_} (h : PB w b ps) (e : w'.heap[b]? = w.heap[b]?) : PB w' b ps :=
 ⟨fun j => by have := h.1 j; simp only [World.frozen?, e] at this ⊢; exact this, fun k hk r hr => (mK e).trans (h.2 k hk r hr)⟩
theorem PB.pa {w : World} {b : Nat} {ps : List a_} (h : PB w b ps) (hok : ∀ k, k < ps.length → EF w (ps.getD k aF)) : Pa w (some ⟨b, 0, none⟩) ps := fun k hk => by
 refine ⟨b, 0, rfl, ?_, ?_, ?_, ?_, ?_, hok k hk⟩
 · rw [Nat.zero_add]; exact h.2 k hk 0 (by decide)
 · rw [Nat.zero_add]; exact h.2 k hk 1 (by decide)
 · rw [Nat.zero_add]; exact h.2 k hk 2 (by decide)
 · rw [Nat.zero_add]; exact h.2 k hk 3 (by decide)
 · rw [Nat.zero_add]; exact h.2 k hk 4 (by decide)
abbrev reL (o : aJ) (L : Option Addr) (c : Nat) : aJ := { o with L := L, cp := c }
def Qs (B : Nat) (g : Option Nat) (w : World) (o o' : aJ) : Prop := ∃ L c, o' = reL o L c ∧ o.np ≤ c ∧ (0 < o.np → ∃ b, L = some ⟨b, 0, none⟩ ∧ B < b ∧ b < w.heap.size ∧ g ≠ some b ∧ PB w b o.ps)
theorem Qs.grown {B : Nat} {g g' : Option Nat} {w w' : World} {o o' : aJ} (h : Qs B g w o o') (hg : w.grownBy w' g) (hz : w.heap.size ≤ w'.heap.size) (hgg : ∀ b, g' = some b → g = some b ∨ w.heap.size ≤ b) : Qs B g' w' o o' := by
 obtain ⟨L, c, e, hc, hp⟩ := h
 refine ⟨L, c, e, hc, fun h0 => ?_⟩
 obtain ⟨b, rfl, h1, h2, h3, h4⟩ := hp h0
 exact ⟨b, rfl, h1, by omega, fun e => by rcases hgg b e with e2 | e2; exact h3 e2; omega, h4.agree (hg.block b h2 (fun e => h3 e.symm))⟩
theorem Qs.kept {B : Nat} {g : Option Nat} {w w' : World} {o o' : aJ} (h : Qs B g w o o') (hb : Below w.heap.size w w') : Qs B g w' o o' := by
 obtain ⟨L, c, e, hc, hp⟩ := h
 refine ⟨L, c, e, hc, fun h0 => ?_⟩
 obtain ⟨b, rfl, h1, h2, h3, h4⟩ := hp h0
 exact ⟨b, rfl, h1, by have := hb.size; omega, h3, h4.agree (hb.block b h2)⟩
theorem Qs.setCell {B a j : Nat} {g : Option Nat} {w : World} {o o' : aJ} {v : Value} (h : Qs B g w o o') (ha : a ≤ B) : Qs B g (w.setCell ⟨a, j, none⟩ v) o o' := by
 obtain ⟨L, c, e, hc, hp⟩ := h
 refine ⟨L, c, e, hc, fun h0 => ?_⟩
 obtain ⟨b, rfl, h1, h2, h3, h4⟩ := hp h0
 exact ⟨b, rfl, h1, by rw [World.size_setCell]; exact h2, h3, h4.agree (Go.Deep.blk_setCell_other _ _ _ _ (show b ≠ a by omega))⟩
theorem O3 (w : World) : Calls Tryz.prog 65 #[] w (Rt w (kN none 0 0 none 0 0)) := by
 have ek : Hid ((w.alloc (.cells #[.slice none 0 0, .slice none 0 0] 52)).heap[w.heap.size]? = some (.cells #[.slice none 0 0, .slice none 0 0] 52 (0, 0))) := aa (heap_alloc_new _ _)
 go_in
 go_wp2_with ((with_reducible show wpList _ _ _ (⟨none, _, _, _, _, _⟩ :: _) _ _); refine wpList_store_row rfl 52 _ _ rfl (w.heap.size) #[.slice none 0 0, .slice none 0 0] rfl rfl _ _ ek.out (by kernel_rfl) rfl (by simp [Value.oneCell']) ?_)
 have hrw := setRow_heap _ _ _ #[.slice none 0 0, .slice none 0 0] _ _ ek.out
 exact bodyPost_ret (v := kN none 0 0 none 0 0) (aC (p := 0) (ty := 52) rfl _ _ ⟨w.heap.size, 0, none⟩ _ rfl (run_loadVar_row _ _ _ _ _ _ _ hrw Tryz.underlying52 rfl (by kernel_rfl))) rfl ⟨rfl, aj (af _ _) (Nat.le_refl _)⟩
def O0 (os : List aJ) (n : Nat) : Bool := decide (0 < n) && ((iT os (n - 1)).key == 0)
theorem Sb (O : Option Addr) (c : Nat) (K : Option Addr) (m d : Nat) (w : World) :
  Calls Tryz.prog 120 #[kN O 0 c K m d] w (Rt w (.bool false)) := by
 obtain ⟨w0, HW, ai, kC⟩ := st1 (qj O 0 c K m d) xN w
 have ah := bS w0
 go_in
 go_wp2_with fail
 rw [HW.out]
 have zc := kC.out _ ah
 go_wp2
 go_ret
 exact ⟨rfl, fe ai ah⟩
theorem open_1 (O : Option Addr) (os : List aJ) (n c : Nat) (K : Option Addr) (m d : Nat) (hn : Hid (os.length = n + 1)) (hb : n ≤ 1000000) (r : Bool) (hr : Hid (O0 os (n + 1) = r)) (w : World) (hO : Hid (Os w O os)) :
  Calls Tryz.prog 120 #[kN O (n + 1) c K m d] w (Rt w (.bool r)) := by
 obtain ⟨w0, HW, ai, kC⟩ := st1 (qj O (n + 1) c K m d) xN w
 have Hw := gV (fun u => Os u O os) ai hO (·.below)
 have ah := bS w0
 clear hO
 obtain ⟨b, f, hA, h9, hok⟩ := (Hw.out _ ah).out n (by rw [hn.out]; omega)
 subst hA
 obtain ⟨o, ho⟩ : ∃ o, os.getD n iF = o := ⟨_, rfl⟩
 rw [ho] at h9
 have hr1 := hr.out
 rw [O0, show n + 1 - 1 = n by omega, iT, ho, decide_eq_true (show 0 < n + 1 by omega), Bool.true_and] at hr1
 have HX := aa h9.2.2.2.2.2.2.2.2
 have dw : IntKind.i64.wrap ((n : Int) + 1 - 1) = (n : Int) := by rw [show (n : Int) + 1 - 1 = n by omega]; exact IntWalk.i64_in _ (by omega)
 have WB : wrap64 ((n : Int) + 1 - 1) = (n : Int) := by rw [show (n : Int) + 1 - 1 = n by omega]; exact IntWalk.wrap64_in _ (by omega)
 have adE : decide ((0 : Int) < (n : Int) + 1) = true := decide_eq_true (by omega)
 have x8 := HX.out
 clear ho h9 hok
 go_in
 go_upto_region 1 with (fail)
 rw [HW.out]
 have zc := kC.out _ ah
 go_wp2
 go_ret
 exact ⟨by first | rfl | rw [hr1], fe ai ah⟩
theorem Ew (O : Option Addr) (n c : Nat) (K : Option Addr) (m d : Nat) (w : World) : Calls Tryz.prog 89 #[kN O n c K m d, .int .i64 0] w (Rt w (.agg (arr .u8 (dD 32)))) := by
 obtain ⟨W, hW⟩ : ∃ W, (w.alloc (qj O n c K m d)).alloc (.cells z32 41) = W := ⟨_, rfl⟩
 have bQ : Hid (Below w.heap.size w W) := aa (by rw [← hW]; exact aI (Below.refl _ _))
 have ek : Hid (bB .u8 41 W (w.heap.size + 1) (dD 32)) := aa (by rw [← hW, iP]; exact heap_alloc2_new _ _ _)
 have HW := aa hW
 clear hW
 go_in
 go_upto_region 1 with (fail)
 rw [HW.out]
 go_wp2_with ((with_reducible show wpList _ _ _ (⟨none, _, _, _, _, _⟩ :: _) _ _); refine wpList_store_row rfl 41 _ _ rfl (w.heap.size + 1) (arr .u8 (dD 32)) rfl rfl _ _ ek.out (ax (by simp [dD])) rfl (cu _) ?_)
 have hrw := ek.out.setRow (l' := dD 32)
 exact bodyPost_ret (v := .agg (arr .u8 (dD 32))) (aC (p := 4) (ty := 41) rfl _ _ ⟨w.heap.size + 1, 0, none⟩ _ rfl (run_loadVar_row _ _ _ _ _ _ _ hrw Tryz.underlying41 rfl (ax (by simp [dD])))) rfl ⟨rfl, aj bQ.out (Nat.le_succ _)⟩
theorem MP (O : Option Addr) (os : List aJ) (n c : Nat) (K : Option Addr) (d : Nat) (hn : Hid (os.length = n)) (hI : ∀ k, k < n → gP (iT os k)) (hb1 : n ≤ 1000000) (hr : Kp (jH os [] = true)) (w : World) (hv : Hid (bF w)) (hO : Hid (Os w O os)) (hK : Hid (Hs w K [])) :
  Calls Tryz.prog 67 #[kN O n c K 0 d] w (Rt w (.agg (arr .u8 (dD 32)))) := by
 obtain ⟨w0, HW, ai, kC⟩ := st2 (qj O n c K 0 d) wI (.cells z32 41) xO w
 have kD := r_ ai hv
 have Hw := gV (fun u => Os u O os) ai hO (·.below)
 have O_ := gV (fun u => Hs u K []) ai hK (·.below)
 have yV := aa (show ∀ u : World, Hid (Below w0.heap.size w0 u) → Hid (bB .u8 41 u (w.heap.size + 1) (dD 32)) from fun u h9 => aa (bB.below (by rw [← HW.out, iP]; exact heap_alloc2_new _ _ _) h9.out))
 have ah := bS w0
 clear hv hO hK
 go_in
 go_upto_region 1 with (fail)
 rw [HW.out]
 have zc := kC.out _ ah
 go_wp2_with fail
 clear zc
 refine eB kC ah (l_ O os n c K [] 0 d hn (aa rfl) hI hb1 (by omega) true hr _ (kD.out _ ah) (Hw.out _ ah) (O_.out _ ah)) fun w1 aD zc => ?_
 go_wp2_with fail
 clear zc
 refine eB kC aD (Ew O n c K 0 d _) fun w2 aN zc => ?_
 have vz := yV.out _ aN
 have bV := aj (ag ai.out aN.out) (cs := arr .u8 (dD 32)) (Nat.le_add_right w.heap.size 1)
 go_wp2_with ((with_reducible show wpList _ _ _ (⟨none, _, _, _, _, _⟩ :: _) _ _); refine wpList_store_row rfl 41 _ _ rfl (w.heap.size + 1) (arr .u8 (dD 32)) rfl rfl _ _ vz.out (ax (by simp [dD])) rfl (cu _) ?_)
 have hrw := vz.out.setRow (l' := dD 32)
 exact bodyPost_ret (v := .agg (arr .u8 (dD 32))) (aC (p := 2) (ty := 41) rfl _ _ ⟨w.heap.size + 1, 0, none⟩ _ rfl (run_loadVar_row _ _ _ _ _ _ _ hrw Tryz.underlying41 rfl (ax (by simp [dD])))) rfl ⟨rfl, bV⟩
theorem MR (w : World) : Calls Tryz.prog 128 #[.slice none 0 0] w (Rt w (.slice none 0 0)) := by
 have hq : ∀ w, (binOp .eql 50 (.slice none 0 0) (.slice none 0 0)).run Tryz.prog w = .ok (.bool true) w := fun w => by kernel_rfl
 go_in
 go_wp2
 go_ret
 exact ⟨rfl, Below.refl _ _⟩
theorem MS (w : World) :
  Calls Tryz.prog 75 #[kN none 0 0 none 0 0] w (Rt w (kN none 0 0 none 0 0)) := by
 obtain ⟨w0, HW, ai, kC⟩ := st2 (qj none 0 0 none 0 0) wI (.cells #[.slice none 0 0, .slice none 0 0] 52) xO w
 have yV := O4 (w0 := w0) (o := .cells #[.slice none 0 0, .slice none 0 0] 52) (w.heap.size + 1) (by rw [← HW.out]; exact heap_alloc2_new _ _ _)
 have ah := bS w0
 go_in
 go_upto_region 1 with (fail)
 rw [HW.out]
 have zc := kC.out _ ah
 go_wp2_with fail
 clear zc
 refine eB kC ah (MR _) fun w1 aD zc => ?_
 have hq0 := af w1 (.cells #[.slice none 0 0, .slice none 0 0] 52)
 have aN := bY aD hq0
 clear hq0
 have oQ := kC.out _ aN
 have hbk : (w1.alloc (.cells #[.slice none 0 0, .slice none 0 0] 52)).heap[w1.heap.size]? = some (.cells #[.slice none 0 0, .slice none 0 0] 52) := heap_alloc_new _ _
 have y0 := ak hbk 0
 have y1 := ak hbk 1
 clear hbk
 go_wp2
 go_loopw [16] (fun i u => i = .int .i64 0 ∧ u = w1.alloc (.cells #[.slice none 0 0, .slice none 0 0] 52)) (fun _ _ => 0)
 case atStart => exact ⟨rfl, rfl⟩
 case round =>
  obtain ⟨rfl, rfl⟩ := hrel
  have vz := yV.out _ aN
  have bV := aj (ag ai.out aN.out) (cs := #[.slice none 0 0, .slice none 0 0]) (Nat.le_add_right w.heap.size 1)
  go_wp2_with ((with_reducible show wpList _ _ _ (⟨none, _, _, _, _, _⟩ :: _) _ _); refine wpList_store_row rfl 52 _ _ rfl (w.heap.size + 1) #[.slice none 0 0, .slice none 0 0] rfl rfl _ _ vz.out (by kernel_rfl) rfl (by simp [Value.oneCell']) ?_)
  have hrw := setRow_heap _ _ _ #[.slice none 0 0, .slice none 0 0] _ _ vz.out
  exact bodyPost_ret (v := kN none 0 0 none 0 0) (aC (p := 2) (ty := 52) rfl _ _ ⟨w.heap.size + 1, 0, none⟩ _ rfl (run_loadVar_row _ _ _ _ _ _ _ hrw Tryz.underlying52 rfl (by kernel_rfl))) rfl ⟨rfl, bV⟩
theorem Sl.setRowS {w : World} {A : Option Addr} {xs : List Int} {a : Nat} {cs : Array Value} (h : Sl w A xs) (hne : ∀ b o, A = some ⟨b, o, none⟩ → 0 < xs.length → a < b) : Sl (w.setRow a cs) A xs := fun k hk => by
 obtain ⟨b, o, e, hc⟩ := h k hk
 have := hne b o e (by omega)
 exact ⟨b, o, e, (mK (setRow_other w a b cs (by omega))).trans hc⟩
def TP (na : Nat) (al : List Int) (C : Int) (nz : Nat) (zs : List Int) (w : World) (e : Ending) (w' : World) : Prop := ∃ A ca Z cz, e = .returned (iL A na ca C Z nz cz) ∧ Sl w' A al ∧ Sl w' Z zs ∧ Below w.heap.size w w'
def TQ (na : Nat) (al : List Int) (C : Int) (nz : Nat) (zs : List Int) (w : World) (e : Ending) (w' : World) : Prop := ∃ A ca Z cz, e = .returned (iL A na ca C Z nz cz) ∧ (Sl w' A al ∧ ∀ b o, A = some ⟨b, o, none⟩ → 0 < al.length → w.heap.size ≤ b) ∧ (Sl w' Z zs ∧ ∀ b o, Z = some ⟨b, o, none⟩ → 0 < zs.length → w.heap.size ≤ b) ∧ Below w.heap.size w w'
theorem OU (A : Option Addr) (na ca : Nat) (al : List Int) (C : Int) (Z : Option Addr) (nz cz : Nat) (zs : List Int) (hna : Hid (al.length = na)) (hnz : Hid (zs.length = nz)) (hb1 : na ≤ 100000) (hb2 : nz ≤ 100000) (w : World) (hA : Hid (Sl w A al)) (hZ : Hid (Sl w Z zs)) :
  Calls Tryz.prog 121 #[iL A na ca C Z nz cz] w (TQ na al C nz zs w) := by
 obtain ⟨w0, HW, ai, kC⟩ := st2 (eG A na ca C Z nz cz) gq (.cells #[.slice none 0 0, .int .i64 0, .slice none 0 0] 54) xO w
 have kA := mkS ai hA
 have kZ := mkS ai hZ
 have NM := aa (show ∀ u : World, Hid (Below w0.heap.size w0 u) → ∀ j, u.frozen? ⟨w.heap.size, j, none⟩ = false from fun u h j => aX (bE (by rw [← HW.out]; exact heap_alloc2_old _ _ _) h.out) j)
 have yV := O4 (w0 := w0) (o := .cells #[.slice none 0 0, .int .i64 0, .slice none 0 0] 54) (w.heap.size + 1) (by rw [← HW.out]; exact heap_alloc2_new _ _ _)
 have ah := bS w0
 clear hA hZ
 have nQ : Hid (w0.heap.size = w.heap.size + 2) := aa (by rw [← HW.out]; simp)
 go_in
 go_upto_region 1 with (fail)
 rw [HW.out]
 have hO := kC
 have mP := bY (aa ah.out) (Below.refl _ _).drew
 refine t_ (fun u => Below w0.heap.size w0 u) [7, 8, 9] mP (fun hHeld => ?_)
 obtain ⟨wD, mI⟩ : ∃ u, w0.drew = u := ⟨_, rfl⟩
 rw [mI] at mP hHeld ⊢
 have zk : Hid (w0.heap.size ≤ wD.heap.size) := aa (by rw [← mI]; exact Nat.le_refl _)
 clear mI
 refine aT 0 1 3 4 ?_
 refine IM (fun T a0 hT ha0 => ?_)
 clear hHeld
 have abm : ∀ (aA : Option Addr) (cA : Nat) (aZ : Option Addr) (cZ : Nat) (u : World), (Hid (Below w0.heap.size w0 u)) → (Hid (Sl u aA al ∧ (∀ b o, aA = some ⟨b, o, none⟩ → 0 < al.length → w.heap.size + 1 < b))) → (Hid (Sl u aZ zs ∧ (∀ b o, aZ = some ⟨b, o, none⟩ → 0 < zs.length → w.heap.size + 1 < b))) → T 3 #[true, true, true, true, true, true, true, false, false, false] (((a0.put (some 5) (.slice aA na cA)).put (some 9) (.pointer (some ⟨w.heap.size, 0, none⟩))).put (some 8) (.slice aZ nz cZ)) u := by
  intro aA cA aZ cZ u FB HA HZ
  have hHeld := FB
  rw [hT, ha0]
  try simp only [qq]
  have sK := FB
  obtain ⟨q0, q1, q2, -⟩ := kC.out _ (aa FB.out)
  have f0 := NM.out _ (aa FB.out) 0
  have f1 := NM.out _ (aa FB.out) 1
  have f2 := NM.out _ (aa FB.out) 2
  refine mR 7 fun K hK => ?_
  go_simp
  refine hK.out _ _ ?_
  clear hK K
  try simp only [qq]
  refine mR 8 fun K hK => ?_
  go_simp
  refine hK.out _ _ ?_
  clear hK K
  try simp only [qq]
  refine mR 9 fun K hK => ?_
  go_simp
  refine hK.out _ _ ?_
  clear hK K
  try simp only [qq]
  refine gz ?_
  obtain ⟨wz, hwz⟩ : ∃ x, ((u.setCell ⟨w.heap.size, 0, none⟩ (.slice aA na cA)).setCell ⟨w.heap.size, 2, none⟩ (.slice aZ nz cZ)) = x := ⟨_, rfl⟩
  have z0 : Own wz ⟨w.heap.size, 0, none⟩ (.slice aA na cA) := by rw [← hwz]; exact aK (dI ⟨q0, f0⟩) (by simp)
  have z1 : Own wz ⟨w.heap.size, 1, none⟩ (.int .i64 C) := by rw [← hwz]; exact aK (aK ⟨q1, f1⟩ (by simp)) (by simp)
  have z2 : Own wz ⟨w.heap.size, 2, none⟩ (.slice aZ nz cZ) := by rw [← hwz]; exact dI (aK ⟨q2, f2⟩ (by simp))
  have qC : Hid (Below w.heap.size w wz) := aa (by rw [← hwz]; exact ((ag ai.out FB.out).setCell (Nat.le_refl _) _).setCell (Nat.le_refl _) _)
  have vz : Hid (wz.heap[w.heap.size + 1]? = some (.cells #[.slice none 0 0, .int .i64 0, .slice none 0 0] 54)) := aa (by rw [← hwz]; exact (Go.Deep.blk_setCell_other _ _ _ _ (show w.heap.size + 1 ≠ w.heap.size by omega)).trans ((Go.Deep.blk_setCell_other _ _ _ _ (show w.heap.size + 1 ≠ w.heap.size by omega)).trans (yV.out _ (aa FB.out)).out))
  have YW : Hid (Sl wz aA al) := aa (by rw [← hwz]; exact (HA.out.1.set (fun b o e h0 => by have := HA.out.2 b o e h0; omega)).set (fun b o e h0 => by have := HA.out.2 b o e h0; omega))
  have HZ9 : Hid (Sl wz aZ zs) := aa (by rw [← hwz]; exact (HZ.out.1.set (fun b o e h0 => by have := HZ.out.2 b o e h0; omega)).set (fun b o e h0 => by have := HZ.out.2 b o e h0; omega))
  rw [hwz]
  clear hwz q0 f0 q1 f1 q2 f2 hHeld
  obtain ⟨z0, y0⟩ := z0
  obtain ⟨z1, y1⟩ := z1
  obtain ⟨z2, y2⟩ := z2
  go_wp2_with ((with_reducible show wpList _ _ _ (⟨none, _, _, _, _, _⟩ :: _) _ _); refine wpList_store_row rfl 54 _ _ rfl (w.heap.size + 1) #[.slice aA na cA, .int .i64 C, .slice aZ nz cZ] rfl rfl _ _ vz.out (by kernel_rfl) rfl (by simp [Value.oneCell']) ?_)
  have hrw := setRow_heap _ _ _ #[.slice aA na cA, .int .i64 C, .slice aZ nz cZ] _ _ vz.out
  have bV := aj qC.out (cs := #[.slice aA na cA, .int .i64 C, .slice aZ nz cZ]) (Nat.le_add_right w.heap.size 1)
  exact bodyPost_ret (v := iL aA na cA C aZ nz cZ) (aC (p := 2) (ty := 54) rfl _ _ ⟨w.heap.size + 1, 0, none⟩ _ rfl (run_loadVar_row _ _ _ _ _ _ _ hrw Tryz.underlying54 rfl (by kernel_rfl))) rfl ⟨aA, cA, aZ, cZ, rfl, ⟨YW.out.setRowS (fun b o e h0 => by have := HA.out.2 b o e h0; omega), fun b o e h0 => by have := HA.out.2 b o e h0; omega⟩, ⟨HZ9.out.setRowS (fun b o e h0 => by have := HZ.out.2 b o e h0; omega), fun b o e h0 => by have := HZ.out.2 b o e h0; omega⟩, bV⟩
 have G2 : ∀ (aA : Option Addr) (cA : Nat) (u : World), (Hid (Below w0.heap.size w0 u)) → (Hid (Sl u aA al ∧ (∀ b o, aA = some ⟨b, o, none⟩ → 0 < al.length → w.heap.size + 1 < b))) → T 4 #[true, true, true, true, true, false, true, false, false, false] ((a0.put (some 5) (.slice aA na cA)).put (some 9) (.pointer (some ⟨w.heap.size, 0, none⟩))) u := by
  intro aA cA u FB HA
  have hHeld := FB
  rw [hT, ha0]
  try simp only [qq]
  refine bW 5 fun K hK => ?_
  go_simp
  refine (za Z zs nz cz hnz (by omega) _ (kZ.out _ (aa FB.out))).mono ?_
  rintro e wB ⟨aB, cB, rfl, FQ, ZC, hq⟩
  have aR := bY FB hq
  refine hK.out _ _ aR (fun hHeld => ?_)
  clear hK K hHeld
  try simp only [qq]
  have hG := abm aA cA aB cB wB aR (aa ⟨HA.out.1.below hq, HA.out.2⟩) (aa ⟨FQ, fun b o e h0 => by obtain ⟨g9, e9, SX⟩ := ZC h0; rw [e9] at e; cases e; have := FB.out.size; have := nQ.out; omega⟩)
  rw [hT, ha0] at hG
  (try simp only [qq] at hG)
  exact hG
 have G0 : ∀  (u : World), (Hid (Below w0.heap.size w0 u)) → T 6 #[true, true, false, true, true, false, false, false, false, false] a0 u := by
  intro  u FB
  have hHeld := FB
  rw [hT, ha0]
  try simp only [qq]
  refine bW 2 fun K hK => ?_
  go_simp
  refine (za A al na ca hna (by omega) _ (kA.out _ (aa FB.out))).mono ?_
  rintro e wB ⟨aB, cB, rfl, FQ, ZC, hq⟩
  have aR := bY FB hq
  refine hK.out _ _ aR (fun hHeld => ?_)
  clear hK K
  try simp only [qq]
  refine aH 6 ?_
  clear hHeld
  have hG := G2 aB cB wB aR (aa ⟨FQ, fun b o e h0 => by obtain ⟨g9, e9, SX⟩ := ZC h0; rw [e9] at e; cases e; have := FB.out.size; have := nQ.out; omega⟩)
  rw [hT, ha0] at hG
  (try simp only [qq] at hG)
  exact hG
 exact G0 _ mP
theorem Jd (A : Option Addr) (na ca : Nat) (al : List Int) (C : Int) (Z : Option Addr) (nz cz : Nat) (zs : List Int) (hna : Hid (al.length = na)) (hnz : Hid (zs.length = nz)) (hb1 : na ≤ 100000) (hb2 : nz ≤ 100000) (w : World) (hA : Hid (Sl w A al)) (hZ : Hid (Sl w Z zs)) :
  Calls Tryz.prog 121 #[iL A na ca C Z nz cz] w (TP na al C nz zs w) := (OU A na ca al C Z nz cz zs hna hnz hb1 hb2 w hA hZ).mono (by rintro e w9 ⟨A, ca, Z, cz, rfl, h1, h2, h3⟩; exact ⟨A, ca, Z, cz, rfl, h1.1, h2.1, h3⟩)
theorem G9 {g t n c : Nat} (h : g ≠ t) : (Value.slice (some ⟨g, 0, none⟩) n c).ownBlock ≠ some t := fun e => h (by simpa [Value.ownBlock] using e)
theorem Sa (O : Option Addr) (os : List aJ) (n c : Nat) (K : Option Addr) (hs : List (List Int)) (m d : Nat) (hn : Hid (os.length = n + 1)) (hm : Hid (hs.length = m)) (hI : ∀ k, k < n + 1 → gP (iT os k)) (hb1 : n + 1 ≤ 1000000) (hb2 : m ≤ 1000000) (E1 E2 : Int) (A : Option Addr) (na ca : Nat) (C : Int) (Z : Option Addr) (nz cz : Nat) (s : ByteArray) (hrs : Hid (IY s = true)) (hsh : Hid (tZ na nz = true)) (hr : Kp (jH os hs = true)) (ho9 : Hid (O0 os (n + 1) = true)) (w : World) (hv : Hid (bF w)) (hO : Hid (Os w O os)) (hK : Hid (Hs w K hs)) :
  Calls Tryz.prog 64 #[kN O (n + 1) c K m d, .string s, zK E1 E2 A na ca C Z nz cz] w (Rt w (.tuple #[kN none 0 0 none 0 0, .int .i64 0, .int .i64 6])) := by
 obtain ⟨w0, HW, ai, kC⟩ := qF (qj O (n + 1) c K m d) wI (Ed E1 E2 A na ca C Z nz cz) J6 (.cells #[.slice none 0 0, .slice none 0 0] 52) xO w
 have kD := r_ ai hv
 have Hw := gV (fun u => Os u O os) ai hO (·.below)
 have O_ := gV (fun u => Hs u K hs) ai hK (·.below)
 have yV := O4 (w0 := w0) (o := .cells #[.slice none 0 0, .slice none 0 0] 52) (w.heap.size + 2) (by rw [← HW.out]; exact gU _ _ _ _)
 have ah := bS w0
 clear hv hO hK
 go_in
 go_upto_region 1 with (fail)
 rw [HW.out]
 have zc := kC.out _ ah
 go_wp2_with fail
 clear zc
 refine eB kC ah (l_ O os (n + 1) c K hs m d hn hm hI hb1 hb2 true hr _ (kD.out _ ah) (Hw.out _ ah) (O_.out _ ah)) fun w1 aD zc => ?_
 go_wp2_with fail
 refine (jc s true hrs _).mono ?_
 rintro e9 w9 ⟨rfl, uM⟩
 rw [uM]
 clear uM
 go_wp2_with fail
 clear zc
 refine eB kC aD (fK A na ca C Z nz cz true hsh _) fun w2 aN zc => ?_
 go_wp2_with fail
 clear zc
 refine eB kC aN (open_1 O os n c K m d hn (by omega) true ho9 _ (Hw.out _ aN)) fun w3 bu zc => ?_
 have vz := yV.out _ bu
 have bV := aj (ag ai.out bu.out) (cs := #[.slice none 0 0, .slice none 0 0]) (Nat.le_add_right w.heap.size 2)
 go_wp2_with ((with_reducible show wpList _ _ _ (⟨none, _, _, _, _, _⟩ :: _) _ _); refine wpList_store_row rfl 52 _ _ rfl (w.heap.size + 2) #[.slice none 0 0, .slice none 0 0] rfl rfl _ _ vz.out (by kernel_rfl) rfl (by simp [Value.oneCell']) ?_)
 have hrw := setRow_heap _ _ _ #[.slice none 0 0, .slice none 0 0] _ _ vz.out
 exact bodyPost_ret (v := .tuple #[kN none 0 0 none 0 0, .int .i64 0, .int .i64 6]) (g_ (p := 6) (q := 7) (r := 8) (ty := 52) rfl _ _ ⟨w.heap.size + 2, 0, none⟩ _ _ _ rfl rfl rfl (run_loadVar_row _ _ _ _ _ _ _ hrw Tryz.underlying52 rfl (by kernel_rfl))) rfl ⟨rfl, bV⟩
def aah (s : ByteArray) (w : World) (e : Ending) (w' : World) : Prop := ∃ (g cap : Nat) (A : Option Addr) (ca : Nat) (Z : Option Addr) (cz : Nat), e = .returned (.tuple #[kN (some ⟨g, 0, none⟩) 1 cap none 0 0, .int .i64 0, .int .i64 0]) ∧ Os w' (some ⟨g, 0, none⟩) [⟨0, s, 1, 1, A, 0, ca, [], 0, Z, 0, cz, [], none, 0, 0, [], 0⟩] ∧ Below w.heap.size w w'
theorem R_ (s : ByteArray) (hrs : Hid (IY s = true)) (w : World) (hv : Hid (bF w)) :
  Calls Tryz.prog 64 #[kN none 0 0 none 0 0, .string s, zK 1 1 none 0 0 0 none 0 0] w (aah s w) := by
 obtain ⟨w0, HW, ai, kC⟩ := qF (qj none 0 0 none 0 0) wI (Ed 1 1 none 0 0 0 none 0 0) J6 (.cells #[.slice none 0 0, .slice none 0 0] 52) xO w
 have kD := r_ ai hv
 have NM := aa (show ∀ u : World, Hid (Below w0.heap.size w0 u) → ∀ j, u.frozen? ⟨w.heap.size + 1, j, none⟩ = false from fun u h j => aX (bE (by rw [← HW.out]; exact bE (heap_alloc2_new _ _ _) (af _ _)) h.out) j)
 have yV := O4 (w0 := w0) (o := .cells #[.slice none 0 0, .slice none 0 0] 52) (w.heap.size + 2) (by rw [← HW.out]; exact gU _ _ _ _)
 have ah := bS w0
 clear hv
 go_in
 go_upto_region 1 with (fail)
 rw [HW.out]
 have zc := kC.out _ ah
 have nQ : Hid (w0.heap.size = w.heap.size + 3) := aa (by rw [← HW.out]; simp)
 obtain ⟨i1, hi1, hy0, hy1, hy2⟩ := info_parts OX
 go_wp2_with fail
 clear zc
 refine eB kC ah (l_ none [] 0 0 none [] 0 0 (aa rfl) (aa rfl) (fun k h => absurd h (by omega)) (by omega) (by omega) true ⟨by decide⟩ _ (kD.out _ ah) (aa (fun k h => absurd h (by simp))) (aa (fun k h => absurd h (by simp)))) fun w1 aD zc => ?_
 go_wp2_with fail
 refine (jc s true hrs _).mono ?_
 rintro e9 w9 ⟨rfl, uM⟩
 rw [uM]
 clear uM
 go_wp2_with fail
 clear zc
 refine eB kC aD (fK none 0 0 0 none 0 0 true (aa rfl) _) fun w2 aN zc => ?_
 go_wp2_with fail
 clear zc
 refine eB kC aN (Sb none 0 none 0 0 _) fun w3 bu zc => ?_
 go_wp2_with fail
 refine (Jd none 0 0 [] 0 none 0 0 [] (aa rfl) (aa rfl) (by omega) (by omega) _ (aa (sl0 _ _)) (aa (sl0 _ _))).mono ?_
 rintro e w4 ⟨A, ca, Z, cz, rfl, _, _, hb0⟩
 have dm := bY bu hb0
 clear zc hb0
 have zc := kC.out _ dm
 have f0 := NM.out _ dm 0
 have f1 := NM.out _ dm 1
 have f2 := NM.out _ dm 2
 have f3 := NM.out _ dm 3
 have f4 := NM.out _ dm 4
 go_upto_region 10 with (fail)
 clear zc
 obtain ⟨zW, zV, Cq, Co, Cn, Cm, Ck, -⟩ := kC.out _ dm
 obtain ⟨wz, hwz⟩ : ∃ x, (((w4.setCell ⟨w.heap.size + 1, 2, none⟩ (.slice A 0 ca)).setCell ⟨w.heap.size + 1, 3, none⟩ (.int .i64 0)).setCell ⟨w.heap.size + 1, 4, none⟩ (.slice Z 0 cz)) = x := ⟨_, rfl⟩
 have HE : Hid (wz.cell? ⟨w.heap.size + 1, 0, none⟩ = some (.int .i64 1) ∧ wz.cell? ⟨w.heap.size + 1, 1, none⟩ = some (.int .i64 1) ∧ wz.cell? ⟨w.heap.size + 1, 2, none⟩ = some (.slice A 0 ca) ∧ wz.cell? ⟨w.heap.size + 1, 3, none⟩ = some (.int .i64 0) ∧ wz.cell? ⟨w.heap.size + 1, 4, none⟩ = some (.slice Z 0 cz)) := aa (by
  rw [← hwz]
  exact ⟨(aK (aK (aK ⟨Cq, f0⟩ (by simp)) (by simp)) (by simp)).1, (aK (aK (aK ⟨Co, f1⟩ (by simp)) (by simp)) (by simp)).1, (aK (aK (dI ⟨Cn, f2⟩) (by simp)) (by simp)).1, (aK (dI (aK ⟨Cm, f3⟩ (by simp))) (by simp)).1, (dI (aK (aK ⟨Ck, f4⟩ (by simp)) (by simp))).1⟩)
 have HT : Hid (wz.cell? ⟨w.heap.size, 0, none⟩ = some (.slice none 0 0) ∧ wz.cell? ⟨w.heap.size, 1, none⟩ = some (.slice none 0 0)) := aa (by
  rw [← hwz]
  exact ⟨by rw [World.cell?_setCell_other _ _ _ _ (by simp), World.cell?_setCell_other _ _ _ _ (by simp), World.cell?_setCell_other _ _ _ _ (by simp)]; exact zW, by rw [World.cell?_setCell_other _ _ _ _ (by simp), World.cell?_setCell_other _ _ _ _ (by simp), World.cell?_setCell_other _ _ _ _ (by simp)]; exact zV⟩)
 have qC : Hid (Below w.heap.size w wz) := aa (by rw [← hwz]; exact (((ag ai.out dm.out).setCell (by simp) _).setCell (by simp) _).setCell (by simp) _)
 have HRz : Hid (wz.heap[w.heap.size + 2]? = some (.cells #[.slice none 0 0, .slice none 0 0] 52)) := aa (by rw [← hwz]; exact (Go.Deep.blk_setCell_other _ _ _ _ (show w.heap.size + 2 ≠ w.heap.size + 1 by omega)).trans ((Go.Deep.blk_setCell_other _ _ _ _ (show w.heap.size + 2 ≠ w.heap.size + 1 by omega)).trans ((Go.Deep.blk_setCell_other _ _ _ _ (show w.heap.size + 2 ≠ w.heap.size + 1 by omega)).trans (yV.out _ dm).out)))
 have TW : Hid (w.heap.size + 3 ≤ wz.heap.size) := aa (by rw [← hwz, World.size_setCell, World.size_setCell, World.size_setCell]; have := (dm).out.size; have := nQ.out; omega)
 rw [hwz]
 clear hwz f0 f1 f2 f3 f4
 clear zW zV Cq Co Cn Cm Ck
 clear kC NM kD
 have kC := aa (show ∀ u : World, Hid (Below wz.heap.size wz u) → u.cell? ⟨w.heap.size, 0, none⟩ = some (.slice none 0 0) ∧ u.cell? ⟨w.heap.size, 1, none⟩ = some (.slice none 0 0) from fun u h => ⟨cell_below HT.out.1 h.out, cell_below HT.out.2 h.out⟩)
 have abb : Hid (Below wz.heap.size wz wz) := aa (Below.refl _ _)
 have hO := kC
 have mP := bY (aa abb.out) (Below.refl _ _).drew
 refine t_ (fun u => Below wz.heap.size wz u) [7] mP (fun hHeld => ?_)
 obtain ⟨wD, mI⟩ : ∃ u, wz.drew = u := ⟨_, rfl⟩
 rw [mI] at mP hHeld ⊢
 have zk : Hid (wz.heap.size ≤ wD.heap.size) := aa (by rw [← mI]; exact Nat.le_refl _)
 clear mI
 refine aT 0 2 3 4 ?_
 refine Yf fun a0 ha0 => ?_
 clear hHeld
 refine Oo [1, 5, 6] [[], [], [0, 1]] [[2], [2], []] 1 #[true, true, true, true, true, true, true, false] (fun bs a u => ∃ (xD wX rD : Bool) (gT : Nat), bs = [xD, wX, rD] ∧ a = ((a0.put (some 42) (cond xD (kN none 0 0 none 0 0) undef)).put (some 9) (cond wX (.pointer (some ⟨gT, 0, none⟩)) undef)) ∧ Hid (Below wz.heap.size wz u) ∧ (wX = true → Hid (u.heap[gT]? = some (.cells #[.slice none 0 0, .slice none 0 0] 52))) ∧ (wX = true → Hid (wz.heap.size ≤ gT))) ⟨false, false, false, 0, rfl, by rw [ha0]; simp only [qq], mP, nofun, nofun⟩ ?_ ⟨?_, ?_, ?_, trivial⟩
 ·
  rintro bs a u hbs ⟨xD, wX, rD, gT, rfl, rfl, FB, lI, eF⟩
  obtain ⟨rfl, rfl, rfl⟩ : xD = true ∧ wX = true ∧ rD = true := by simpa using hbs
  have FT := lI rfl
  have Q7 := eF rfl
  clear lI eF
  have hHeld := FB
  have hT := trivial
  rw [ha0]
  simp only [qq]
  have acv := FB
  refine mR 7 fun K hK => ?_
  go_simp
  refine hK.out _ _ ?_
  clear hK K
  try simp only [qq]
  refine gz ?_
  clear hHeld hT ha0
  obtain ⟨wq, hwq⟩ : ∃ x, u = x := ⟨_, rfl⟩
  have P_ : Hid (wq.heap[gT]? = some (.cells #[.slice none 0 0, .slice none 0 0] 52)) := aa (by rw [← hwq]; exact FT.out)
  have Iq : Hid (Below wz.heap.size wz wq) := aa (by rw [← hwq]; exact FB.out)
  rw [hwq]
  clear hwq FT
  have HE5 : Hid (wq.cell? ⟨w.heap.size + 1, 0, none⟩ = some (.int .i64 1) ∧ wq.cell? ⟨w.heap.size + 1, 1, none⟩ = some (.int .i64 1) ∧ wq.cell? ⟨w.heap.size + 1, 2, none⟩ = some (.slice A 0 ca) ∧ wq.cell? ⟨w.heap.size + 1, 3, none⟩ = some (.int .i64 0) ∧ wq.cell? ⟨w.heap.size + 1, 4, none⟩ = some (.slice Z 0 cz)) := aa ⟨cell_below HE.out.1 Iq.out, cell_below HE.out.2.1 Iq.out, cell_below HE.out.2.2.1 Iq.out, cell_below HE.out.2.2.2.1 Iq.out, cell_below HE.out.2.2.2.2 Iq.out⟩
  obtain ⟨e0, e1, e2, e3, e4⟩ := HE5.out
  have t0 := ak P_.out 0
  have t1 := ak P_.out 1
  have y0 := aX P_.out 0
  have hown : (wq.alloc (.cells #[.int .i64 0, .string s, .int .i64 1, .int .i64 1, .slice A 0 ca, .int .i64 0, .slice Z 0 cz, .slice none 0 0, .int .i64 0] 104)).ownsRow wq.heap.size 104 9 (.slice none 0 0) 0 [] := World.ownsRow_nil _ _ _ _
  have b5 : 0 + 1 ≤ maxLen := by unfold maxLen; omega
  have HTa := aa (af wq (.cells #[.int .i64 0, .string s, .int .i64 1, .int .i64 1, .slice A 0 ca, .int .i64 0, .slice Z 0 cz, .slice none 0 0, .int .i64 0] 104))
  have V6 : (Value.slice none 0 0).ownBlock ≠ some gT := fun e => by cases e
  go_upto_region 12 with (at_builtin; refine wpList_append_lies rfl _ _ 49 rfl wq.heap.size 104 i1 (.agg #[.int .i64 0, .string ⟨#[]⟩, .int .i64 0, .int .i64 0, .slice none 0 0, .int .i64 0, .slice none 0 0, .slice none 0 0, .int .i64 0]) 9 128 Tryz.underlying49 hi1 hy0 hy1 hy2 (by rfl) (by decide) _ _ _ rfl hown ⟨wq.heap.size, 0, none⟩ 1 1 [.int .i64 0, .string s, .int .i64 1, .int .i64 1, .slice A 0 ca, .int .i64 0, .slice Z 0 cz, .slice none 0 0, .int .i64 0] rfl rfl (World.news_of_block (cs := #[.int .i64 0, .string s, .int .i64 1, .int .i64 1, .slice A 0 ca, .int .i64 0, .slice Z 0 cz, .slice none 0 0, .int .i64 0]) (t := 104) (fr := (0, 0)) (heap_alloc_new wq _)) (by simp [Value.oneCell']) (by decide) b5 (by decide) (by simp) _ rfl ?_; intro gg cap w8 Aw qU ZB SQ; obtain ⟨p1, p2⟩ := bP (w := wq.alloc (.cells #[.int .i64 0, .string s, .int .i64 1, .int .i64 1, .slice A 0 ca, .int .i64 0, .slice Z 0 cz, .slice none 0 0, .int .i64 0] 104)) ((show Own wq ⟨gT, 0, none⟩ (.slice none 0 0) from ⟨t0, y0⟩).below HTa.out) qU V6; obtain ⟨p3, p4⟩ := bP (w := wq.alloc (.cells #[.int .i64 0, .string s, .int .i64 1, .int .i64 1, .slice A 0 ca, .int .i64 0, .slice Z 0 cz, .slice none 0 0, .int .i64 0] 104)) ((show Own wq ⟨gT, 1, none⟩ (.slice none 0 0) from ⟨t1, aX P_.out 1⟩).below HTa.out) qU V6)
  have Mh : w8.ownsRow wq.heap.size 104 9 (.slice (some ⟨gg, 0, none⟩) 1 cap) 1 ([(⟨0, s, 1, 1, A, 0, ca, [], 0, Z, 0, cz, [], none, 0, 0, [], 0⟩ : aJ)].flatMap OY) := by simpa using Aw
  have zw : Hid (Below wq.heap.size wq w8) := aa (((Below.refl wq.heap.size wq).alloc (Nat.le_refl _) (.cells #[.int .i64 0, .string s, .int .i64 1, .int .i64 1, .slice A 0 ca, .int .i64 0, .slice Z 0 cz, .slice none 0 0, .int .i64 0] 104)).grown qU (by simp) (fun j hj => by cases hj))
  have hgq : wq.heap.size ≤ gg := (World.ownsRow.lt Mh gg rfl).1
  have hgT : gT < wq.heap.size := BJ P_.out
  obtain ⟨w9, uM⟩ : ∃ x, w8.setCell ⟨gT, 0, none⟩ (.slice (some ⟨gg, 0, none⟩) 1 cap) = x := ⟨_, rfl⟩
  have T0 : Own w9 ⟨gT, 0, none⟩ (.slice (some ⟨gg, 0, none⟩) 1 cap) := by rw [← uM]; exact dI ⟨p1, p2⟩
  have T1 : Own w9 ⟨gT, 1, none⟩ (.slice none 0 0) := by rw [← uM]; exact aK ⟨p3, p4⟩ (by simp)
  have HO9 : Hid (w9.ownsRow wq.heap.size 104 9 (.slice (some ⟨gg, 0, none⟩) 1 cap) 1 ([(⟨0, s, 1, 1, A, 0, ca, [], 0, Z, 0, cz, [], none, 0, 0, [], 0⟩ : aJ)].flatMap OY)) := aa (by rw [← uM]; exact World.ownsRow.kept Mh (pQ _ _ _ _) (Or.inr (G9 (by omega))))
  have CG : Hid (Below wz.heap.size wz w9) := aa (by rw [← uM]; exact (ag Iq.out zw.out).setCell Q7.out _)
  have HR9 : Hid (w9.heap[w.heap.size + 2]? = some (.cells #[.slice none 0 0, .slice none 0 0] 52)) := aa (bE HRz.out CG.out)
  rw [uM]
  clear uM hown Aw Mh qU ZB SQ p1 p2 p3 p4 e0 e1 e2 e3 e4 t0 t1 y0 b5 hgq hgT
  obtain ⟨t0, y0⟩ := T0
  obtain ⟨t1, y1⟩ := T1
  go_wp2_with ((with_reducible show wpList _ _ _ (⟨none, _, _, _, _, _⟩ :: _) _ _); refine wpList_store_row rfl 52 _ _ rfl (w.heap.size + 2) #[.slice (some ⟨gg, 0, none⟩) 1 cap, .slice none 0 0] rfl rfl _ _ HR9.out (by kernel_rfl) rfl (by simp [Value.oneCell']) ?_)
  have hrw := setRow_heap _ _ _ #[.slice (some ⟨gg, 0, none⟩) 1 cap, .slice none 0 0] _ _ HR9.out
  have bV := aj (ag qC.out CG.out) (cs := #[.slice (some ⟨gg, 0, none⟩) 1 cap, .slice none 0 0]) (Nat.le_add_right w.heap.size 2)
  have Um := World.ownsRow.kept HO9.out (pO w9 (w.heap.size + 2) #[.slice (some ⟨gg, 0, none⟩) 1 cap, .slice none 0 0]) (Or.inr (G9 (by have := (World.ownsRow.lt HO9.out gg rfl).1; have := Iq.out.size; have := TW.out; omega)))
  obtain ⟨g5, cap5, e5, _, _, _, _, BK⟩ := Jg OY 9 iF Um rfl (fun _ _ => rfl) (by decide)
  cases e5
  refine bodyPost_ret (v := .tuple #[kN (some ⟨gg, 0, none⟩) 1 cap none 0 0, .int .i64 0, .int .i64 0]) (g_ (p := 6) (q := 7) (r := 8) (ty := 52) rfl _ _ ⟨w.heap.size + 2, 0, none⟩ _ _ _ rfl rfl rfl (run_loadVar_row _ _ _ _ _ _ _ hrw Tryz.underlying52 rfl (by kernel_rfl))) rfl ⟨gg, cap, A, ca, Z, cz, rfl, fun k hk => ?_, bV⟩
  obtain rfl : k = 0 := by simpa using hk
  refine ⟨gg, 0, rfl, ⟨?_, ?_, ?_, ?_, ?_, ?_, ?_, ?_, ?_⟩, rfl, rfl, ⟨rfl, Nat.le_refl _⟩, sl0 _ _, sl0 _ _, fun j hj => absurd hj (by simp)⟩
  all_goals simp only [Nat.zero_mul, Nat.add_zero, Nat.zero_add]
  · have h9 := BK 0 (by decide) 0 (by decide); simpa using h9
  · have h9 := BK 0 (by decide) 1 (by decide); simpa using h9
  · have h9 := BK 0 (by decide) 2 (by decide); simpa using h9
  · have h9 := BK 0 (by decide) 3 (by decide); simpa using h9
  · have h9 := BK 0 (by decide) 4 (by decide); simpa using h9
  · have h9 := BK 0 (by decide) 5 (by decide); simpa using h9
  · have h9 := BK 0 (by decide) 6 (by decide); simpa using h9
  · have h9 := BK 0 (by decide) 7 (by decide); simpa using h9
  · have h9 := BK 0 (by decide) 8 (by decide); simpa using h9
 ·
  rintro bs a u ⟨xD, wX, rD, gT, rfl, rfl, FB, lI, eF⟩ hr
  simp [jb, and_assoc] at hr
  obtain ⟨rfl, rfl⟩ := hr
  refine ⟨_, rfl, fun K hK => ?_⟩
  rw [ha0]
  simp only [qq]
  go_simp
  refine (MS _).mono ?_
  rintro e wB ⟨rfl, hq⟩
  have aR := bY FB hq
  refine hK.out _ _ aR ⟨true, wX, false, gT, rfl, ?_, aR, fun e => aa (bE (lI e).out hq), fun e => (eF e)⟩
  rw [ha0]
  simp only [qq]
  try rfl
 ·
  rintro bs a u ⟨xD, wX, rD, gT, rfl, rfl, FB, lI, eF⟩ hr
  simp [jb, and_assoc] at hr
  obtain ⟨rfl, rfl⟩ := hr
  refine ⟨_, rfl, fun K hK => ?_⟩
  rw [ha0]
  simp only [qq]
  go_simp
  have aR := bY FB (af u (.cells #[.slice none 0 0, .slice none 0 0] 52))
  refine hK.out _ _ aR ⟨xD, true, false, u.heap.size, rfl, ?_, aR, fun _ => (aa (heap_alloc_new u _)), fun _ => (aa FB.out.size)⟩
  rw [ha0]
  simp only [qq]
  try rfl
 ·
  rintro bs a u ⟨xD, wX, rD, gT, rfl, rfl, FB, lI, eF⟩ hr
  simp [jb, and_assoc] at hr
  obtain ⟨rfl, rfl, rfl⟩ := hr
  have FT := lI rfl
  have Q7 := eF rfl
  refine ⟨_, rfl, fun K hK => ?_⟩
  rw [ha0]
  simp only [qq]
  rw [show (if Region.wanted _ _ = true then _ else _ : Prop) = _ from if_pos rfl]
  refine wp_store_row 52 _ _ rfl gT #[.slice none 0 0, .slice none 0 0] rfl rfl 52 _ FT.out (by kernel_rfl) rfl (by simp [Value.oneCell']) ?_
  have aR : Hid (Below wz.heap.size wz (u.setRow gT #[.slice none 0 0, .slice none 0 0])) := aa (aj FB.out Q7.out)
  refine hK.out _ _ aR ⟨true, true, true, gT, rfl, ?_, aR, fun _ => (aa (setRow_heap _ _ _ _ _ _ FT.out)), fun _ => Q7⟩
  rw [ha0]
  simp only [qq]
  try rfl
theorem wR {ops : Array Oper} {rest : List Oper} {o : Oper} {a : Act} {w : World} {Q : Exit → Act → World → Prop} (hw : Region.wanted o (yielded ops a.tmps) = true) (x y : Operand) (t : TypeId) (ho : o.op = .binOp .eql 41 x y t)
  (h h' : List Int) (hl : h.length = 32) (hl' : h'.length = 32) (hx : a.eval x = .agg (arr .u8 h)) (hy : a.eval y = .agg (arr .u8 h')) (r : Bool) (hr : (h == h') = r)
  (hK : wpList Tryz.prog ops Q rest (a.put o.dst (.bool r)) w) : wpList Tryz.prog ops Q (o :: rest) a w :=
 wpList_step fun K hK' => by
  rw [if_pos hw]
  unfold Oper.wp execOp
  simp only [ho, hx, hy, Sem.run_bind, run_eqGuard_agg (P := Tryz.prog) w .eql 41 x y _ _ Dx, run_eql_struct, og (P := Tryz.prog) w 9998 41 5 32 (by kernel_rfl) (by kernel_rfl) Qt h h' hl hl', hr, Result.andThen_ok]
  exact hK' _ _ hK
theorem xP (w : World) (hv : Hid (bF w)) :
  Calls Tryz.prog 21 #[] w (Rt w (.bool true)) := by
 obtain ⟨w0, hW⟩ : ∃ W, w = W := ⟨_, rfl⟩
 have ai : Hid (Below w.heap.size w w0) := aa (by rw [← hW]; exact Below.refl _ _)
 have kC := aa (show ∀ u : World, Hid (Below w0.heap.size w0 u) → True from fun _ _ => trivial)
 have kD := aa (show ∀ u : World, Hid (Below w0.heap.size w0 u) → Hid (bF u) from fun u h => aa ((hv.out.below) (ag ai.out h.out)))
 have ah : Hid (Below w0.heap.size w0 w0) := aa (Below.refl _ _)
 have HW := aa hW
 clear hW hv
 go_in
 go_wp2_with fail
 rw [HW.out]
 have zc := kC.out _ ah
 go_wp2_with fail
 clear zc
 refine Yx ah (O3 _) fun w1 aD => ?_
 have zc := kC.out _ aD
 go_wp2_with fail
 refine (R_ ⟨#[119, 104, 121]⟩ (aa rfl) _ (kD.out _ aD)).mono ?_
 rintro e w2 ⟨g, cap, A, ca, Z, cz, rfl, hos, hb0⟩
 have HOS := aa hos
 clear hos
 have aN := bY aD hb0
 clear zc hb0
 have zc := kC.out _ aN
 have bg := bS w2
 have kO := wh (w := w2) (fun u => Os u (some ⟨g, 0, none⟩) [(⟨0, ⟨#[119, 104, 121]⟩, 1, 1, A, 0, ca, [], 0, Z, 0, cz, [], none, 0, 0, [], 0⟩ : aJ)]) HOS.out (·.below)
 have hI : ∀ k, k < 0 + 1 → gP (iT [(⟨0, ⟨#[119, 104, 121]⟩, 1, 1, A, 0, ca, [], 0, Z, 0, cz, [], none, 0, 0, [], 0⟩ : aJ)] k) := fun k hk => by
  obtain rfl : k = 0 := by omega
  show i64 0 ∧ i64 1 ∧ i64 1 ∧ i64 0 ∧ i64 0 ∧ (∀ x ∈ ([] : List Int), i64 x) ∧ (∀ x ∈ ([] : List Int), i64 x) ∧ ∀ p ∈ ([] : List a_), EE p
  exact ⟨⟨by decide, by decide⟩, ⟨by decide, by decide⟩, ⟨by decide, by decide⟩, ⟨by decide, by decide⟩, ⟨by decide, by decide⟩, fun x hx => absurd hx (by simp), fun x hx => absurd hx (by simp), fun x hx => absurd hx (by simp)⟩
 have HI := aa hI
 have HTR : Kp (jH [(⟨0, ⟨#[119, 104, 121]⟩, 1, 1, A, 0, ca, [], 0, Z, 0, cz, [], none, 0, 0, [], 0⟩ : aJ)] [] = true) := ⟨by rfl⟩
 have HON : Hid (O0 [(⟨0, ⟨#[119, 104, 121]⟩, 1, 1, A, 0, ca, [], 0, Z, 0, cz, [], none, 0, 0, [], 0⟩ : aJ)] (0 + 1) = true) := aa (by rfl)
 clear hI
 obtain ⟨w3, hw, EU, Qb, -, kT⟩ := sI (qj (some ⟨g, 0, none⟩) 1 cap none 0 0) xN w2
 have bu := pY aN EU
 have gu := pY bg EU
 have eO := bS w3
 clear EU
 clear zc
 have Il := aa hw
 clear hw
 have zc := kC.out _ bu
 have GK := kT.out _ eO
 try rw [← Il.out] at zc
 try rw [← Il.out] at GK
 go_wp2_with fail
 rw [Il.out]
 clear zc GK
 have zc := kC.out _ bu
 have GK := kT.out _ eO
 go_wp2_with fail
 clear zc GK
 refine rW bu gu eO (Sa (some ⟨g, 0, none⟩) [(⟨0, ⟨#[119, 104, 121]⟩, 1, 1, A, 0, ca, [], 0, Z, 0, cz, [], none, 0, 0, [], 0⟩ : aJ)] 0 cap none [] 0 0 (aa rfl) (aa rfl) HI.out (by omega) (by omega) 0 0 none 0 0 0 none 0 0 ⟨#[119, 104, 121]⟩ (aa rfl) (aa rfl) HTR HON _ (kD.out _ bu) (kO.out _ gu) (aa (fun k h => absurd h (by simp)))) fun w4 dm lX nI => ?_
 have zc := kC.out _ dm
 have GK := kT.out _ nI
 obtain ⟨w5, hw, YJ, adX, -, Yl⟩ := sI (qj none 0 0 none 0 0) xN w4
 have jh := pY dm YJ
 have IA := pY lX YJ
 have qg := pY nI YJ
 have Ci := bS w5
 clear YJ
 clear zc GK
 have Il := aa hw
 clear hw
 have zc := kC.out _ jh
 have GK := kT.out _ qg
 have EY := Yl.out _ Ci
 try rw [← Il.out] at zc
 try rw [← Il.out] at GK
 try rw [← Il.out] at EY
 go_wp2_with fail
 rw [Il.out]
 clear zc GK EY
 have zc := kC.out _ jh
 have GK := kT.out _ qg
 have EY := Yl.out _ Ci
 go_wp2_with fail
 refine (l_ (some ⟨g, 0, none⟩) [(⟨0, ⟨#[119, 104, 121]⟩, 1, 1, A, 0, ca, [], 0, Z, 0, cz, [], none, 0, 0, [], 0⟩ : aJ)] 1 cap none [] 0 0 (aa rfl) (aa rfl) HI.out (by omega) (by omega) true HTR _ (kD.out _ jh) (kO.out _ IA) (aa (fun k h => absurd h (by simp)))).mono ?_
 rintro e w6 ⟨rfl, hb0⟩
 have uZ := bY jh hb0
 have Iz := bY IA hb0
 have Iy := bY qg hb0
 have Iw := bY Ci hb0
 clear zc GK EY hb0
 have zc := kC.out _ uZ
 have GK := kT.out _ Iy
 have EY := Yl.out _ Iw
 go_wp2_with fail
 refine (MP (some ⟨g, 0, none⟩) [(⟨0, ⟨#[119, 104, 121]⟩, 1, 1, A, 0, ca, [], 0, Z, 0, cz, [], none, 0, 0, [], 0⟩ : aJ)] 1 cap none 0 (aa rfl) HI.out (by omega) HTR _ (kD.out _ uZ) (kO.out _ Iz) (aa (fun k h => absurd h (by simp)))).mono ?_
 rintro e w7 ⟨rfl, hb0⟩
 have GI := bY uZ hb0
 have YU := bY Iz hb0
 have Qo := bY Iy hb0
 have Qn := bY Iw hb0
 clear zc GK EY hb0
 have zc := kC.out _ GI
 have GK := kT.out _ Qo
 have EY := Yl.out _ Qn
 have bV := ag ai.out GI.out
 go_wp2_with ((with_reducible show wpList _ _ _ (⟨some 51, _, _, _, _, _⟩ :: _) _ _); refine wR (by rfl) _ _ _ rfl (dD 32) (dD 32) (by simp [dD]) (by simp [dD]) rfl rfl true (by simp) ?_)
 go_ret
 exact ⟨rfl, bV⟩
theorem Jc (O : Option Addr) (n c : Nat) (K : Option Addr) (m d : Nat) (w : World) : Calls Tryz.prog 91 #[kN O n c K m d, .int .i64 0] w (Rt w (.agg (arr .u8 (dD 32)))) := by
 obtain ⟨W, hW⟩ : ∃ W, (w.alloc (qj O n c K m d)).alloc (.cells z32 41) = W := ⟨_, rfl⟩
 have bQ : Hid (Below w.heap.size w W) := aa (by rw [← hW]; exact aI (Below.refl _ _))
 have ek : Hid (bB .u8 41 W (w.heap.size + 1) (dD 32)) := aa (by rw [← hW, iP]; exact heap_alloc2_new _ _ _)
 have HW := aa hW
 clear hW
 go_in
 go_upto_region 1 with (fail)
 rw [HW.out]
 go_wp2_with ((with_reducible show wpList _ _ _ (⟨none, _, _, _, _, _⟩ :: _) _ _); refine wpList_store_row rfl 41 _ _ rfl (w.heap.size + 1) (arr .u8 (dD 32)) rfl rfl _ _ ek.out (ax (by simp [dD])) rfl (cu _) ?_)
 have hrw := ek.out.setRow (l' := (dD 32))
 exact bodyPost_ret (v := .agg (arr .u8 (dD 32))) (aC (p := 4) (ty := 41) rfl _ _ ⟨w.heap.size + 1, 0, none⟩ _ rfl (run_loadVar_row _ _ _ _ _ _ _ hrw Tryz.underlying41 rfl (ax (by simp [dD])))) rfl ⟨rfl, aj bQ.out (Nat.le_succ _)⟩
theorem Jb (O : Option Addr) (n c : Nat) (K : Option Addr) (hs : List (List Int)) (m d k : Nat) (hm : Hid (hs.length = m)) (hk : k < m) (hb2 : m ≤ 1000000) (w : World) (hK : Hid (Hs w K hs)) : Calls Tryz.prog 91 #[kN O n c K m d, .int .i64 ((k : Int) + 1)] w (Rt w (.agg (arr .u8 (hsL hs k)))) := by
 have d0 : decide ((k : Int) + 1 = 0) = false := by simp; omega
 have dw : IntKind.i64.wrap ((k : Int) + 1 - 1) = (k : Int) := by rw [show (k : Int) + 1 - 1 = (k : Int) by omega]; exact IntWalk.i64_in _ (by omega)
 have WB : wrap64 ((k : Int) + 1 - 1) = (k : Int) := by rw [show (k : Int) + 1 - 1 = (k : Int) by omega]; exact IntWalk.wrap64_in _ (by omega)
 obtain ⟨W, hW⟩ : ∃ W, (w.alloc (qj O n c K m d)).alloc (.cells z32 41) = W := ⟨_, rfl⟩
 have bQ : Hid (Below w.heap.size w W) := aa (by rw [← hW]; exact aI (Below.refl _ _))
 have ek : Hid (bB .u8 41 W (w.heap.size + 1) (dD 32)) := aa (by rw [← hW, iP]; exact heap_alloc2_new _ _ _)
 have hc : W.cell? ⟨w.heap.size, 0, none⟩ = some (.slice O n c) ∧ W.cell? ⟨w.heap.size, 1, none⟩ = some (.slice K m d) := by rw [← hW]; exact ⟨cell_below (dz (by simp) (by rfl)) (af _ _), cell_below (dz (by simp) (by rfl)) (af _ _)⟩
 obtain ⟨zW, zV⟩ := hc
 obtain ⟨b, o, rfl, hl, hrg0⟩ := hK.out k (by rw [hm.out]; exact hk)
 have hrg := aa (fQ hrg0 bQ.out)
 obtain ⟨h, hh⟩ : ∃ h, hsL hs k = h := ⟨_, rfl⟩
 rw [hh] at hrg hl
 rw [hh]
 clear hrg0 hK hm hh
 have HW := aa hW
 clear hW
 go_in
 go_upto_region 1 with (fail)
 rw [HW.out]
 go_wp2_with (first | (with_reducible show wpList _ _ _ (⟨_, .load 41 _, _, _, _, _⟩ :: _) _ _; refine wpList_load_mid rfl _ _ rfl b (o + k * 32) rfl (h.map (Value.int .u8)) _ hrg.out Tryz.underlying41 rfl (ou hl) ?_) | ((with_reducible show wpList _ _ _ (⟨none, _, _, _, _, _⟩ :: _) _ _); refine wpList_store_row rfl 41 _ _ rfl (w.heap.size + 1) (arr .u8 h) rfl rfl _ _ ek.out (ax hl) (dY (by simp [dD]) hl) (cu _) ?_))
 have hrw := ek.out.setRow (l' := h)
 exact bodyPost_ret (v := .agg (arr .u8 h)) (aC (p := 4) (ty := 41) rfl _ _ ⟨w.heap.size + 1, 0, none⟩ _ rfl (run_loadVar_row _ _ _ _ _ _ _ hrw Tryz.underlying41 rfl (ax hl))) rfl ⟨rfl, aj bQ.out (Nat.le_succ _)⟩
structure wO {α : Type _} (f : α → List Value) (s : Nat) (d : α) (w : World) (g : Nat) (l : List α) (tot : Nat) : Prop where
 at_ : ∀ k, k < l.length → w.rangeAt g (k * s) (f (l.getD k d))
 there : w.there g 0 (tot * s)
 le : l.length ≤ tot
theorem wO.agree {α : Type _} {f : α → List Value} {s : Nat} {d : α} {w w' : World} {g tot : Nat} {l : List α} (h : wO f s d w g l tot) (e : w'.heap[g]? = w.heap[g]?) : wO f s d w' g l tot :=
 ⟨fun k hk j v hj => (mK e).trans (h.at_ k hk j v hj), fun j hj => ⟨by rw [mK e]; exact (h.there j hj).1, by have := (h.there j hj).2; simp only [World.frozen?, e] at this ⊢; exact this⟩, h.le⟩
theorem Mx {α : Type _} {l : List α} {i k : Nat} {x d : α} (hi : i < l.length) : (l.set i x).getD k d = if k = i then x else l.getD k d := by
 rw [List.getD_eq_getElem?_getD, List.getElem?_set]
 by_cases e : k = i
 · subst e; simp [hi]
 · rw [if_neg (fun h => e h.symm), if_neg e, List.getD_eq_getElem?_getD]
theorem I1 {k i s : Nat} (h : k ≠ i) : k * s + s ≤ i * s ∨ i * s + s ≤ k * s := by
 rcases Nat.lt_or_gt_of_ne h with h | h
 · left; have := Nat.mul_le_mul_right s h; rw [Nat.succ_mul] at this; exact this
 · right; have := Nat.mul_le_mul_right s h; rw [Nat.succ_mul] at this; exact this
theorem wO.setCell {α : Type _} {f : α → List Value} {s : Nat} {d : α} {w : World} {g tot : Nat} {l : List α} (h : wO f s d w g l tot) (hl : ∀ x ∈ l, (f x).length = s) {i r : Nat} {x : α} {v : Value} (hi : i < l.length) (hr : r < s)
  (hx : f x = (f (l.getD i d)).set r v) : wO f s d (w.setCell ⟨g, i * s + r, none⟩ v) g (l.set i x) tot := by
 have hlen : ∀ k, k < l.length → (f (l.getD k d)).length = s := fun k hk => by
  rw [List.getD_eq_getElem?_getD, List.getElem?_eq_getElem hk]
  exact hl _ (List.getElem_mem _)
 refine ⟨fun k hk j u hj => ?_, fun j hj => ⟨?_, by rw [World.frozen?_setCell]; exact (h.there j hj).2⟩, by rw [List.length_set]; exact h.le⟩
 ·
  rw [List.length_set] at hk
  rw [Mx hi] at hj
  by_cases e : k = i
  ·
   subst e
   rw [if_pos rfl, hx] at hj
   by_cases e2 : j = r
   ·
    subst e2
    rw [List.getElem?_set_self (by rw [hlen k hk]; exact hr)] at hj
    cases hj
    have h0 := h.at_ k hk j _ (List.getElem?_eq_getElem (by rw [hlen k hk]; exact hr))
    exact World.cell?_setCell_same _ _ _ h0
   ·
    rw [List.getElem?_set_ne (fun h => e2 h.symm)] at hj
    rw [World.cell?_setCell_other _ _ _ _ (fun e3 => by simp at e3 <;> omega)]
    exact h.at_ k hk j u hj
  ·
   rw [if_neg e] at hj
   have hj2 : j < s := by rw [← hlen k hk]; exact (List.getElem?_eq_some_iff.1 hj).1
   rw [World.cell?_setCell_other _ _ _ _ (fun e3 => by
    have := I1 (s := s) e
    simp at e3 <;> omega)]
   exact h.at_ k hk j u hj
 ·
  obtain ⟨u, hu⟩ := Option.isSome_iff_exists.1 (h.there j hj).1
  by_cases e : (⟨g, 0 + j, none⟩ : Addr) = ⟨g, i * s + r, none⟩
  · rw [← e, World.cell?_setCell_same _ _ _ hu] <;> rfl
  · rw [World.cell?_setCell_other _ _ _ _ (fun e2 => e (by first | exact e2 | exact e2.symm)), hu]; rfl
theorem nZ {os : List aJ} {hs : List (List Int)} (h : jH os hs = true) : xy os hs os.length os.length = true ∧ wF os os.length = hs.length ∧ os.length ≤ 100 := by
 simp only [jH, Bool.and_eq_true, beq_iff_eq, decide_eq_true_eq] at h
 exact ⟨h.2.1, h.2.2, h.1⟩
theorem QN (os : List aJ) : ∀ k, wF os k ≤ k
 | 0 => Nat.le_refl _
 | k + 1 => by have := QN os k; rw [wF]; split <;> omega
theorem Gg {os : List aJ} {hs : List (List Int)} (h : jH os hs = true) {i : Nat} (hi : i < hs.length) : i < os.length ∧ (iT os i).key ≠ 0 := by
 obtain ⟨h1, h2, _⟩ := nZ h
 have h3 := QN os os.length
 have hlt : i < os.length := by omega
 refine ⟨hlt, fun e => ?_⟩
 have h4 := (lY (o6 h1 i hlt)).2.2.1 e
 have h6 : xy os hs os.length i = true := by
  cases e6 : xy os hs os.length i with
  | true => rfl
  | false => rw [yu e6 _ (by omega)] at h1; cases h1
 have h5 := H_ h6 hlt
 rw [← h4, wF, if_pos e, h5] at h2
 omega
theorem Hr {os : List aJ} {hs : List (List Int)} (h : jH os hs = true) {i : Nat} (hi : i < os.length) (hk : (iT os i).key ≠ 0) : i < hs.length ∧ hsL hs i = hbL os (i + 1) :=
 (lY (o6 (nZ h).1 i hi)).2.2.2 hk
def lC (hs : List (List Int)) (i : Nat) : List Int := if i = 0 then dD 32 else hsL hs (i - 1)
theorem BX {os : List aJ} {hs : List (List Int)} (h : jH os hs = true) {i : Nat} (hi : i ≤ hs.length) : lC hs i = hbL os i := by
 unfold lC
 by_cases e : i = 0
 · subst e; rfl
 ·
  rw [if_neg e]
  obtain ⟨h1, h2⟩ := Gg h (i := i - 1) (by omega)
  have h3 := (Hr h h1 h2).2
  rw [h3]; congr 1; omega
structure El (wB u : World) (N g gK : Nat) (o : aJ) : Prop where
 la : o.al.length = o.na
 lz : o.zs.length = o.nz
 lp : o.ps.length = o.np ∧ o.np ≤ o.cp
 A : Sl wB o.A o.al
 Z : Sl wB o.Z o.zs
 p : ∀ k, k < o.ps.length → EF wB (o.ps.getD k aF)
 b : 0 < o.np → ∃ b, o.L = some ⟨b, 0, none⟩ ∧ b ≠ g ∧ b ≠ gK ∧ wB.heap.size ≤ b ∧ b < N ∧ PB u b o.ps
theorem El.agree {wB u u' : World} {N g gK : Nat} {o : aJ} (h : El wB u N g gK o) (he : ∀ b, b ≠ g → b ≠ gK → b < N → u'.heap[b]? = u.heap[b]?) : El wB u' N g gK o :=
 ⟨h.la, h.lz, h.lp, h.A, h.Z, h.p, fun h0 => by
  obtain ⟨b, h1, h2, h3, h4, h5, h6⟩ := h.b h0
  exact ⟨b, h1, h2, h3, h4, h5, h6.agree (he b h2 h3 h5)⟩⟩
theorem El.ok {wB u : World} {N g gK : Nat} {o : aJ} (h : El wB u N g gK o) (hb : Below wB.heap.size wB u) : gy u o := by
 refine ⟨h.la, h.lz, h.lp, h.A.below hb, h.Z.below hb, fun k hk => ?_⟩
 obtain ⟨b, h1, _, _, _, _, h4⟩ := h.b (by have := h.lp.1; omega)
 rw [h1]
 exact h4.pa (fun k hk => (h.p k hk).below hb) k hk
structure Cpd (wB u : World) (N g gK : Nat) (os : List aJ) (hs : List (List Int)) (n m : Nat) : Prop where
 bel : Below wB.heap.size wB u
 ro : wO OY 9 iF u g os n
 rk : wO Zn 32 [] u gK hs m
 el : ∀ o ∈ os, El wB u N g gK o
 ne : g ≠ gK
 lg : wB.heap.size ≤ g ∧ g < N
 lk : wB.heap.size ≤ gK ∧ gK < N
section
variable {wB u u' : World} {N g gK n m : Nat} {os : List aJ} {hs : List (List Int)}
theorem Cpd.keep (h : Cpd wB u N g gK os hs n m) (he : ∀ b, b < N → u'.heap[b]? = u.heap[b]?) (hb : Below wB.heap.size wB u') : Cpd wB u' N g gK os hs n m :=
 ⟨hb, h.ro.agree (he g h.lg.2), h.rk.agree (he gK h.lk.2), fun o ho => (h.el o ho).agree fun b _ _ hb => he b hb, h.ne, h.lg, h.lk⟩
end
theorem Nf (O : Option Addr) (n c : Nat) (K : Option Addr) (hs : List (List Int)) (m d k : Nat) (hm : Hid (hs.length = m)) (hk : k < m) (hb2 : m ≤ 1000000) (w : World) (hK : Hid (Hs w K hs)) : Calls Tryz.prog 89 #[kN O n c K m d, .int .i64 ((k : Int) + 1)] w (Rt w (.agg (arr .u8 (hsL hs k)))) := by
 have d0 : decide ((k : Int) + 1 = 0) = false := by simp; omega
 have dw : IntKind.i64.wrap ((k : Int) + 1 - 1) = (k : Int) := by rw [show (k : Int) + 1 - 1 = (k : Int) by omega]; exact IntWalk.i64_in _ (by omega)
 have WB : wrap64 ((k : Int) + 1 - 1) = (k : Int) := by rw [show (k : Int) + 1 - 1 = (k : Int) by omega]; exact IntWalk.wrap64_in _ (by omega)
 obtain ⟨W, hW⟩ : ∃ W, (w.alloc (qj O n c K m d)).alloc (.cells z32 41) = W := ⟨_, rfl⟩
 have bQ : Hid (Below w.heap.size w W) := aa (by rw [← hW]; exact aI (Below.refl _ _))
 have ek : Hid (bB .u8 41 W (w.heap.size + 1) (dD 32)) := aa (by rw [← hW, iP]; exact heap_alloc2_new _ _ _)
 have hc : W.cell? ⟨w.heap.size, 0, none⟩ = some (.slice O n c) ∧ W.cell? ⟨w.heap.size, 1, none⟩ = some (.slice K m d) := by rw [← hW]; exact ⟨cell_below (dz (by simp) (by rfl)) (af _ _), cell_below (dz (by simp) (by rfl)) (af _ _)⟩
 obtain ⟨zW, zV⟩ := hc
 obtain ⟨b, o, rfl, hl, hrg0⟩ := hK.out k (by rw [hm.out]; exact hk)
 have hrg := aa (fQ hrg0 bQ.out)
 obtain ⟨h, hh⟩ : ∃ h, hsL hs k = h := ⟨_, rfl⟩
 rw [hh] at hrg hl
 rw [hh]
 clear hrg0 hK hm hh
 have HW := aa hW
 clear hW
 go_in
 go_upto_region 1 with (fail)
 rw [HW.out]
 go_wp2_with (first | (with_reducible show wpList _ _ _ (⟨_, .load 41 _, _, _, _, _⟩ :: _) _ _; refine wpList_load_mid rfl _ _ rfl b (o + k * 32) rfl (h.map (Value.int .u8)) _ hrg.out Tryz.underlying41 rfl (ou hl) ?_) | ((with_reducible show wpList _ _ _ (⟨none, _, _, _, _, _⟩ :: _) _ _); refine wpList_store_row rfl 41 _ _ rfl (w.heap.size + 1) (arr .u8 h) rfl rfl _ _ ek.out (ax hl) (dY (by simp [dD]) hl) (cu _) ?_))
 have hrw := ek.out.setRow (l' := h)
 exact bodyPost_ret (v := .agg (arr .u8 h)) (aC (p := 4) (ty := 41) rfl _ _ ⟨w.heap.size + 1, 0, none⟩ _ rfl (run_loadVar_row _ _ _ _ _ _ _ hrw Tryz.underlying41 rfl (ax hl))) rfl ⟨rfl, aj bQ.out (Nat.le_succ _)⟩
theorem Gr (O : Option Addr) (n c : Nat) (K : Option Addr) (hs : List (List Int)) (m d i : Nat) (hm : Hid (hs.length = m)) (hi : i ≤ m) (hb2 : m ≤ 1000000) (w : World) (hK : Hid (Hs w K hs)) : Calls Tryz.prog 89 #[kN O n c K m d, .int .i64 (i : Int)] w (Rt w (.agg (arr .u8 (lC hs i)))) := by
 cases i with
 | zero => exact Ew O n c K m d w
 | succ k => exact Nf O n c K hs m d k hm (by omega) hb2 w hK
theorem Dn (O : Option Addr) (n c : Nat) (K : Option Addr) (hs : List (List Int)) (m d i : Nat) (hm : Hid (hs.length = m)) (hi : i ≤ m) (hb2 : m ≤ 1000000) (w : World) (hK : Hid (Hs w K hs)) : Calls Tryz.prog 91 #[kN O n c K m d, .int .i64 (i : Int)] w (Rt w (.agg (arr .u8 (lC hs i)))) := by
 cases i with
 | zero => exact Jc O n c K m d w
 | succ k => exact Jb O n c K hs m d k hm (by omega) hb2 w hK
theorem lZ (A : Option Addr) (l : List Int) (n c : Nat) (hn : Hid (l.length = n)) (hbig : n ≤ 1000000) (w : World) (hs : Hid (Sl w A l)) :
  Calls Tryz.prog 176 #[.slice A n c] w (mM (.lst (l.map .int)) w) := by
 obtain ⟨i0, hi, hz0, hz1, hz2⟩ := info_parts iV
 obtain ⟨W, hW⟩ : ∃ W, (w.alloc (.cells #[.int .i64 0, .int .i64 0, .slice none 0 0, .slice none 0 0] 117)).alloc (.cells #[.int .i64 3, .int .i64 0, .slice none 0 0, .slice none 0 0] 117) = W := ⟨_, rfl⟩
 have bQ : Hid (Below w.heap.size w W) := aa (by rw [← hW]; exact aI (Below.refl _ _))
 have lG : Hid (W.heap.size = w.heap.size + 2) := aa (by rw [← hW]; simp)
 have hF : Four W (w.heap.size + 1) 0 ⟨3, 0, none, 0, 0, none, 0, 0⟩ := by
  rw [← hW]
  have h := heap_alloc2_new w (.cells #[.int .i64 0, .int .i64 0, .slice none 0 0, .slice none 0 0] 117) (.cells #[.int .i64 3, .int .i64 0, .slice none 0 0, .slice none 0 0] 117)
  exact ⟨ak h 0, ak h 1, ak h 2, ak h 3⟩
 have hf0 : ∀ j, W.frozen? ⟨w.heap.size + 1, j, none⟩ = false := by
  rw [← hW]
  exact fun j => aX (heap_alloc2_new _ _ _) j
 have HG : Hid ((Four W w.heap.size 0 ⟨0, 0, none, 0, 0, none, 0, 0⟩) ∧ ∀ j, W.frozen? ⟨w.heap.size, j, none⟩ = false) := aa (by
  rw [← hW]
  have h := heap_alloc2_old w (.cells #[.int .i64 0, .int .i64 0, .slice none 0 0, .slice none 0 0] 117) (.cells #[.int .i64 3, .int .i64 0, .slice none 0 0, .slice none 0 0] 117)
  exact ⟨⟨ak h 0, ak h 1, ak h 2, ak h 3⟩, fun j => aX h j⟩)
 have UE : Hid (W.heap[w.heap.size]? = some (.cells #[.int .i64 0, .int .i64 0, .slice none 0 0, .slice none 0 0] 117 (0, 0))) := aa (by rw [← hW]; exact heap_alloc2_old w _ _)
 have HS := aa hs.out
 have HW := aa hW
 have HX : Hid (Own W ⟨w.heap.size + 1, 0, none⟩ (.int .i64 3) ∧ Own W ⟨w.heap.size + 1, 1, none⟩ (.int .i64 0) ∧ Own W ⟨w.heap.size + 1, 2, none⟩ (.slice none 0 0)) := aa ⟨⟨hF.1, hf0 0⟩, ⟨hF.2.1, hf0 1⟩, ⟨hF.2.2.1, hf0 2⟩⟩
 have HL : Hid (Own W ⟨w.heap.size + 1, 3, none⟩ (.slice none 0 0)) := aa ⟨hF.2.2.2, hf0 3⟩
 clear hW hs hF hf0
 go_in
 go_wp2
 rw [HW.out]
 go_loopw [4] (fun i u => ∃ (k : Nat) (v : Value), k ≤ n ∧ i = .int .i64 k ∧ Hid (Own u ⟨w.heap.size + 1, 3, none⟩ v) ∧ Hid (dM u (w.heap.size + 2) v ((l.take k).map aM)) ∧ Hid (Own u ⟨w.heap.size + 1, 0, none⟩ (.int .i64 3) ∧ Own u ⟨w.heap.size + 1, 1, none⟩ (.int .i64 0) ∧ Own u ⟨w.heap.size + 1, 2, none⟩ (.slice none 0 0)) ∧ Hid (Below (w.heap.size + 1) W u)) (fun i _ => n - (intOf i).toNat)
 case atStart => exact ⟨0, _, by omega, rfl, HL, aa (qN _ _), HX, aa (Below.refl _ _)⟩
 case round =>
  obtain ⟨k, v, hk, rfl, HV, HO, nH, au⟩ := hrel
  by_cases hlt : k < n
  ·
   have hkl : k < l.length := by rw [hn.out]; exact hlt
   obtain ⟨b, o, hA, hc⟩ := (HS.out.below (bQ.out.trans (au.out.mono (Nat.le_succ _)))) k hkl
   subst hA
   have xu := aa (tH hkl)
   obtain ⟨x, hx⟩ : ∃ x, l.getD k 0 = x := ⟨_, rfl⟩
   rw [hx] at hc xu
   have qB : Hid (((l.take k).map aM).length = k) := aa (by rw [List.length_map, List.length_take]; omega)
   have hown : wr.ownsRow (w.heap.size + 2) 117 4 v k (((l.take k).map aM).flatMap aS) := by have h := HO.out; unfold dM at h; rwa [qB.out] at h
   have hbs : w.heap.size + 2 ≤ wr.heap.size := by have := au.out.size; have := lG.out; omega
   have hno : v.ownBlock ≠ some (w.heap.size + 1) := HO.out.no (by omega)
   obtain ⟨v3, Oh⟩ := HV.out
   have hS := aa (show ∀ u1 : World, Hid (Below wr.drew.heap.size wr.drew u1) → (u1.cell? ⟨w.heap.size + 1, 3, none⟩ = some v ∧ u1.cell? ⟨b, o + k, none⟩ = some (.int .i64 x) ∧ Hid (Below wr.drew.heap.size wr.drew u1)) from fun u1 h1 => ⟨cell_below (w := wr.drew) v3 h1.out, cell_below (w := wr.drew) hc h1.out, h1⟩)
   have HOWN := aa hown
   clear hx hkl hown v3 Oh hc
   go_wp2
   refine bD (S := fun w' => w'.cell? ⟨w.heap.size + 1, 3, none⟩ = some v ∧ w'.cell? ⟨b, o + k, none⟩ = some (.int .i64 x) ∧ Hid (Below wr.drew.heap.size wr.drew w')) (E := [8, 9, 10]) (by kernel_rfl) (hS.out _ (aa (Below.refl _ _))) (fun hHeld => ?_)
   refine bN 0 ?_
   refine bN 1 ?_
   refine bN 2 ?_
   refine bN 3 ?_
   refine bN 4 ?_
   refine bN 5 ?_
   refine bN 6 ?_
   refine bW 7 fun K hK => ?_
   go_simp
   refine hK.out _ _ ?_ (fun hHeld => ?_)
   · exact hS.out _ (aa (af _ _))
   clear hK K
   try simp only [qq]
   refine mR 8 fun K hK => ?_
   refine step_append_lies _ (by rfl) _ _ _ (by rfl) (w.heap.size + 2) 117 i0 _ 4 64 Tryz.underlying115 hi hz0 hz1 hz2 rfl (by omega) v k (((l.take k).map aM).flatMap aS) (by rfl) ((HOWN.out.alloc _).drew)
    ⟨wr.heap.size, 0, none⟩ 1 1 [.int .i64 1, .int .i64 x, .slice none 0 0, .slice none 0 0] (by rfl) (by rfl) (World.news_of_block (cs := #[.int .i64 1, .int .i64 x, .slice none 0 0, .slice none 0 0]) (t := 117) (fr := (0, 0)) (heap_alloc_new wr _)) (by simp [Value.oneCell'])
    (by omega) (by unfold maxLen; omega) (by omega) (by simp; omega) (wr.heap.size + 1) (by simp) ?_; intro gg cap wz hown1 hgrow hat hlt2
   have Gv := bP (w := (wr.alloc (.cells #[.int .i64 1, .int .i64 x, .slice none 0 0, .slice none 0 0] 117)).drew) (HV.out.below (af wr (.cells #[.int .i64 1, .int .i64 x, .slice none 0 0, .slice none 0 0] 117)).drew) hgrow hno
   have TU := Gv
   obtain ⟨p2, f2⟩ := TU
   refine hK.out _ _ ?_
   clear hK K
   try simp only [qq]
   refine mR 9 fun K hK => ?_
   go_simp
   refine hK.out _ _ ?_
   clear hK K
   try simp only [qq]
   refine mR 10 fun K hK => ?_
   go_simp
   refine hK.out _ _ ?_
   clear hK K
   try simp only [qq]
   refine gz ?_
   have HB2 : Hid (Below (w.heap.size + 1) W wz) := aa (((au.out.alloc (by omega) (.cells #[.int .i64 1, .int .i64 x, .slice none 0 0, .slice none 0 0] 117)).drew).grown hgrow (by simp; omega) (fun j hj => by have := (World.ownsRow.lt HOWN.out j hj).1; omega))
   have qA : Hid (dM wz (w.heap.size + 2) (.slice (some ⟨gg, 0, none⟩) (k + 1) cap) ((l.take (k + 1)).map aM)) := aa (by
    rw [xu.out]
    exact dM.app qB.out.symm hown1)
   have hd := (Below.refl wr.heap.size wr)
   have a0 := bP (w := (wr.alloc (.cells #[.int .i64 1, .int .i64 x, .slice none 0 0, .slice none 0 0] 117)).drew) (nH.out.1.below (af wr (.cells #[.int .i64 1, .int .i64 x, .slice none 0 0, .slice none 0 0] 117)).drew) hgrow hno
   have a1 := bP (w := (wr.alloc (.cells #[.int .i64 1, .int .i64 x, .slice none 0 0, .slice none 0 0] 117)).drew) (nH.out.2.1.below (af wr (.cells #[.int .i64 1, .int .i64 x, .slice none 0 0, .slice none 0 0] 117)).drew) hgrow hno
   have a2 := bP (w := (wr.alloc (.cells #[.int .i64 1, .int .i64 x, .slice none 0 0, .slice none 0 0] 117)).drew) (nH.out.2.2.below (af wr (.cells #[.int .i64 1, .int .i64 x, .slice none 0 0, .slice none 0 0] 117)).drew) hgrow hno
   have tN : Hid (Own (wz.setCell ⟨w.heap.size + 1, 3, none⟩ (.slice (some ⟨gg, 0, none⟩) (k + 1) cap)) ⟨w.heap.size + 1, 3, none⟩ (.slice (some ⟨gg, 0, none⟩) (k + 1) cap)) := aa (dI Gv)
   have xV : Hid (dM (wz.setCell ⟨w.heap.size + 1, 3, none⟩ (.slice (some ⟨gg, 0, none⟩) (k + 1) cap)) (w.heap.size + 2) (.slice (some ⟨gg, 0, none⟩) (k + 1) cap) ((l.take (k + 1)).map aM)) := aa (qA.out.set (by omega))
   have P8 : Hid (Own (wz.setCell ⟨w.heap.size + 1, 3, none⟩ (.slice (some ⟨gg, 0, none⟩) (k + 1) cap)) ⟨w.heap.size + 1, 0, none⟩ (.int .i64 3) ∧ Own (wz.setCell ⟨w.heap.size + 1, 3, none⟩ (.slice (some ⟨gg, 0, none⟩) (k + 1) cap)) ⟨w.heap.size + 1, 1, none⟩ (.int .i64 0) ∧ Own (wz.setCell ⟨w.heap.size + 1, 3, none⟩ (.slice (some ⟨gg, 0, none⟩) (k + 1) cap)) ⟨w.heap.size + 1, 2, none⟩ (.slice none 0 0)) :=
    aa ⟨aK a0 (by simp), aK a1 (by simp), aK a2 (by simp)⟩
   have jF : Hid (Below (w.heap.size + 1) W (wz.setCell ⟨w.heap.size + 1, 3, none⟩ (.slice (some ⟨gg, 0, none⟩) (k + 1) cap))) := aa (HB2.out.setCell (Nat.le_refl _) _)
   clear hown1 hgrow HO nH HV p2 f2 a0 a1 a2 HB2 qA Gv hd
   go_wp2
   go_roundw
   case rel => exact ⟨k + 1, _, by omega, by go_num, tN, xV, P8, jF⟩
   case measure => simp [intOf]; omega
  ·
   have vS : Hid (dM wr (w.heap.size + 2) v (l.map aM)) := aa (by
    have h := HO.out
    rwa [List.take_of_length_le (by have := hn.out; omega)] at h)
   obtain ⟨L, cl, QH⟩ := vS.out.len
   rw [List.length_map, hn.out] at QH
   subst QH
   obtain ⟨p0, Zb⟩ := nH.out.1
   obtain ⟨p1, Za⟩ := nH.out.2.1
   obtain ⟨p2, Y_⟩ := nH.out.2.2
   obtain ⟨p3, Y9⟩ := HV.out
   have XW := HG.out
   have r0 := (au.out.cell (p := ⟨w.heap.size, 0, none⟩) (Nat.lt_succ_self _)).trans HG.out.1.1
   have r1 := (au.out.cell (p := ⟨w.heap.size, 1, none⟩) (Nat.lt_succ_self _)).trans HG.out.1.2.1
   have r2 := (au.out.cell (p := ⟨w.heap.size, 2, none⟩) (Nat.lt_succ_self _)).trans HG.out.1.2.2.1
   have r3 := (au.out.cell (p := ⟨w.heap.size, 3, none⟩) (Nat.lt_succ_self _)).trans HG.out.1.2.2.2
   have z0 := (au.out.frozen (p := ⟨w.heap.size, 0, none⟩) (Nat.lt_succ_self _)).trans (HG.out.2 0)
   have z1 := (au.out.frozen (p := ⟨w.heap.size, 1, none⟩) (Nat.lt_succ_self _)).trans (HG.out.2 1)
   have z2 := (au.out.frozen (p := ⟨w.heap.size, 2, none⟩) (Nat.lt_succ_self _)).trans (HG.out.2 2)
   have z3 := (au.out.frozen (p := ⟨w.heap.size, 3, none⟩) (Nat.lt_succ_self _)).trans (HG.out.2 3)
   have rY := aa (bQ.out.trans (au.out.mono (Nat.le_succ _)))
   clear nH HV HO XW
   obtain ⟨WF, rV⟩ : ∃ u, (((wr.setCell ⟨w.heap.size, 0, none⟩ (.int .i64 3)).setCell ⟨w.heap.size, 1, none⟩ (.int .i64 0)).setCell ⟨w.heap.size, 2, none⟩ (.slice none 0 0)).setCell ⟨w.heap.size, 3, none⟩ (.slice L n cl) = u := ⟨_, rfl⟩
   have hgB : WF.heap[w.heap.size]? = some (.cells #[.int .i64 3, .int .i64 0, .slice none 0 0, .slice L n cl] 117 (0, 0)) := by
    have h0 := (au.out.block w.heap.size (Nat.lt_succ_self _)).trans UE.out
    rw [← rV, heap_setCell_same _ _ _ _ _ _ (heap_setCell_same _ _ _ _ _ _ (heap_setCell_same _ _ _ _ _ _ (heap_setCell_same _ _ _ _ _ _ h0)))]
    rfl
   have CE : Hid (dM WF (w.heap.size + 2) (.slice L n cl) (l.map aM)) := aa (by
    rw [← rV]
    exact (((vS.out.set (by omega)).set (by omega)).set (by omega)).set (by omega))
   have fA : Hid (Below w.heap.size w WF) := aa (by
    rw [← rV]
    exact (((rY.out.setCell (Nat.le_refl _) _).setCell (Nat.le_refl _) _).setCell (Nat.le_refl _) _).setCell (Nat.le_refl _) _)
   have yX := DN (lo := w.heap.size) CE.out (by omega)
   rw [hn.out] at yX
   have HIT := aa yX
   have Ut : Kp ((loadVar 117 ⟨w.heap.size, 0, none⟩).run Tryz.prog WF = .ok (.agg #[.int .i64 3, .int .i64 0, .slice none 0 0, .slice L n cl]) WF) := ⟨run_loadVar_row _ _ _ _ _ _ _ hgB Tryz.underlying117 rfl (by kernel_rfl)⟩
   have Xc := aa rV
   clear yX vS CE hgB rV
   go_wp2
   rw [Xc.out]
   exact bodyPost_ret (v := .agg #[.int .i64 3, .int .i64 0, .slice none 0 0, .slice L n cl]) (aC (p := 2) (ty := 117) rfl _ _ ⟨w.heap.size, 0, none⟩ _ rfl Ut.out) rfl ⟨⟨3, 0, none, 0, 0, L, n, cl⟩, rfl, HIT.out, fA.out⟩
theorem uA (h : List Int) (hl : Hid (h.length = 32)) (w : World) :
  Calls Tryz.prog 146 #[.agg (arr .u8 h)] w (mM (.byt h) w) := by
 obtain ⟨i1, hi1, hy0, hy1, hy2⟩ := info_parts dO
 obtain ⟨W, hW⟩ : ∃ W, ((w.alloc (.cells (arr .u8 h) 41)).alloc (.cells #[.int .i64 0, .int .i64 0, .slice none 0 0, .slice none 0 0] 117)).alloc (.cells #[.int .i64 2, .int .i64 0, .slice none 0 0, .slice none 0 0] 117) = W := ⟨_, rfl⟩
 have bQ : Hid (Below w.heap.size w W) := aa (by rw [← hW]; exact ag (ag (af _ _) (af _ _)) (af _ _))
 have lG : Hid (W.heap.size = w.heap.size + 3) := aa (by rw [← hW]; simp)
 have GD : Hid (bB .u8 41 W w.heap.size h) := aa (by rw [← hW]; exact ((bB.new w h).old _).old _)
 have UE : Hid (W.heap[w.heap.size + 1]? = some (.cells #[.int .i64 0, .int .i64 0, .slice none 0 0, .slice none 0 0] 117)) := aa (by rw [← hW]; exact bE (heap_alloc2_new _ _ _) (af _ _))
 have hb2 : W.heap[w.heap.size + 2]? = some (.cells #[.int .i64 2, .int .i64 0, .slice none 0 0, .slice none 0 0] 117) := by rw [← hW]; exact gU _ _ _ _
 have HX : Hid (Own W ⟨w.heap.size + 2, 0, none⟩ (.int .i64 2) ∧ Own W ⟨w.heap.size + 2, 1, none⟩ (.int .i64 0) ∧ Own W ⟨w.heap.size + 2, 3, none⟩ (.slice none 0 0)) := aa ⟨⟨ak hb2 0, aX hb2 0⟩, ⟨ak hb2 1, aX hb2 1⟩, ⟨ak hb2 3, aX hb2 3⟩⟩
 have HL : Hid (Own W ⟨w.heap.size + 2, 2, none⟩ (.slice none 0 0)) := aa ⟨ak hb2 2, aX hb2 2⟩
 have HW := aa hW
 clear hW hb2
 go_in
 go_wp2
 rw [HW.out]
 go_loopw [4] (fun i u => ∃ (k : Nat) (v : Value), k ≤ 32 ∧ i = .int .i64 k ∧ Hid (Own u ⟨w.heap.size + 2, 2, none⟩ v) ∧ Hid (aQ .u8 5 u (w.heap.size + 3) v (h.take k)) ∧ Hid (Own u ⟨w.heap.size + 2, 0, none⟩ (.int .i64 2) ∧ Own u ⟨w.heap.size + 2, 1, none⟩ (.int .i64 0) ∧ Own u ⟨w.heap.size + 2, 3, none⟩ (.slice none 0 0)) ∧ Hid (Below (w.heap.size + 2) W u)) (fun i _ => 32 - (intOf i).toNat)
 case atStart => exact ⟨0, _, by omega, rfl, HL, aa (qM _ _), HX, aa (Below.refl _ _)⟩
 case round =>
  obtain ⟨k, v, hk, rfl, HV, HO, nH, au⟩ := hrel
  by_cases hlt : k < 32
  ·
   have hc := (au.out.cell (p := ⟨w.heap.size, k, none⟩) (by simp)).trans (GD.out.cell (j := k) (by rw [hl.out]; exact hlt))
   have xu := aa (take_one (xs := h) (k := k) (by rw [hl.out]; exact hlt))
   obtain ⟨x, hx⟩ : ∃ x, h.getD k 0 = x := ⟨_, rfl⟩
   rw [hx] at hc xu
   have qB : Hid ((h.take k).length = k) := aa (by rw [List.length_take, hl.out]; omega)
   have hown : wr.ownsRow (w.heap.size + 3) 5 1 v k ((h.take k).map (Value.int .u8)) := HO.out.row qB.out
   have hbs : w.heap.size + 3 ≤ wr.heap.size := by have := au.out.size; have := lG.out; omega
   have hno : v.ownBlock ≠ some (w.heap.size + 2) := fun e => by have := (HO.out.lt _ e).1; omega
   obtain ⟨v3, Oh⟩ := HV.out
   have hS := aa (show ∀ u1 : World, Hid (Below wr.drew.heap.size wr.drew u1) → (u1.cell? ⟨w.heap.size + 2, 2, none⟩ = some v ∧ u1.cell? ⟨w.heap.size, k, none⟩ = some (.int .u8 x) ∧ Hid (Below wr.drew.heap.size wr.drew u1)) from fun u1 h1 => ⟨cell_below (w := wr.drew) v3 h1.out, cell_below (w := wr.drew) hc h1.out, h1⟩)
   have HOWN := aa hown
   clear hx hown v3 Oh hc
   go_wp2
   refine bD (S := fun w' => w'.cell? ⟨w.heap.size + 2, 2, none⟩ = some v ∧ w'.cell? ⟨w.heap.size, k, none⟩ = some (.int .u8 x) ∧ Hid (Below wr.drew.heap.size wr.drew w')) (E := [6, 7, 8]) (by kernel_rfl) (hS.out _ (aa (Below.refl _ _))) (fun hHeld => ?_)
   refine bN 0 ?_
   refine bN 1 ?_
   refine bN 2 ?_
   refine bN 3 ?_
   refine bN 4 ?_
   refine bW 5 fun K hK => ?_
   go_simp
   refine hK.out _ _ ?_ (fun hHeld => ?_)
   · exact hS.out _ (aa (af _ _))
   clear hK K
   try simp only [qq]
   refine mR 6 fun K hK => ?_
   refine step_append_lies _ (by rfl) _ _ _ (by rfl) (w.heap.size + 3) 5 i1 _ 1 1 Tryz.underlying114 hi1 hy0 hy1 hy2 rfl (by omega) v k ((h.take k).map (Value.int .u8)) (by rfl) ((HOWN.out.alloc _).drew)
    ⟨wr.heap.size, 0, none⟩ 1 1 [.int .u8 x] (by rfl) (by rfl) (World.news_of_block (cs := #[.int .u8 x]) (t := 5) (fr := (0, 0)) (heap_alloc_new wr _)) (by simp [Value.oneCell'])
    (by omega) (by unfold maxLen; omega) (by omega) (by simp; omega) (wr.heap.size + 1) (by simp) ?_; intro gg cap wz hown1 hgrow hat hlt2
   have Gv := bP (w := (wr.alloc (.cells #[.int .u8 x] 5)).drew) (HV.out.below (af wr (.cells #[.int .u8 x] 5)).drew) hgrow hno
   have TU := Gv
   obtain ⟨p2, f2⟩ := TU
   refine hK.out _ _ ?_
   clear hK K
   try simp only [qq]
   refine mR 7 fun K hK => ?_
   go_simp
   refine hK.out _ _ ?_
   clear hK K
   try simp only [qq]
   refine mR 8 fun K hK => ?_
   go_simp
   refine hK.out _ _ ?_
   clear hK K
   try simp only [qq]
   refine gz ?_
   have HB2 : Hid (Below (w.heap.size + 2) W wz) := aa (((au.out.alloc (by omega) (.cells #[.int .u8 x] 5)).drew).grown hgrow (by simp; omega) (fun j hj => by have := (World.ownsRow.lt HOWN.out j hj).1; omega))
   have qA : Hid (aQ .u8 5 wz (w.heap.size + 3) (.slice (some ⟨gg, 0, none⟩) (k + 1) cap) (h.take (k + 1))) := aa (by
    rw [xu.out]
    exact aQ.app qB.out.symm rfl hown1)
   have a0 := bP (w := (wr.alloc (.cells #[.int .u8 x] 5)).drew) (nH.out.1.below (af wr (.cells #[.int .u8 x] 5)).drew) hgrow hno
   have a1 := bP (w := (wr.alloc (.cells #[.int .u8 x] 5)).drew) (nH.out.2.1.below (af wr (.cells #[.int .u8 x] 5)).drew) hgrow hno
   have a2 := bP (w := (wr.alloc (.cells #[.int .u8 x] 5)).drew) (nH.out.2.2.below (af wr (.cells #[.int .u8 x] 5)).drew) hgrow hno
   have tN : Hid (Own (wz.setCell ⟨w.heap.size + 2, 2, none⟩ (.slice (some ⟨gg, 0, none⟩) (k + 1) cap)) ⟨w.heap.size + 2, 2, none⟩ (.slice (some ⟨gg, 0, none⟩) (k + 1) cap)) := aa (dI Gv)
   have xV : Hid (aQ .u8 5 (wz.setCell ⟨w.heap.size + 2, 2, none⟩ (.slice (some ⟨gg, 0, none⟩) (k + 1) cap)) (w.heap.size + 3) (.slice (some ⟨gg, 0, none⟩) (k + 1) cap) (h.take (k + 1))) := aa (qA.out.kept (pQ _ _ _ _) (Or.inr (fun e => by have := (qA.out.lt _ e).1; omega)))
   have P8 : Hid (Own (wz.setCell ⟨w.heap.size + 2, 2, none⟩ (.slice (some ⟨gg, 0, none⟩) (k + 1) cap)) ⟨w.heap.size + 2, 0, none⟩ (.int .i64 2) ∧ Own (wz.setCell ⟨w.heap.size + 2, 2, none⟩ (.slice (some ⟨gg, 0, none⟩) (k + 1) cap)) ⟨w.heap.size + 2, 1, none⟩ (.int .i64 0) ∧ Own (wz.setCell ⟨w.heap.size + 2, 2, none⟩ (.slice (some ⟨gg, 0, none⟩) (k + 1) cap)) ⟨w.heap.size + 2, 3, none⟩ (.slice none 0 0)) := aa ⟨aK a0 (by simp), aK a1 (by simp), aK a2 (by simp)⟩
   have jF : Hid (Below (w.heap.size + 2) W (wz.setCell ⟨w.heap.size + 2, 2, none⟩ (.slice (some ⟨gg, 0, none⟩) (k + 1) cap))) := aa (HB2.out.setCell (Nat.le_refl _) _)
   clear hown1 hgrow HO nH HV p2 f2 a0 a1 a2 HB2 qA Gv
   go_wp2
   go_roundw
   case rel => exact ⟨k + 1, _, by omega, by go_num, tN, xV, P8, jF⟩
   case measure => simp [intOf]; omega
  ·
   obtain rfl : k = 32 := by omega
   have vS : Hid (aQ .u8 5 wr (w.heap.size + 3) v h) := aa (by
    have h9 := HO.out
    rwa [List.take_of_length_le (by rw [hl.out]; exact Nat.le_refl _)] at h9)
   obtain ⟨g, cap, hv, hg, -, -, hsk⟩ := vS.out.cells (by rw [hl.out]; decide)
   rw [hl.out] at hv
   subst hv
   obtain ⟨p0, Zb⟩ := nH.out.1
   obtain ⟨p1, Za⟩ := nH.out.2.1
   obtain ⟨p2, Y_⟩ := nH.out.2.2
   obtain ⟨p3, Y9⟩ := HV.out
   have YG := aa hsk
   have vz : Hid (wr.heap[w.heap.size + 1]? = some (.cells #[.int .i64 0, .int .i64 0, .slice none 0 0, .slice none 0 0] 117)) := aa ((au.out.block _ (by omega)).trans UE.out)
   have rY := aa (bQ.out.trans (au.out.mono (by omega)))
   clear nH HV HO vS hsk
   go_wp2_with ((with_reducible show wpList _ _ _ (⟨none, _, _, _, _, _⟩ :: _) _ _); refine wpList_store_row rfl 117 _ _ rfl (w.heap.size + 1) (Ic.cs (aL (some ⟨g, 0, none⟩) 32 cap)) rfl rfl _ _ vz.out (b_ _) rfl (je _) ?_)
   have hit : qa w.heap.size (wr.setRow (w.heap.size + 1) (Ic.cs (aL (some ⟨g, 0, none⟩) 32 cap))) (.byt h) (aL (some ⟨g, 0, none⟩) 32 cap) := BC (YG.out.setRow (by omega)) (by omega) hl.out
   have bV := aj rY.out (cs := Ic.cs (aL (some ⟨g, 0, none⟩) 32 cap)) (Nat.le_add_right w.heap.size 1)
   have hrw := setRow_heap _ _ _ (Ic.cs (aL (some ⟨g, 0, none⟩) 32 cap)) _ _ vz.out
   exact bodyPost_ret (v := (aL (some ⟨g, 0, none⟩) 32 cap).val) (aC (p := 2) (ty := 117) rfl _ _ ⟨w.heap.size + 1, 0, none⟩ _ rfl (run_loadVar_row _ _ _ _ _ _ _ hrw Tryz.underlying117 rfl (b_ _))) rfl ⟨_, rfl, hit, bV⟩
theorem mZ (n : Int) (w : World) :
  Calls Tryz.prog 134 #[.int .i64 n] w fun e w' => e = .returned (aM n).val ∧ Below w.heap.size w w' := by
 have ek : Hid ((w.alloc (.cells #[.int .i64 0, .int .i64 0, .slice none 0 0, .slice none 0 0] 117)).heap[w.heap.size]? = some (.cells #[.int .i64 0, .int .i64 0, .slice none 0 0, .slice none 0 0] 117 (0, 0))) := aa (heap_alloc_new _ _)
 go_in
 go_wp2_with ((with_reducible show wpList _ _ _ (⟨none, _, _, _, _, _⟩ :: _) _ _); refine wpList_store_row rfl 117 _ _ rfl w.heap.size (Ic.cs (aM n)) rfl rfl _ _ ek.out (b_ _) rfl (je _) ?_)
 have hrw := setRow_heap _ _ _ (Ic.cs (aM n)) _ _ ek.out
 exact bodyPost_ret (v := (aM n).val) (aC (p := 2) (ty := 117) rfl _ _ ⟨w.heap.size, 0, none⟩ _ rfl (run_loadVar_row _ _ _ _ _ _ _ hrw Tryz.underlying117 rfl (b_ _))) rfl ⟨rfl, aj (af _ _) (Nat.le_refl _)⟩
theorem qH (L : Option Addr) (n c : Nat) (w : World) :
  Calls Tryz.prog 133 #[.slice L n c] w fun e w' => e = .returned (Ic.mk 3 0 none 0 0 L n c).val ∧ Below w.heap.size w w' := by
 have ek : Hid ((w.alloc (.cells #[.int .i64 0, .int .i64 0, .slice none 0 0, .slice none 0 0] 117)).heap[w.heap.size]? = some (.cells #[.int .i64 0, .int .i64 0, .slice none 0 0, .slice none 0 0] 117 (0, 0))) := aa (heap_alloc_new _ _)
 go_in
 go_wp2_with ((with_reducible show wpList _ _ _ (⟨none, _, _, _, _, _⟩ :: _) _ _); refine wpList_store_row rfl 117 _ _ rfl w.heap.size (Ic.cs (Ic.mk 3 0 none 0 0 L n c)) rfl rfl _ _ ek.out (b_ _) rfl (je _) ?_)
 have hrw := setRow_heap _ _ _ (Ic.cs (Ic.mk 3 0 none 0 0 L n c)) _ _ ek.out
 exact bodyPost_ret (v := (Ic.mk 3 0 none 0 0 L n c).val) (aC (p := 2) (ty := 117) rfl _ _ ⟨w.heap.size, 0, none⟩ _ rfl (run_loadVar_row _ _ _ _ _ _ _ hrw Tryz.underlying117 rfl (b_ _))) rfl ⟨rfl, aj (af _ _) (Nat.le_refl _)⟩
theorem Df (s : ByteArray) (hs0 : 1 ≤ s.size) (hs1 : s.size ≤ 1000) (w : World) :
  Calls Tryz.prog 135 #[.string s] w (mM (.byt (aU s)) w) := by
 have hcv := fun w => run_bytes_of_string (P := Tryz.prog) w 9 114 5 s Tryz.underlying9 Tryz.underlying114 Tryz.underlying5
 obtain ⟨W, hW⟩ : ∃ W, w.alloc (.cells #[.int .i64 0, .int .i64 0, .slice none 0 0, .slice none 0 0] 117) = W := ⟨_, rfl⟩
 have lG : Hid (W.heap.size = w.heap.size + 1) := aa (by rw [← hW]; simp)
 have ek : Hid (W.heap[w.heap.size]? = some (.cells #[.int .i64 0, .int .i64 0, .slice none 0 0, .slice none 0 0] 117 (0, 0))) := aa (by rw [← hW]; exact heap_alloc_new _ _)
 have HB0 : Hid (Below w.heap.size w W) := aa (by rw [← hW]; exact af _ _)
 have HW := aa hW
 clear hW
 obtain ⟨gc, hgc⟩ : ∃ g, grownCap W s.size 0 5 = g := ⟨_, rfl⟩
 obtain ⟨Wc, hWc⟩ : ∃ u, (W.alloc (.cells (bytesRow s gc) 5 ((bytesRow s gc).size, (bytesRow s gc).size + 1))).drew = u := ⟨_, rfl⟩
 have sM : Hid (Below W.heap.size W Wc) := aa (by rw [← hWc]; exact (af _ _).drew)
 have HSc : Hid (Sk .u8 Wc (some ⟨W.heap.size, 0, none⟩) (aU s)) := aa (by rw [← hWc]; exact (lu (heap_alloc_new W _)).below ((Below.refl _ _).drew))
 have HRc : Hid (Wc.heap[w.heap.size]? = some (.cells #[.int .i64 0, .int .i64 0, .slice none 0 0, .slice none 0 0] 117 (0, 0))) := aa (bE ek.out sM.out)
 go_in
 go_upto_region 1 with (fail)
 rw [HW.out]
 go_wp2_with ((with_reducible show wpList _ _ _ (⟨none, _, _, _, _, _⟩ :: _) _ _); refine wpList_store_row rfl 117 _ _ rfl w.heap.size (Ic.cs (aL (some ⟨W.heap.size, 0, none⟩) s.size gc)) rfl rfl _ _ HRc.out (b_ _) rfl (je _) ?_)
 have hit : qa w.heap.size (Wc.setRow w.heap.size (Ic.cs (aL (some ⟨W.heap.size, 0, none⟩) s.size gc))) (.byt (aU s)) (aL (some ⟨W.heap.size, 0, none⟩) s.size gc) := BC (HSc.out.setRow (by have := lG.out; omega)) (by have := lG.out; omega) (bz s)
 have bV := aj (ag HB0.out sM.out) (cs := Ic.cs (aL (some ⟨W.heap.size, 0, none⟩) s.size gc)) (Nat.le_refl w.heap.size)
 have hrw := setRow_heap _ _ _ (Ic.cs (aL (some ⟨W.heap.size, 0, none⟩) s.size gc)) _ _ HRc.out
 exact bodyPost_ret (v := (aL (some ⟨W.heap.size, 0, none⟩) s.size gc).val) (aC (p := 2) (ty := 117) rfl _ _ ⟨w.heap.size, 0, none⟩ _ rfl (run_loadVar_row _ _ _ _ _ _ _ hrw Tryz.underlying117 rfl (b_ _))) rfl ⟨_, rfl, hit, bV⟩
theorem yH (E1 E2 : Int) (A : Option Addr) (na ca : Nat) (al : List Int) (C : Int) (Z : Option Addr) (nz cz : Nat) (zs : List Int) (hna : Hid (al.length = na)) (hnz : Hid (zs.length = nz)) (hb1 : na ≤ 1000) (hb2 : nz ≤ 1000) (w : World) (hA : Hid (Sl w A al)) (hZ : Hid (Sl w Z zs)) :
  Calls Tryz.prog 136 #[zK E1 E2 A na ca C Z nz cz] w (mM (J4 E1 E2 al C zs) w) := by
 obtain ⟨w0, HW, ai, kC⟩ := st2 (Ed E1 E2 A na ca C Z nz cz) J6 (.cells #[.int .i64 0, .int .i64 0, .slice none 0 0, .slice none 0 0] 117) xO w
 have kA := mkS ai hA
 have kZ := mkS ai hZ
 have yV := O4 (w0 := w0) (o := .cells #[.int .i64 0, .int .i64 0, .slice none 0 0, .slice none 0 0] 117) (w.heap.size + 1) (by rw [← HW.out]; exact heap_alloc2_new _ _ _)
 have ah := bS w0
 clear hA hZ
 go_in
 go_wp2_with fail
 rw [HW.out]
 have zc := kC.out _ ah
 have nQ : Hid (w0.heap.size = w.heap.size + 2) := aa (by rw [← HW.out]; simp)
 go_upto_region 1 with (fail)
 clear zc
 have hO := kC
 have mP := bY (aa ah.out) (Below.refl _ _).drew
 refine t_ (fun u => Below w0.heap.size w0 u) [20] mP (fun hHeld => ?_)
 obtain ⟨wD, mI⟩ : ∃ u, w0.drew = u := ⟨_, rfl⟩
 rw [mI] at mP hHeld ⊢
 have zk : Hid (w0.heap.size ≤ wD.heap.size) := aa (by rw [← mI]; exact Nat.le_refl _)
 clear mI
 refine aT 0 1 2 3 ?_
 refine aT 6 7 8 10 ?_
 refine aT 11 12 13 14 ?_
 refine aH 15 ?_
 refine aH 16 ?_
 have FB := mP
 obtain ⟨u1, hw, HQ, -, -, -⟩ := sI (.cells #[.int .i64 (E1), .int .i64 (E2)] 3) xO wD
 have mO := aa hw
 clear hw
 refine bW 4 fun K hK => ?_
 go_simp
 rw [mO.out]
 have aR := bY FB HQ.out
 refine hK.out _ _ aR (fun hHeld => ?_)
 clear hK K hHeld
 have FE : Hid (Cz u1 (wD.heap.size) (E1) (E2)) := by rw [← mO.out]; exact (aa (Cz.new wD (E1) (E2)))
 obtain ⟨gE, hg⟩ : ∃ x, wD.heap.size = x := ⟨_, rfl⟩
 rw [hg] at FE ⊢
 clear hg
 have FB := aR
 clear aR mO HQ
 try simp only [qq, Ic.val, Ic.cs, aM, aL]
 refine bW 5 fun K hK => ?_
 go_simp
 refine (lZ (some ⟨gE, 0, none⟩) [E1, E2] 2 2 (aa rfl) (by omega) _ (aa FE.out.sl)).mono ?_
 rintro e u2 ⟨cE, rfl, hit, hq⟩
 have aR := bY FB hq
 refine hK.out _ _ aR (fun hHeld => ?_)
 clear hK K hHeld
 have FE := aa (FE.out.below hq)
 have HE := (aa (hit.mono (by have := FB.out.size; omega)))
 have FB := aR
 clear aR
 try simp only [qq, Ic.val, Ic.cs, aM, aL]
 refine bW 9 fun K hK => ?_
 go_simp
 refine (lZ A al na ca hna (by omega) _ (kA.out _ (aa FB.out))).mono ?_
 rintro e u3 ⟨cA, rfl, hit, hq⟩
 have aR := bY FB hq
 refine hK.out _ _ aR (fun hHeld => ?_)
 clear hK K hHeld
 have FE := aa (FE.out.below hq)
 have HE := aa (HE.out.kept hq)
 have HA := (aa (hit.mono (by have := FB.out.size; omega)))
 have FB := aR
 clear aR
 try simp only [qq, Ic.val, Ic.cs, aM, aL]
 refine bW 17 fun K hK => ?_
 go_simp
 refine (lZ Z zs nz cz hnz (by omega) _ (kZ.out _ (aa FB.out))).mono ?_
 rintro e u4 ⟨cZ, rfl, hit, hq⟩
 have aR := bY FB hq
 refine hK.out _ _ aR (fun hHeld => ?_)
 clear hK K hHeld
 have FE := aa (FE.out.below hq)
 have HE := aa (HE.out.kept hq)
 have HA := aa (HA.out.kept hq)
 have HZ := (aa (hit.mono (by have := FB.out.size; omega)))
 have FB := aR
 clear aR
 try simp only [qq, Ic.val, Ic.cs, aM, aL]
 obtain ⟨u, hw, HQ, -, -, -⟩ := sI (.cells #[.int .i64 cE.kind, .int .i64 cE.n, .slice cE.B cE.nb cE.cb, .slice cE.L cE.nl cE.cl, .int .i64 cA.kind, .int .i64 cA.n, .slice cA.B cA.nb cA.cb, .slice cA.L cA.nl cA.cl, .int .i64 1, .int .i64 C, .slice none 0 0, .slice none 0 0, .int .i64 cZ.kind, .int .i64 cZ.n, .slice cZ.B cZ.nb cZ.cb, .slice cZ.L cZ.nl cZ.cl] 117) xO u4
 have mO := aa hw
 clear hw
 refine bW 18 fun K hK => ?_
 go_simp
 rw [mO.out]
 have aR := bY FB HQ.out
 refine hK.out _ _ aR (fun hHeld => ?_)
 clear hK K hHeld
 have FE := aa (FE.out.below HQ.out)
 have HE := aa (HE.out.kept HQ.out)
 have HA := aa (HA.out.kept HQ.out)
 have HZ := aa (HZ.out.kept HQ.out)
 have FL : Hid (u.heap[(u4.heap.size)]? = some (.cells #[.int .i64 cE.kind, .int .i64 cE.n, .slice cE.B cE.nb cE.cb, .slice cE.L cE.nl cE.cl, .int .i64 cA.kind, .int .i64 cA.n, .slice cA.B cA.nb cA.cb, .slice cA.L cA.nl cA.cl, .int .i64 1, .int .i64 C, .slice none 0 0, .slice none 0 0, .int .i64 cZ.kind, .int .i64 cZ.n, .slice cZ.B cZ.nb cZ.cb, .slice cZ.L cZ.nl cZ.cl] 117)) := by rw [← mO.out]; exact (aa (heap_alloc_new u4 _))
 have kQ : Hid (w0.heap.size ≤ (u4.heap.size)) := (aa (by have := FB.out.size; omega))
 obtain ⟨gL, hg⟩ : ∃ x, u4.heap.size = x := ⟨_, rfl⟩
 rw [hg] at FL kQ ⊢
 clear hg
 have FB := aR
 clear aR mO HQ
 try simp only [qq, Ic.val, Ic.cs, aM, aL]
 have hHeld := FB
 have hT := trivial
 have ha0 := trivial
 have sK := FB
 refine bN 19 ?_
 have oN := yV.out _ (aa FB.out)
 refine mR 20 fun K hK => ?_
 rw [show (if Region.wanted _ _ = true then _ else _ : Prop) = _ from if_pos rfl]
 refine wp_store_row 117 _ _ rfl (w.heap.size + 1) (Ic.cs ⟨3, 0, none, 0, 0, some ⟨gL, 0, none⟩, 4, 4⟩) rfl rfl 117 _ oN.out (b_ _) rfl (je _) ?_
 refine hK.out _ _ ?_
 clear hK K
 try simp only [qq]
 refine gz ?_
 have hit : qa w0.heap.size u (J4 E1 E2 al C zs) ⟨3, 0, none, 0, 0, some ⟨gL, 0, none⟩, 4, 4⟩ := rF (fun k => match k with | 0 => cE | 1 => cA | 2 => aM C | _ => cZ) FL.out kQ.out rfl (fun k hk => by
   rcases (show k = 0 ∨ k = 1 ∨ k = 2 ∨ k = 3 by omega) with rfl | rfl | rfl | rfl <;> exact ⟨rfl, rfl, rfl, rfl⟩) (fun k hk => by
   rcases (show k = 0 ∨ k = 1 ∨ k = 2 ∨ k = 3 by omega) with rfl | rfl | rfl | rfl
   · exact HE.out
   · exact HA.out
   · exact nA _ _ _
   · exact HZ.out)
 have hit2 := (hit.setRow (g := w.heap.size + 1) (by have := nQ.out; omega) (Ic.cs ⟨3, 0, none, 0, 0, some ⟨gL, 0, none⟩, 4, 4⟩)).mono (lo' := w.heap.size) (by have := nQ.out; omega)
 have bV := aj (ag ai.out FB.out) (cs := Ic.cs ⟨3, 0, none, 0, 0, some ⟨gL, 0, none⟩, 4, 4⟩) (Nat.le_add_right w.heap.size 1)
 have hrw := setRow_heap _ _ _ (Ic.cs ⟨3, 0, none, 0, 0, some ⟨gL, 0, none⟩, 4, 4⟩) _ _ oN.out
 go_wp2
 exact bodyPost_ret (v := (Ic.mk 3 0 none 0 0 (some ⟨gL, 0, none⟩) 4 4).val) (aC (p := 2) (ty := 117) rfl _ _ ⟨w.heap.size + 1, 0, none⟩ _ rfl (run_loadVar_row _ _ _ _ _ _ _ hrw Tryz.underlying117 rfl (b_ _))) rfl ⟨_, rfl, hit2, bV⟩
theorem iD (A : Option Addr) (na ca : Nat) (C : Int) (Z : Option Addr) (nz cz : Nat) (r : Bool) (hr : Hid (tZ na nz = r)) (w : World) :
  Calls Tryz.prog 129 #[iL A na ca C Z nz cz] w (Rt w (.bool r)) := by
 have HX := af w (eG A na ca C Z nz cz)
 have hr1 := hr.out
 unfold tZ at hr1
 by_cases h0 : na ≤ 20
 ·
  have d0 : decide ((na : Int) ≤ 20) = true := by simp; omega
  by_cases h1 : nz ≤ 20
  ·
   have d1 : decide ((nz : Int) ≤ 20) = true := by simp; omega
   obtain rfl : r = true := by rw [← hr1]; simp; omega
   clear hr1 hr
   go_in
   go_wp2
   go_ret
   exact ⟨rfl, HX⟩
  ·
   have d1 : decide ((nz : Int) ≤ 20) = false := by simp; omega
   obtain rfl : r = false := by rw [← hr1]; simp; omega
   clear hr1 hr
   go_in
   go_wp2
   go_ret
   exact ⟨rfl, HX⟩
 ·
  have d0 : decide ((na : Int) ≤ 20) = false := by simp; omega
  obtain rfl : r = false := by rw [← hr1]; simp; omega
  clear hr1 hr
  go_in
  go_wp2
  go_ret
  exact ⟨rfl, HX⟩
theorem BL (L : Option Addr) (ps : List a_) (n c : Nat) (x : Int) (r : Bool) (hr : Hid (BN ps x n = r)) (hn : Hid (n ≤ ps.length)) (hbig : n < 1000000) (w : World) (hs : Hid (Pa w L ps)) :
  Calls Tryz.prog 78 #[.slice L n c, .int .i64 x] w (Rt w (.bool (!r))) := by
 go_in
 go_wp2
 go_loopw [5] (fun i wr => ∃ k : Nat, k ≤ n ∧ i = .int .i64 k ∧ Hid (BN ps x k = true) ∧ Hid (Below w.heap.size w wr)) (fun i _ => n - (intOf i).toNat)
 case atStart => exact ⟨0, by omega, rfl, aa rfl, aa (Below.refl _ _)⟩
 case round =>
  obtain ⟨k, hk, rfl, HR, au⟩ := hrel
  by_cases hlt : k < n
  ·
   have hkl : k < ps.length := by have := hn.out; omega
   obtain ⟨b, o, hA, i0, i1, i2, i3, i4, _⟩ := (hs.out.below au.out) k hkl
   subst hA
   cases hpx : ((ps.getD k aF).ix == x) with
   | false =>
    have HN : Hid (BN ps x (k + 1) = true) := aa (by rw [BN, HR.out, bne, hpx]; rfl)
    obtain ⟨p, hp⟩ : ∃ p, ps.getD k aF = p := ⟨_, rfl⟩
    rw [hp] at i0 hpx
    clear hp hkl HR i1 i2 i3 i4
    go_wp2
    go_roundw
    case rel => exact ⟨k + 1, by omega, by go_num, HN, au⟩
    case measure => simp [intOf]; omega
   | true =>
    obtain rfl : r = false := by
     cases hrr : r with
     | false => rfl
     | true => exact absurd (by simpa using hpx) (rG (hr.out.trans hrr) k hlt)
    obtain ⟨p, hp⟩ : ∃ p, ps.getD k aF = p := ⟨_, rfl⟩
    rw [hp] at i0 hpx
    clear hp hkl HR i1 i2 i3 i4
    go_wp2
    go_ret
    exact ⟨rfl, au.out⟩
  ·
   obtain rfl : k = n := by omega
   obtain rfl : r = true := hr.out.symm.trans HR.out
   clear HR
   go_wp2
   go_ret
   exact ⟨rfl, au.out⟩
theorem R4 (o : aJ) (h : o.num < 0) (w : World) :
  Calls Tryz.prog 139 #[wU o] w (Rt w (.bool false)) := by
 have H9 : decide (o.num < 0) = true := by simp; omega
 obtain ⟨w0, HW, ai, kC⟩ := st1 (vo o) xM w
 have ah := bS w0
 go_in
 go_upto_region 1 with (fail)
 rw [HW.out]
 have zc := kC.out _ ah
 go_wp2
 go_ret
 exact ⟨rfl, fe ai ah⟩
theorem R3 (o : aJ) (h1 : 0 ≤ o.num) (h : 100 ≤ o.num) (w : World) :
  Calls Tryz.prog 139 #[wU o] w (Rt w (.bool false)) := by
 have H9 : decide (o.num < 0) = false := by simp; omega
 have ES : decide ((100 : Int) ≤ o.num) = true := by simp; omega
 obtain ⟨w0, HW, ai, kC⟩ := st1 (vo o) xM w
 have ah := bS w0
 go_in
 go_upto_region 1 with (fail)
 rw [HW.out]
 have zc := kC.out _ ah
 go_wp2
 go_ret
 exact ⟨rfl, fe ai ah⟩
theorem OD (o : aJ) (h1 : 0 ≤ o.num) (h2 : o.num < 100) (h : o.rs.size < 1) (w : World) :
  Calls Tryz.prog 139 #[wU o] w (Rt w (.bool false)) := by
 have H9 : decide (o.num < 0) = false := by simp; omega
 have ES : decide ((100 : Int) ≤ o.num) = false := by simp; omega
 have WC : decide ((o.rs.size : Int) < 1) = true := by simp; omega
 obtain ⟨w0, HW, ai, kC⟩ := st1 (vo o) xM w
 have ah := bS w0
 go_in
 go_upto_region 1 with (fail)
 rw [HW.out]
 have zc := kC.out _ ah
 go_wp2
 go_ret
 exact ⟨rfl, fe ai ah⟩
theorem OC (o : aJ) (h1 : 0 ≤ o.num) (h2 : o.num < 100) (h5 : 1 ≤ o.rs.size) (h : 200 < o.rs.size) (w : World) :
  Calls Tryz.prog 139 #[wU o] w (Rt w (.bool false)) := by
 have H9 : decide (o.num < 0) = false := by simp; omega
 have ES : decide ((100 : Int) ≤ o.num) = false := by simp; omega
 have WC : decide ((o.rs.size : Int) < 1) = false := by simp; omega
 have Yw : decide ((200 : Int) < (o.rs.size : Int)) = true := by simp; omega
 obtain ⟨w0, HW, ai, kC⟩ := st1 (vo o) xM w
 have ah := bS w0
 go_in
 go_upto_region 1 with (fail)
 rw [HW.out]
 have zc := kC.out _ ah
 go_wp2
 go_ret
 exact ⟨rfl, fe ai ah⟩
theorem RY (o : aJ) (h1 : 0 ≤ o.num) (h2 : o.num < 100) (h5 : 1 ≤ o.rs.size) (h6 : o.rs.size ≤ 200) (hsh : Hid (tZ o.na o.nz = false)) (w : World) :
  Calls Tryz.prog 139 #[wU o] w (Rt w (.bool false)) := by
 have H9 : decide (o.num < 0) = false := by simp; omega
 have ES : decide ((100 : Int) ≤ o.num) = false := by simp; omega
 have WC : decide ((o.rs.size : Int) < 1) = false := by simp; omega
 have Yw : decide ((200 : Int) < (o.rs.size : Int)) = false := by simp; omega
 obtain ⟨w0, HW, ai, kC⟩ := st1 (vo o) xM w
 have ah := bS w0
 go_in
 go_upto_region 1 with (fail)
 rw [HW.out]
 have zc := kC.out _ ah
 go_wp2_with fail
 clear zc
 refine eB kC ah (iD o.A o.na o.ca o.C o.Z o.nz o.cz false hsh _) fun w1 aD zc => ?_
 go_wp2
 go_ret
 exact ⟨rfl, fe ai aD⟩
theorem RX (o : aJ) (h1 : 0 ≤ o.num) (h2 : o.num < 100) (h5 : 1 ≤ o.rs.size) (h6 : o.rs.size ≤ 200) (hsh : Hid (tZ o.na o.nz = true)) (h3 : ¬ o.np ≤ 8) (w : World) :
  Calls Tryz.prog 139 #[wU o] w (Rt w (.bool false)) := by
 have H9 : decide (o.num < 0) = false := by simp; omega
 have ES : decide ((100 : Int) ≤ o.num) = false := by simp; omega
 have WC : decide ((o.rs.size : Int) < 1) = false := by simp; omega
 have Yw : decide ((200 : Int) < (o.rs.size : Int)) = false := by simp; omega
 have WE : decide ((8 : Int) < (o.np : Int)) = true := by simp; omega
 obtain ⟨w0, HW, ai, kC⟩ := st1 (vo o) xM w
 have ah := bS w0
 go_in
 go_upto_region 1 with (fail)
 rw [HW.out]
 have zc := kC.out _ ah
 go_wp2_with fail
 clear zc
 refine eB kC ah (iD o.A o.na o.ca o.C o.Z o.nz o.cz true hsh _) fun w1 aD zc => ?_
 go_wp2
 go_ret
 exact ⟨rfl, fe ai aD⟩
theorem RV (o : aJ) (h1 : 0 ≤ o.num) (h2 : o.num < 100) (h5 : 1 ≤ o.rs.size) (h6 : o.rs.size ≤ 200) (hsh : Hid (tZ o.na o.nz = true)) (h3 : o.np ≤ 8) (h4 : ¬ 0 ≤ o.key) (w : World) :
  Calls Tryz.prog 139 #[wU o] w (Rt w (.bool false)) := by
 have H9 : decide (o.num < 0) = false := by simp; omega
 have ES : decide ((100 : Int) ≤ o.num) = false := by simp; omega
 have WC : decide ((o.rs.size : Int) < 1) = false := by simp; omega
 have Yw : decide ((200 : Int) < (o.rs.size : Int)) = false := by simp; omega
 have WE : decide ((8 : Int) < (o.np : Int)) = false := by simp; omega
 have dk0 : decide (o.key < 0) = true := by simp; omega
 obtain ⟨w0, HW, ai, kC⟩ := st1 (vo o) xM w
 have ah := bS w0
 go_in
 go_upto_region 1 with (fail)
 rw [HW.out]
 have zc := kC.out _ ah
 go_wp2_with fail
 clear zc
 refine eB kC ah (iD o.A o.na o.ca o.C o.Z o.nz o.cz true hsh _) fun w1 aD zc => ?_
 go_wp2
 go_ret
 exact ⟨rfl, fe ai aD⟩
theorem RU (o : aJ) (h1 : 0 ≤ o.num) (h2 : o.num < 100) (h5 : 1 ≤ o.rs.size) (h6 : o.rs.size ≤ 200) (hsh : Hid (tZ o.na o.nz = true)) (h3 : o.np ≤ 8) (h4 : 0 ≤ o.key) (w : World) (ho : Hid (gy w o)) :
  Calls Tryz.prog 139 #[wU o] w (Rt w (.bool (jI o.ps o.np))) := by
 have H9 : decide (o.num < 0) = false := by simp; omega
 have ES : decide ((100 : Int) ≤ o.num) = false := by simp; omega
 have WC : decide ((o.rs.size : Int) < 1) = false := by simp; omega
 have Yw : decide ((200 : Int) < (o.rs.size : Int)) = false := by simp; omega
 have WE : decide ((8 : Int) < (o.np : Int)) = false := by simp; omega
 have dk0 : decide (o.key < 0) = false := by simp; omega
 obtain ⟨w0, HW, ai, kC⟩ := st1 (vo o) xM w
 have kO := gV (fun u => gy u o) ai ho (·.below)
 have ah := bS w0
 clear ho
 go_in
 go_upto_region 1 with (fail)
 rw [HW.out]
 have zc := kC.out _ ah
 go_wp2_with fail
 clear zc
 refine eB kC ah (iD o.A o.na o.ca o.C o.Z o.nz o.cz true hsh _) fun w1 aD zc => ?_
 go_wp2
 clear zc
 go_loopw [3] (fun i wr => ∃ k : Nat, k ≤ o.np ∧ i = .int .i64 k ∧ Hid (jI o.ps k = true) ∧ Hid (Below w0.heap.size w0 wr)) (fun i _ => o.np - (intOf i).toNat)
 case atStart => exact ⟨0, by omega, rfl, aa rfl, aD⟩
 case round =>
  obtain ⟨k, hk, rfl, HR, au⟩ := hrel
  by_cases hlt : k < o.np
  ·
   obtain ⟨ok1, Ze, ⟨UT, Yi⟩, Zd, Zc, Sc⟩ := (kO.out _ au).out
   have hkl : k < o.ps.length := by rw [UT]; exact hlt
   obtain ⟨b, f, hA, j0, j1, j2, j3, j4, j5⟩ := Sc k hkl
   clear j5
   have J9 := aa Sc
   have HKP : Hid (k ≤ o.ps.length) := aa (by omega)
   have hkc : k ≤ o.cp := by omega
   clear ok1 Ze UT Zd Zc Sc hkl
   obtain ⟨p, hp⟩ : ∃ p, o.ps.getD k aF = p := ⟨_, rfl⟩
   have nU := aa hp
   rw [hp] at j0 j1 j2 j3 j4
   obtain ⟨LA, Ti⟩ : ∃ x, o.L = x := ⟨_, rfl⟩
   have zQ := aa Ti
   rw [Ti] at hA J9
   subst hA
   clear hp Ti
   by_cases hx0 : p.ix < 1
   ·
    have UY : decide (p.ix < 1) = true := by simp; omega
    have HF : Hid (jI o.ps o.np = false) := aa (ku (k := k) (by rw [uB, nU.out]; simp; omega) hlt)
    clear HR
    have dX := bS wr
    have kP := wh (w := wr) (fun u => Pa u (some ⟨b, f, none⟩) o.ps) J9.out (·.below)
    obtain ⟨zW, zV, Cq, Co, Cn, Cm, Ck, xZ, E5⟩ := kC.out _ au
    rw [zQ.out] at xZ
    have kC := aa (show ∀ u : World, Hid (Below w0.heap.size w0 u) → u.cell? ⟨w.heap.size, 0, none⟩ = some (.int .i64 o.num) ∧ u.cell? ⟨w.heap.size, 1, none⟩ = some (.string o.rs) ∧ u.cell? ⟨w.heap.size, 2, none⟩ = some (.int .i64 o.E1) ∧ u.cell? ⟨w.heap.size, 3, none⟩ = some (.int .i64 o.E2) ∧ u.cell? ⟨w.heap.size, 4, none⟩ = some (.slice o.A o.na o.ca) ∧ u.cell? ⟨w.heap.size, 5, none⟩ = some (.int .i64 o.C) ∧ u.cell? ⟨w.heap.size, 6, none⟩ = some (.slice o.Z o.nz o.cz) ∧ u.cell? ⟨w.heap.size, 7, none⟩ = some (.slice (some ⟨b, f, none⟩) o.np o.cp) ∧ u.cell? ⟨w.heap.size, 8, none⟩ = some (.int .i64 o.key) from fun u h => by
     have hk := kC.out u h
     rw [zQ.out] at hk
     exact hk)
    obtain ⟨w2, hw, qb, Cc, -, kS⟩ := sI (uf p) sG wr
    have aN := pY au qb
    have aY := pY dX qb
    have bg := bS w2
    clear qb
    have oQ := kC.out _ aN
    have jG := kS.out _ bg
    go_upto_region 7 with (fail)
    clear zW zV Cq Co Cn Cm Ck xZ E5 oQ jG hw
    have zc := kC.out _ aN
    have iR := kS.out _ bg
    clear j0 j1 j2 j3 j4
    clear zc iR
    have hO := aa (fun (u : World) (h : Hid (Below w0.heap.size w0 u ∧ Below wr.heap.size wr u ∧ Below w2.heap.size w2 u)) => And.intro (kC.out u (aa h.out.1)) (kS.out u (aa h.out.2.2)))
    refine t_ (fun u => Below w0.heap.size w0 u ∧ Below wr.heap.size wr u ∧ Below w2.heap.size w2 u) [] (bb3 (aa ⟨aN.out, aY.out, bg.out⟩) ((Below.refl _ _).drew)) (fun hHeld => ?_)
    refine aT 0 1 2 3 ?_
    refine jl 4 ?_
    refine jl 5 ?_
    refine jl 6 ?_
    refine aH 7 ?_
    refine aH 8 ?_
    refine dR 9 10 11 12 ?_
    refine jl 13 ?_
    refine jl 14 ?_
    refine jl 15 ?_
    refine aH 16 ?_
    refine aH 17 ?_
    refine dR 18 19 20 21 ?_
    refine aH 22 ?_
    refine gz ?_
    clear hO
    have dW := (aa hHeld.out.1)
    have lH := (aa hHeld.out.2.1)
    have qc := (aa hHeld.out.2.2)
    clear hHeld
    have zc := kC.out _ dW
    have iR := kS.out _ qc
    have bV := ag ai.out dW.out
    go_wp2
    go_ret
    exact ⟨(by rw [HF.out]; try rfl), bV⟩
   ·
    by_cases hx1 : 8 < p.ix
    ·
     have UY : decide (p.ix < 1) = false := by simp; omega
     have WA : decide ((8 : Int) < p.ix) = true := by simp; omega
     have HF : Hid (jI o.ps o.np = false) := aa (ku (k := k) (by rw [uB, nU.out]; simp; omega) hlt)
     clear HR
     have dX := bS wr
     have kP := wh (w := wr) (fun u => Pa u (some ⟨b, f, none⟩) o.ps) J9.out (·.below)
     obtain ⟨zW, zV, Cq, Co, Cn, Cm, Ck, xZ, E5⟩ := kC.out _ au
     rw [zQ.out] at xZ
     have kC := aa (show ∀ u : World, Hid (Below w0.heap.size w0 u) → u.cell? ⟨w.heap.size, 0, none⟩ = some (.int .i64 o.num) ∧ u.cell? ⟨w.heap.size, 1, none⟩ = some (.string o.rs) ∧ u.cell? ⟨w.heap.size, 2, none⟩ = some (.int .i64 o.E1) ∧ u.cell? ⟨w.heap.size, 3, none⟩ = some (.int .i64 o.E2) ∧ u.cell? ⟨w.heap.size, 4, none⟩ = some (.slice o.A o.na o.ca) ∧ u.cell? ⟨w.heap.size, 5, none⟩ = some (.int .i64 o.C) ∧ u.cell? ⟨w.heap.size, 6, none⟩ = some (.slice o.Z o.nz o.cz) ∧ u.cell? ⟨w.heap.size, 7, none⟩ = some (.slice (some ⟨b, f, none⟩) o.np o.cp) ∧ u.cell? ⟨w.heap.size, 8, none⟩ = some (.int .i64 o.key) from fun u h => by
      have hk := kC.out u h
      rw [zQ.out] at hk
      exact hk)
     obtain ⟨w2, hw, qb, Cc, -, kS⟩ := sI (uf p) sG wr
     have aN := pY au qb
     have aY := pY dX qb
     have bg := bS w2
     clear qb
     have oQ := kC.out _ aN
     have jG := kS.out _ bg
     go_upto_region 7 with (fail)
     clear zW zV Cq Co Cn Cm Ck xZ E5 oQ jG hw
     have zc := kC.out _ aN
     have iR := kS.out _ bg
     clear j0 j1 j2 j3 j4
     clear zc iR
     have hO := aa (fun (u : World) (h : Hid (Below w0.heap.size w0 u ∧ Below wr.heap.size wr u ∧ Below w2.heap.size w2 u)) => And.intro (kC.out u (aa h.out.1)) (kS.out u (aa h.out.2.2)))
     refine t_ (fun u => Below w0.heap.size w0 u ∧ Below wr.heap.size wr u ∧ Below w2.heap.size w2 u) [] (bb3 (aa ⟨aN.out, aY.out, bg.out⟩) ((Below.refl _ _).drew)) (fun hHeld => ?_)
     refine aT 0 1 2 3 ?_
     refine aT 4 5 6 7 ?_
     refine aH 8 ?_
     refine dR 9 10 11 12 ?_
     refine jl 13 ?_
     refine jl 14 ?_
     refine jl 15 ?_
     refine aH 16 ?_
     refine aH 17 ?_
     refine dR 18 19 20 21 ?_
     refine aH 22 ?_
     refine gz ?_
     clear hO
     have dW := (aa hHeld.out.1)
     have lH := (aa hHeld.out.2.1)
     have qc := (aa hHeld.out.2.2)
     clear hHeld
     have zc := kC.out _ dW
     have iR := kS.out _ qc
     have bV := ag ai.out dW.out
     go_wp2
     go_ret
     exact ⟨(by rw [HF.out]; try rfl), bV⟩
    ·
     cases hfr : BN o.ps p.ix k with
     | true =>
      cases hss : tZ p.na p.nz with
      | true =>
       have UY : decide (p.ix < 1) = false := by simp; omega
       have WA : decide ((8 : Int) < p.ix) = false := by simp; omega
       have HS : Hid (jI o.ps (k + 1) = true) := aa (by rw [jI, HR.out, uB, nU.out]; simp [hfr, hss]; omega)
       have NH := aa hfr
       have CB := aa hss
       clear hfr hss HR
       have dX := bS wr
       have kP := wh (w := wr) (fun u => Pa u (some ⟨b, f, none⟩) o.ps) J9.out (·.below)
       obtain ⟨zW, zV, Cq, Co, Cn, Cm, Ck, xZ, E5⟩ := kC.out _ au
       rw [zQ.out] at xZ
       have kC := aa (show ∀ u : World, Hid (Below w0.heap.size w0 u) → u.cell? ⟨w.heap.size, 0, none⟩ = some (.int .i64 o.num) ∧ u.cell? ⟨w.heap.size, 1, none⟩ = some (.string o.rs) ∧ u.cell? ⟨w.heap.size, 2, none⟩ = some (.int .i64 o.E1) ∧ u.cell? ⟨w.heap.size, 3, none⟩ = some (.int .i64 o.E2) ∧ u.cell? ⟨w.heap.size, 4, none⟩ = some (.slice o.A o.na o.ca) ∧ u.cell? ⟨w.heap.size, 5, none⟩ = some (.int .i64 o.C) ∧ u.cell? ⟨w.heap.size, 6, none⟩ = some (.slice o.Z o.nz o.cz) ∧ u.cell? ⟨w.heap.size, 7, none⟩ = some (.slice (some ⟨b, f, none⟩) o.np o.cp) ∧ u.cell? ⟨w.heap.size, 8, none⟩ = some (.int .i64 o.key) from fun u h => by
        have hk := kC.out u h
        rw [zQ.out] at hk
        exact hk)
       obtain ⟨w2, hw, qb, Cc, -, kS⟩ := sI (uf p) sG wr
       have aN := pY au qb
       have aY := pY dX qb
       have bg := bS w2
       clear qb
       have oQ := kC.out _ aN
       have jG := kS.out _ bg
       go_upto_region 7 with (fail)
       clear zW zV Cq Co Cn Cm Ck xZ E5 oQ jG hw
       have zc := kC.out _ aN
       have iR := kS.out _ bg
       clear j0 j1 j2 j3 j4
       clear zc iR
       have hO := aa (fun (u : World) (h : Hid (Below w0.heap.size w0 u ∧ Below wr.heap.size wr u ∧ Below w2.heap.size w2 u)) => And.intro (kC.out u (aa h.out.1)) (kS.out u (aa h.out.2.2)))
       refine t_ (fun u => Below w0.heap.size w0 u ∧ Below wr.heap.size wr u ∧ Below w2.heap.size w2 u) [] (bb3 (aa ⟨aN.out, aY.out, bg.out⟩) ((Below.refl _ _).drew)) (fun hHeld => ?_)
       refine aT 0 1 2 3 ?_
       refine aT 4 5 6 7 ?_
       refine aT 8 9 10 11 ?_
       refine aH 12 ?_
       refine aH 13 ?_
       refine aH 14 ?_
       refine bW 15 fun K hK => ?_
       go_simp
       refine (BL (some ⟨b, f, none⟩) o.ps k o.cp p.ix true NH HKP (by omega) _ (kP.out _ (aa hHeld.out.2.1))).mono ?_
       rintro e wA ⟨rfl, bM⟩
       refine hK.out _ _ (bb3 hHeld bM) (fun hHeld => ?_)
       clear hK K
       refine aT 16 17 18 19 ?_
       refine bW 20 fun K hK => ?_
       go_simp
       refine (iD p.A p.na p.ca p.C p.Z p.nz p.cz true CB _).mono ?_
       rintro e wA ⟨rfl, bM⟩
       refine hK.out _ _ (bb3 hHeld bM) (fun hHeld => ?_)
       clear hK K
       refine aH 21 ?_
       refine aH 22 ?_
       refine gz ?_
       clear hO
       have dW := (aa hHeld.out.1)
       have lH := (aa hHeld.out.2.1)
       have qc := (aa hHeld.out.2.2)
       clear hHeld
       have zc := kC.out _ dW
       have iR := kS.out _ qc
       go_wp2
       go_roundw
       case rel => exact ⟨k + 1, by omega, by go_num, HS, dW⟩
       case measure => simp [intOf]; omega
      | false =>
       have UY : decide (p.ix < 1) = false := by simp; omega
       have WA : decide ((8 : Int) < p.ix) = false := by simp; omega
       have HF : Hid (jI o.ps o.np = false) := aa (ku (k := k) (by rw [uB, nU.out]; simp [hss]) hlt)
       have NH := aa hfr
       have CB := aa hss
       clear hfr hss HR
       have dX := bS wr
       have kP := wh (w := wr) (fun u => Pa u (some ⟨b, f, none⟩) o.ps) J9.out (·.below)
       obtain ⟨zW, zV, Cq, Co, Cn, Cm, Ck, xZ, E5⟩ := kC.out _ au
       rw [zQ.out] at xZ
       have kC := aa (show ∀ u : World, Hid (Below w0.heap.size w0 u) → u.cell? ⟨w.heap.size, 0, none⟩ = some (.int .i64 o.num) ∧ u.cell? ⟨w.heap.size, 1, none⟩ = some (.string o.rs) ∧ u.cell? ⟨w.heap.size, 2, none⟩ = some (.int .i64 o.E1) ∧ u.cell? ⟨w.heap.size, 3, none⟩ = some (.int .i64 o.E2) ∧ u.cell? ⟨w.heap.size, 4, none⟩ = some (.slice o.A o.na o.ca) ∧ u.cell? ⟨w.heap.size, 5, none⟩ = some (.int .i64 o.C) ∧ u.cell? ⟨w.heap.size, 6, none⟩ = some (.slice o.Z o.nz o.cz) ∧ u.cell? ⟨w.heap.size, 7, none⟩ = some (.slice (some ⟨b, f, none⟩) o.np o.cp) ∧ u.cell? ⟨w.heap.size, 8, none⟩ = some (.int .i64 o.key) from fun u h => by
        have hk := kC.out u h
        rw [zQ.out] at hk
        exact hk)
       obtain ⟨w2, hw, qb, Cc, -, kS⟩ := sI (uf p) sG wr
       have aN := pY au qb
       have aY := pY dX qb
       have bg := bS w2
       clear qb
       have oQ := kC.out _ aN
       have jG := kS.out _ bg
       go_upto_region 7 with (fail)
       clear zW zV Cq Co Cn Cm Ck xZ E5 oQ jG hw
       have zc := kC.out _ aN
       have iR := kS.out _ bg
       clear j0 j1 j2 j3 j4
       clear zc iR
       have hO := aa (fun (u : World) (h : Hid (Below w0.heap.size w0 u ∧ Below wr.heap.size wr u ∧ Below w2.heap.size w2 u)) => And.intro (kC.out u (aa h.out.1)) (kS.out u (aa h.out.2.2)))
       refine t_ (fun u => Below w0.heap.size w0 u ∧ Below wr.heap.size wr u ∧ Below w2.heap.size w2 u) [] (bb3 (aa ⟨aN.out, aY.out, bg.out⟩) ((Below.refl _ _).drew)) (fun hHeld => ?_)
       refine aT 0 1 2 3 ?_
       refine aT 4 5 6 7 ?_
       refine aT 8 9 10 11 ?_
       refine aH 12 ?_
       refine aH 13 ?_
       refine aH 14 ?_
       refine bW 15 fun K hK => ?_
       go_simp
       refine (BL (some ⟨b, f, none⟩) o.ps k o.cp p.ix true NH HKP (by omega) _ (kP.out _ (aa hHeld.out.2.1))).mono ?_
       rintro e wA ⟨rfl, bM⟩
       refine hK.out _ _ (bb3 hHeld bM) (fun hHeld => ?_)
       clear hK K
       refine aT 16 17 18 19 ?_
       refine bW 20 fun K hK => ?_
       go_simp
       refine (iD p.A p.na p.ca p.C p.Z p.nz p.cz false CB _).mono ?_
       rintro e wA ⟨rfl, bM⟩
       refine hK.out _ _ (bb3 hHeld bM) (fun hHeld => ?_)
       clear hK K
       refine aH 21 ?_
       refine aH 22 ?_
       refine gz ?_
       clear hO
       have dW := (aa hHeld.out.1)
       have lH := (aa hHeld.out.2.1)
       have qc := (aa hHeld.out.2.2)
       clear hHeld
       have zc := kC.out _ dW
       have iR := kS.out _ qc
       have bV := ag ai.out dW.out
       go_wp2
       go_ret
       exact ⟨(by rw [HF.out]; try rfl), bV⟩
     | false =>
      have UY : decide (p.ix < 1) = false := by simp; omega
      have WA : decide ((8 : Int) < p.ix) = false := by simp; omega
      have HF : Hid (jI o.ps o.np = false) := aa (ku (k := k) (by rw [uB, nU.out]; simp [hfr]) hlt)
      have NH := aa hfr
      clear hfr HR
      have dX := bS wr
      have kP := wh (w := wr) (fun u => Pa u (some ⟨b, f, none⟩) o.ps) J9.out (·.below)
      obtain ⟨zW, zV, Cq, Co, Cn, Cm, Ck, xZ, E5⟩ := kC.out _ au
      rw [zQ.out] at xZ
      have kC := aa (show ∀ u : World, Hid (Below w0.heap.size w0 u) → u.cell? ⟨w.heap.size, 0, none⟩ = some (.int .i64 o.num) ∧ u.cell? ⟨w.heap.size, 1, none⟩ = some (.string o.rs) ∧ u.cell? ⟨w.heap.size, 2, none⟩ = some (.int .i64 o.E1) ∧ u.cell? ⟨w.heap.size, 3, none⟩ = some (.int .i64 o.E2) ∧ u.cell? ⟨w.heap.size, 4, none⟩ = some (.slice o.A o.na o.ca) ∧ u.cell? ⟨w.heap.size, 5, none⟩ = some (.int .i64 o.C) ∧ u.cell? ⟨w.heap.size, 6, none⟩ = some (.slice o.Z o.nz o.cz) ∧ u.cell? ⟨w.heap.size, 7, none⟩ = some (.slice (some ⟨b, f, none⟩) o.np o.cp) ∧ u.cell? ⟨w.heap.size, 8, none⟩ = some (.int .i64 o.key) from fun u h => by
       have hk := kC.out u h
       rw [zQ.out] at hk
       exact hk)
      obtain ⟨w2, hw, qb, Cc, -, kS⟩ := sI (uf p) sG wr
      have aN := pY au qb
      have aY := pY dX qb
      have bg := bS w2
      clear qb
      have oQ := kC.out _ aN
      have jG := kS.out _ bg
      go_upto_region 7 with (fail)
      clear zW zV Cq Co Cn Cm Ck xZ E5 oQ jG hw
      have zc := kC.out _ aN
      have iR := kS.out _ bg
      clear j0 j1 j2 j3 j4
      clear zc iR
      have hO := aa (fun (u : World) (h : Hid (Below w0.heap.size w0 u ∧ Below wr.heap.size wr u ∧ Below w2.heap.size w2 u)) => And.intro (kC.out u (aa h.out.1)) (kS.out u (aa h.out.2.2)))
      refine t_ (fun u => Below w0.heap.size w0 u ∧ Below wr.heap.size wr u ∧ Below w2.heap.size w2 u) [] (bb3 (aa ⟨aN.out, aY.out, bg.out⟩) ((Below.refl _ _).drew)) (fun hHeld => ?_)
      refine aT 0 1 2 3 ?_
      refine aT 4 5 6 7 ?_
      refine aT 8 9 10 11 ?_
      refine aH 12 ?_
      refine aH 13 ?_
      refine aH 14 ?_
      refine bW 15 fun K hK => ?_
      go_simp
      refine (BL (some ⟨b, f, none⟩) o.ps k o.cp p.ix false NH HKP (by omega) _ (kP.out _ (aa hHeld.out.2.1))).mono ?_
      rintro e wA ⟨rfl, bM⟩
      refine hK.out _ _ (bb3 hHeld bM) (fun hHeld => ?_)
      clear hK K
      refine aH 16 ?_
      refine aH 17 ?_
      refine dR 18 19 20 21 ?_
      refine aH 22 ?_
      refine gz ?_
      clear hO
      have dW := (aa hHeld.out.1)
      have lH := (aa hHeld.out.2.1)
      have qc := (aa hHeld.out.2.2)
      clear hHeld
      have zc := kC.out _ dW
      have iR := kS.out _ qc
      have bV := ag ai.out dW.out
      go_wp2
      go_ret
      exact ⟨(by rw [HF.out]; try rfl), bV⟩
  ·
   have hke : k = o.np := by omega
   have HF : Hid (jI o.ps o.np = true) := aa (by rw [← hke]; exact HR.out)
   have zc := kC.out _ au
   have bV := ag ai.out au.out
   rw [hke]
   go_wp2
   go_ret
   exact ⟨(by rw [HF.out]; try rfl), bV⟩
theorem Fg (o : aJ) (r : Bool) (hr : Hid (zF o = r)) (w : World) (ho : Hid (gy w o)) :
  Calls Tryz.prog 139 #[wU o] w (Rt w (.bool r)) := by
 rw [← hr.out]
 unfold zF
 by_cases h1 : 0 ≤ o.num
 ·
  rw [decide_eq_true h1, Bool.true_and]
  by_cases h2 : o.num < 100
  ·
   rw [decide_eq_true h2, Bool.true_and]
   unfold IY
   by_cases h5 : 1 ≤ o.rs.size
   ·
    rw [decide_eq_true h5, Bool.true_and]
    by_cases h6 : o.rs.size ≤ 200
    ·
     rw [decide_eq_true h6, Bool.true_and]
     cases hsh : tZ o.na o.nz with
     | false => exact RY o h1 h2 h5 h6 (aa hsh) w
     | true =>
      by_cases h3 : o.np ≤ 8
      ·
       rw [decide_eq_true h3]
       by_cases h4 : 0 ≤ o.key
       ·
        rw [decide_eq_true h4]
        exact RU o h1 h2 h5 h6 (aa hsh) h3 h4 w ho
       ·
        rw [decide_eq_false h4]
        exact RV o h1 h2 h5 h6 (aa hsh) h3 h4 w
      ·
       rw [decide_eq_false h3]
       exact RX o h1 h2 h5 h6 (aa hsh) h3 w
    ·
     rw [decide_eq_false h6]
     exact OC o h1 h2 h5 (by omega) w
   ·
    rw [decide_eq_false h5]
    exact OD o h1 h2 (by omega) w
  ·
   rw [decide_eq_false h2]
   exact R3 o h1 (by omega) w
 ·
  rw [decide_eq_false h1]
  exact R4 o (by omega) w
end Go.Proofs.YtchcllcbknfikaaGreatDoor