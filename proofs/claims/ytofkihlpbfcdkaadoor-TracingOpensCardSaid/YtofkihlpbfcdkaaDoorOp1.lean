/- Contracts and lemmas: Mod, Mr, Group, El, LawKit, Chk, Cf, Bits, RBits, Gops, Sml, Slk, Sha, Byt, DigA, DigB, DigC, LawKit2, LinB, LinC, OpR, OpP, OpE, Nwt, LinD, Quiet, Held, Many, DigD, DigE, DigF, RdgA, Itm, EncA. -/
import Derived.WalkKit
import Derived.Lib.TrailingZeros
import Derived.Test.YtofkihlpbfcdkaaDoorCards
import Derived.Test.YtofkihlpbfcdkaaDoorTie
import Derived.ProofKit
import Derived.OpenShut
import Derived.Carry
import Derived.Deep.DeepHandedRow
import Derived.Lib.LaidTab
import Derived.Stop.LaidErr
import Derived.Laws.MakeOwn
import Derived.Laws.OwnMore
import Derived.Deep.OwnRows
import Derived.OwnWalk
import Derived.Maps.AppendAt
import Derived.Deep.RegionHeld3
import Derived.Laws.BitsAllLaws
import Derived.BigRegion
import Derived.Deep.WholeRow
import Derived.Deep.Cut
import Derived.ChangeMaps5
import Derived.Deep.Slices
import Derived.Deep.AppendLies
import Derived.Lib.BitFns
import Derived.Test.YtofkihlpbfcdkaaDoorShelf
import Derived.Deep.QuietTactic
import Derived.BigQuiet
import Derived.Lib.Hide
import Derived.Outline
import Derived.Maps.OwnSet
import Derived.Laws.AppendOwnNone
import Derived.Deep.MidRow
import Derived.Deep.Heap
import Derived.Laws.StructEq
import Derived.Deep.RegionLaw
import Derived.Deep.DeepAppendRoom
import Derived.Lib.SliceRun
import Derived.Laws.BytesArg
import Derived.Shelf.Strings.Builder1
namespace Go.Proofs.YtofkihlpbfcdkaaDoor.SpM
end Go.Proofs.YtofkihlpbfcdkaaDoor.SpM
namespace Go.Proofs.YtofkihlpbfcdkaaDoor
namespace SpM
def pw (a e m : Int) : Int := a ^ e.toNat % m
end SpM
end Go.Proofs.YtofkihlpbfcdkaaDoor
namespace Go.Proofs.YtofkihlpbfcdkaaDoor
namespace SpM
def sq (n : Int) : Nat → Int → Bool
  | 0, _ => true
  | k + 1, x => if x * x % n = n - 1 then false else sq n k (x * x % n)
def comp (a n d : Int) (s : Nat) : Bool :=
  if pw a d n = 1 ∨ pw a d n = n - 1 then false else sq n (s - 1) (pw a d n)
end SpM
end Go.Proofs.YtofkihlpbfcdkaaDoor
namespace Go.Proofs.YtofkihlpbfcdkaaDoor
open Go.RowKit SpM
set_option linter.unusedVariables false
theorem below_drawN {B : Nat} {a w : World} (h : Below B a w) (n : Nat) : Below B a (w.drewN n) := by
  induction n with
  | zero => exact h
  | succ n ih => exact ih.drew
theorem below_box0 (w : World) (o : Obj) : Below w.heap.size w (w.alloc o) := (Below.refl _ _).alloc (Nat.le_refl _) _
theorem below_ext {w u u' : World} (h : Below w.heap.size w u) (h2 : Below u.heap.size u u') : Below w.heap.size w u' := h.trans (h2.mono h.size)
def GBox (w : World) (a : Nat) (P Q G : Int) : Prop := w.cell? ⟨a, 0, none⟩ = some (.int .i64 P) ∧ w.cell? ⟨a, 1, none⟩ = some (.int .i64 Q) ∧ w.cell? ⟨a, 2, none⟩ = some (.int .i64 G)
theorem GBox.below {w w' : World} {a : Nat} {P Q G : Int} (h : GBox w a P Q G) (hb : Below w.heap.size w w') : GBox w' a P Q G :=
  ⟨(hb.cell (World.block_lt_of_cell? _ _ h.1)).trans h.1, (hb.cell (World.block_lt_of_cell? _ _ h.2.1)).trans h.2.1, (hb.cell (World.block_lt_of_cell? _ _ h.2.2)).trans h.2.2⟩
end Go.Proofs.YtofkihlpbfcdkaaDoor
namespace Go.Proofs.YtofkihlpbfcdkaaDoor
open Go.ChangeShapes Go.WideShapes Go.ChangeAt Go.RowKit SpM
set_option linter.unusedVariables false
set_option maxRecDepth 100000
theorem own : ownKnob Tryd.prog.godebug = none := by kernel_rfl
theorem laidOut : laidOutB Tryd.prog = true := by kernel_rfl
theorem cellsU8 : Tryd.prog.cellsOf 5 = 1 := by kernel_rfl
theorem cellsInt : Tryd.prog.cellsOf 3 = 1 := by kernel_rfl
section
variable {H : Type} {enc : TypeId × Value → H}
theorem stays_all {W W' : World} (hb : Below W.heap.size W W') {sp : Nat → Bool} : ∀ {ts : List TypeId} {vs : List Value} {ds : List (DataW H)} {ps : List MemPlace},
    (∀ t ∈ ts, Tryd.prog.readableRec t = true ∧ t < Tryd.prog.types.size) → DataW.TrodAll enc Tryd.prog W 0 (fun _ => true) true ts vs ds ps → (∀ x ∈ ps, x.block < W.heap.size) → (∀ x ∈ ps, sp x.block = true) →
    DataW.TrodAll enc Tryd.prog W' 0 sp true ts vs ds ps
  | [], _, _, _, _, h, _, _ => by
    obtain ⟨rfl, rfl, rfl⟩ := trodAll_nil h
    exact trodAll_mk0
  | t :: ts, _, _, _, ht, h, hlt, hs => by
    obtain ⟨v, vs', d, ds', p, q, rfl, rfl, rfl, h0, hr⟩ := trodAll_cons h
    have h1 := ht t (List.mem_cons_self ..)
    exact trodAll_cons_mk (WideElems.Trod_stays laidOut h1.1 h1.2 h0 (fun x hx => hb.same (hlt x (List.mem_append_left _ hx))) (fun x hx => hs x (List.mem_append_left _ hx)))
      (stays_all hb (fun t' h' => ht t' (List.mem_cons_of_mem _ h')) hr (fun x hx => hlt x (List.mem_append_right _ hx)) (fun x hx => hs x (List.mem_append_right _ hx)))
theorem law_post {f : Func} {s : ChangeSpec} {apart fresh handsOn again : Bool} {W W' : World} {args : Array Value} {ds gs : List (DataW H)} {before : List MemPlace}
    (hts : ∀ t ∈ f.params.toList, Tryd.prog.readableRec t = true ∧ t < Tryd.prog.types.size)
    (hv : s.vars = []) (hres : f.resultTypes = #[4])
    (hW : DataW.Whole enc Tryd.prog f.params.toList s.vars apart W args.toList ds gs before)
    (hfn : s.fn H (ds ++ gs) = { results := [.lit (.bool true)], args := ds }) (hb : Below W.heap.size W W') :
    s.post enc Tryd.prog f apart fresh handsOn again W args (.bool true) W' := by
  have hlt : ∀ p ∈ before, p.block < W.heap.size := fun p hp => hW.lt p hp
  have hW2 := hW
  obtain ⟨pa, pv, hA, hV, hps, hz, hn⟩ := hW
  rw [hv] at hV
  obtain ⟨hg, hpv⟩ := trodVars_none hV
  subst hg; subst hpv
  rw [List.append_nil] at hps
  subst hps
  have hargs : ∀ sp : Nat → Bool, (∀ p ∈ before, sp p.block = true) → DataW.TrodAll enc Tryd.prog W' 0 sp true f.params.toList args.toList (s.fn H (ds ++ [])).args before := fun sp hsp => by
    rw [hfn]; exact stays_all hb hts hA hlt hsp
  have hvars : ∀ sp : Nat → Bool, DataW.TrodVars enc Tryd.prog W' sp s.vars (s.fn H (ds ++ [])).vars [] := fun sp => by
    rw [hfn, hv]; rfl
  have hress : ∀ (b : Nat) (sp : Nat → Bool) (hd : Bool), DataW.TrodAll enc Tryd.prog W' b sp hd f.resultTypes.toList ((Value.bool true).resultList f.resultTypes.size) (s.fn H (ds ++ [])).results [] := fun b sp hd => by
    rw [hfn, hres]; exact trodAll_cons_mk (shut_bool Tryd.underlying4 _) trodAll_mk0
  have hold : ∀ p ∈ before, (fun b => decide (b < W.heap.size)) p.block = true := fun p hp => by simpa using hlt p hp
  refine ⟨ds, [], before, [], before, [], hW2, hress _ _ _, hargs _ hold, hvars _, World.keptBut_mono (fun p hp => ⟨hp, ?_⟩) (hb.frame (· ∈ before)), fun _ => ?_⟩
  · exact Or.inr (Or.inl hp)
  · refine ⟨ok_one hres rfl (okWide_bool_mk Tryd.underlying4 _), _, _, ([] ++ before) ++ [], ⟨[] ++ before, [], trodAll_append (hargs _ (fun _ _ => rfl)) (hress _ _ _), hvars _, rfl, ?_, ?_⟩, ?_⟩
    · intro b off hp
      have hin : MemPlace.cell b off ∈ before := by simpa using hp
      rw [hb.frozen (hlt _ hin)]
      exact hz b off hin
    · intro ha
      simpa using hn ha
    · intro p hp _
      simpa using hp
end
section
variable {H : Type} {enc : TypeId × Value → H} {w : World} {base : Nat} {spare : Nat → Bool} {held : Bool}
theorem open_i64 {r : Reach} {b0 : Nat} {v : Value} {d : DataW H} {ps : List MemPlace} (hval : Value.okWide Tryd.prog w r b0 3 v) (hd : DataW.Trod enc Tryd.prog w base spare held 3 v d ps) :
    ∃ n, v = .int .i64 n ∧ -9223372036854775808 ≤ n ∧ n ≤ 9223372036854775807 := by
  obtain ⟨n, rfl, _, _, hw⟩ := open_int Tryd.underlying3 hval hd
  exact ⟨n, rfl, bounds_i64 hw⟩
end
end Go.Proofs.YtofkihlpbfcdkaaDoor
namespace Go.Proofs.YtofkihlpbfcdkaaDoor
open Go.RowKit SpM
set_option linter.unusedVariables false
def Cells (w : World) (b : Nat) (xs : List Int) : Prop := ∀ k, k < xs.length → w.cell? ⟨b, k, none⟩ = some (.int .i64 (xs.getD k 0))
theorem Cells.below {w w' : World} {b : Nat} {xs : List Int} (h : Cells w b xs) (hb : Below w.heap.size w w') : Cells w' b xs :=
  fun k hk => (hb.cell (World.block_lt_of_cell? _ _ (h k hk))).trans (h k hk)
end Go.Proofs.YtofkihlpbfcdkaaDoor
namespace Go.Proofs.YtofkihlpbfcdkaaDoor
open Go.RowKit SpM
set_option linter.unusedVariables false
set_option maxRecDepth 20000
def Sl (w : World) (A : Option Addr) (xs : List Int) : Prop := ∀ k, k < xs.length → ∃ b o, A = some ⟨b, o, none⟩ ∧ w.cell? ⟨b, o + k, none⟩ = some (.int .i64 (xs.getD k 0))
theorem Sl.below {w w' : World} {A : Option Addr} {xs : List Int} (h : Sl w A xs) (hb : Below w.heap.size w w') : Sl w' A xs := fun k hk => by
  obtain ⟨b, o, h1, h2⟩ := h k hk
  exact ⟨b, o, h1, (hb.cell (World.block_lt_of_cell? _ _ h2)).trans h2⟩
def RowF (w : World) (B n : Nat) (f : Nat → Int) : Prop := (∀ j, j < n → w.cell? ⟨B, j, none⟩ = some (.int .i64 (f j))) ∧ (∀ j, w.frozen? ⟨B, j, none⟩ = false)
theorem cell_blk {w : World} {g : Nat} {cs : Array Value} {T : TypeId} (h : w.heap[g]? = some (.cells cs T)) (j : Nat) : w.cell? ⟨g, j, none⟩ = cs[j]? := by simp [World.cell?, h]
theorem frozen_blk {w : World} {g : Nat} {cs : Array Value} {T : TypeId} (h : w.heap[g]? = some (.cells cs T)) (j : Nat) : w.frozen? ⟨g, j, none⟩ = false := by simp [World.frozen?, h]
def OwnL (w : World) (base : Nat) (v : Value) (xs : List Int) : Prop := w.ownsRow base 3 1 v xs.length (xs.map (Value.int .i64))
theorem ownL_nil (w : World) (base : Nat) : OwnL w base (.slice none 0 0) [] := World.ownsRow_nil _ _ _ _
theorem OwnL.app {w1 : World} {base k : Nat} {v' : Value} {xs : List Int} {x : Int} (hk : k = xs.length)
    (h : w1.ownsRow base 3 1 v' (k + 1) (xs.map (Value.int .i64) ++ [.int .i64 x])) : OwnL w1 base v' (xs ++ [x]) := by
  unfold OwnL
  rw [List.length_append, List.map_append, List.length_singleton, ← hk]
  exact h
theorem OwnL.below {w w1 wr : World} {B : Nat} {o : Obj} {v : Value} {xs : List Int} (h : OwnL wr B v xs) (hb : Below B w wr) (hB : B ≤ wr.heap.size) (hg : (wr.alloc o).grownBy w1 v.ownBlock) : Below B w w1 :=
  (hb.alloc hB o).grown hg (by simp; omega) (fun j hj => (World.ownsRow.lt h j hj).1)
theorem OwnL.cells {w : World} {B : Nat} {v : Value} {xs : List Int} (h : OwnL w B v xs) (hne : 0 < xs.length) : ∃ g cap, v = .slice (some ⟨g, 0, none⟩) xs.length cap ∧ B ≤ g ∧ Cells w g xs := by
  obtain ⟨h1, h2⟩ := h
  rcases h2 with ⟨_, h0⟩ | ⟨g, cap, cur, rfl, hg, hh, hn, hc, hs, ht⟩
  · omega
  · refine ⟨g, cap, rfl, hg, fun j hj => ?_⟩
    rw [cell_blk hh]
    have e : cur.toList[j]? = (xs.map (Value.int .i64))[j]? := by
      rw [← ht, List.getElem?_take_of_lt (by omega)]
    rw [← Array.getElem?_toList, e, List.getElem?_map, List.getElem?_eq_getElem hj, List.getD_eq_getElem?_getD, List.getElem?_eq_getElem hj]
    rfl
end Go.Proofs.YtofkihlpbfcdkaaDoor
namespace Go.Proofs.YtofkihlpbfcdkaaDoor
open Go.RowKit SpM
set_option linter.unusedVariables false
theorem below_two {w w1 : World} {o1 o2 : Obj} (h : Below ((w.alloc o1).alloc o2).heap.size ((w.alloc o1).alloc o2) w1) : Below w.heap.size w w1 :=
  below_ext (((Below.refl _ _).alloc (Nat.le_refl _) _).alloc (by simp) _) h
theorem cell_below {w w' : World} {p : Addr} {v : Value} (h : w.cell? p = some v) (hb : Below w.heap.size w w') : w'.cell? p = some v := (hb.cell (World.block_lt_of_cell? _ _ h)).trans h
end Go.Proofs.YtofkihlpbfcdkaaDoor
namespace Go.Proofs.YtofkihlpbfcdkaaDoor
open Go.RowKit SpM
set_option linter.unusedVariables false
set_option linter.unusedSimpArgs false
set_option maxRecDepth 100000
def Own (w : World) (p : Addr) (v : Value) : Prop := w.cell? p = some v ∧ w.frozen? p = false
theorem Own.below {w w' : World} {p : Addr} {v : Value} (h : Own w p v) (hb : Below w.heap.size w w') : Own w' p v :=
  ⟨cell_below h.1 hb, (hb.frozen (World.block_lt_of_cell? _ _ h.1)).trans h.2⟩
theorem allocs_cell {w : World} {cs : Array Value} {T : TypeId} {n j : Nat} {v : Value} (hn : w.heap.size = n) (hj : cs[j]? = some v) : (w.alloc (.cells cs T)).cell? ⟨n, j, none⟩ = some v := by
  subst hn
  exact (World.cell?_alloc_at _ _ _ _ rfl).trans hj
theorem allocs_own {w : World} {cs : Array Value} {T : TypeId} {n j : Nat} {v : Value} (hn : w.heap.size = n) (hj : cs[j]? = some v) : Own (w.alloc (.cells cs T)) ⟨n, j, none⟩ v := by
  refine ⟨allocs_cell hn hj, ?_⟩
  subst hn
  exact frozen_blk (heap_alloc_new w _) _
def SlOut (xs : List Int) (n : Nat) (w : World) (e : Ending) (w' : World) : Prop := ∃ A c, e = .returned (.slice A n c) ∧ Sl w' A xs ∧ (0 < xs.length → ∃ g, A = some ⟨g, 0, none⟩ ∧ w.heap.size ≤ g) ∧ Below w.heap.size w w'
theorem sl0 (w : World) (A : Option Addr) : Sl w A [] := fun k hk => absurd hk (by simp)
theorem OwnL.sl {w : World} {B : Nat} {v : Value} {xs : List Int} (h : OwnL w B v xs) : ∃ A c, v = .slice A xs.length c ∧ Sl w A xs ∧ (0 < xs.length → ∃ g, A = some ⟨g, 0, none⟩ ∧ B ≤ g) := by
  by_cases h0 : 0 < xs.length
  · obtain ⟨g, cap, rfl, hg, hc⟩ := OwnL.cells h h0
    exact ⟨some ⟨g, 0, none⟩, cap, rfl, fun k hk => ⟨g, 0, rfl, by rw [Nat.zero_add]; exact hc k hk⟩, fun _ => ⟨g, rfl, hg⟩⟩
  · have e : xs = [] := List.eq_nil_of_length_eq_zero (by omega)
    subst e
    obtain ⟨_, h2⟩ := h
    rcases h2 with ⟨hv, _⟩ | ⟨g, cap, cur, hv, _⟩
    · exact ⟨none, 0, hv, sl0 _ _, fun h => absurd h (by simp)⟩
    · exact ⟨_, cap, hv, sl0 _ _, fun h => absurd h (by simp)⟩
theorem Sl.at0 {w : World} {A : Option Addr} {xs : List Int} (h : Sl w A xs) (h0 : 0 < xs.length) : ∃ b o, A = some ⟨b, o, none⟩ ∧ ∀ j, j < xs.length → w.cell? ⟨b, o + j, none⟩ = some (.int .i64 (xs.getD j 0)) := by
  obtain ⟨b, o, rfl, _⟩ := h 0 h0
  exact ⟨b, o, rfl, fun j hj => by
    obtain ⟨b', o', e, hc⟩ := h j hj
    cases e
    exact hc⟩
theorem eqs_any (A : Option Addr) (xs : List Int) (n c : Nat) (B : Option Addr) (ys : List Int) (m d : Nat) (r : Bool) (hr : Hid ((xs == ys) = r)) (hn : Hid (xs.length = n)) (hm : Hid (ys.length = m)) (hbig : n < 1000000) (hbig2 : m < 1000000)
    (w : World) (hA : Hid (Sl w A xs)) (hB : Hid (Sl w B ys)) :
    Calls Tryd.prog 15 #[.slice A n c, .slice B m d] w fun e w' => e = .returned (.bool r) ∧ Below w.heap.size w w' := by
  have hn' := hn.out
  have hm' := hm.out
  by_cases hnm : n = m
  · by_cases h0 : n = 0
    · subst hnm
      subst h0
      refine (Tryd.slices_Equal_int_empty A B c 0 d w (by omega)).mono ?_
      rintro e w' ⟨rfl, rfl⟩
      have e1 := List.eq_nil_of_length_eq_zero hn'
      have e2 := List.eq_nil_of_length_eq_zero hm'
      refine ⟨?_, Below.refl _ _⟩
      rw [← hr.out, e1, e2]
      rfl
    · obtain ⟨b1, o1, rfl, hc1⟩ := hA.out.at0 (by omega)
      obtain ⟨b2, o2, rfl, hc2⟩ := hB.out.at0 (by omega)
      refine (Tryd.slices_Equal_int b1 o1 n c b2 o2 m d xs ys w (by omega) (by omega) (by omega) (by omega) hc1 hc2).mono ?_
      rintro e w' ⟨rfl, q, rfl⟩
      refine ⟨?_, below_drawN (Below.refl _ _) _⟩
      rw [List.take_of_length_le (by omega), List.take_of_length_le (by omega), hr.out]
  · refine (Tryd.slices_Equal_int_lens A B n c m d w hnm).mono ?_
    rintro e w' ⟨rfl, rfl⟩
    refine ⟨?_, Below.refl _ _⟩
    have : (xs == ys) = false := by
      rw [beq_eq_false_iff_ne]
      intro e
      rw [e] at hn'
      omega
    rw [← hr.out, this]
theorem clones_any (A : Option Addr) (xs : List Int) (n c : Nat) (hn : Hid (xs.length = n)) (hbig : n < 1000000) (w : World) (hA : Hid (Sl w A xs)) :
    Calls Tryd.prog 48 #[.slice A n c] w (SlOut xs n w) := by
  have hn' := hn.out
  by_cases h0 : n = 0
  · have e1 := List.eq_nil_of_length_eq_zero (hn'.trans h0)
    subst e1
    subst h0
    cases A with
    | none =>
      refine (Tryd.slices_Clone_int_nil 0 c w).mono ?_
      rintro e w' ⟨rfl, rfl⟩
      exact ⟨none, 0, rfl, sl0 _ _, fun h => absurd h (by simp), Below.refl _ _⟩
    | some a =>
      refine (Tryd.slices_Clone_int_zero a c w).mono ?_
      rintro e w' ⟨v', rfl, ho, _, hb⟩
      obtain ⟨B, cc, hv, hs, hg⟩ := OwnL.sl (xs := []) ho
      exact ⟨B, cc, by rw [hv]; rfl, hs, hg, hb⟩
  · obtain ⟨b1, o1, rfl, hc1⟩ := hA.out.at0 (by omega)
    refine (Tryd.slices_Clone_int b1 o1 n c xs w (by omega) (by omega) hc1).mono ?_
    rintro e w' ⟨v', rfl, ho, _, hb⟩
    rw [List.take_of_length_le (by omega), ← hn'] at ho
    obtain ⟨B, cc, hv, hs, hg⟩ := OwnL.sl (xs := xs) ho
    exact ⟨B, cc, by rw [hv, hn'], hs, hg, hb⟩
end Go.Proofs.YtofkihlpbfcdkaaDoor
namespace Go.Proofs.YtofkihlpbfcdkaaDoor
open Go.RowKit
set_option linter.unusedVariables false
structure Kp (p : Prop) : Prop where
  out : p
def rotr (x : Int) (n : Nat) : Int := bits .or .u32 (x / 2 ^ n) (IntKind.u32.wrap (x * 2 ^ (32 - n)))
def sgA (x : Int) : Int := bits .xor .u32 (bits .xor .u32 (rotr x 7) (rotr x 18)) (x / 8)
def sgB (x : Int) : Int := bits .xor .u32 (bits .xor .u32 (rotr x 17) (rotr x 19)) (x / 1024)
def add32 (x y : Int) : Int := IntKind.u32.wrap (x + y)
def wnext (l : List Int) : Int := add32 (add32 (add32 (l.getD (l.length - 16) 0) (sgA (l.getD (l.length - 15) 0))) (l.getD (l.length - 7) 0)) (sgB (l.getD (l.length - 2) 0))
def wext : Nat → List Int → List Int
  | 0, l => l
  | n + 1, l => wext n l ++ [wnext (wext n l)]
def byteAt (b : List Int) (i : Nat) : Int := b.getD i 0
def word4 (b : List Int) (i : Nat) : Int := ((byteAt b (4 * i) * 256 + byteAt b (4 * i + 1)) * 256 + byteAt b (4 * i + 2)) * 256 + byteAt b (4 * i + 3)
def wfirst (b : List Int) (n : Nat) : List Int := (List.range n).map (word4 b)
def schedL (b : List Int) : List Int := wext 48 (wfirst b 16)
theorem wfirst_len (b : List Int) (n : Nat) : (wfirst b n).length = n := by simp [wfirst]
theorem wfirst_succ (b : List Int) (n : Nat) : wfirst b (n + 1) = wfirst b n ++ [word4 b n] := by simp [wfirst, List.range_succ]
theorem wext_len (n : Nat) (l : List Int) : (wext n l).length = l.length + n := by
  induction n with
  | zero => rfl
  | succ n ih => rw [wext, List.length_append, ih]; rfl
theorem schedL_len (b : List Int) : (schedL b).length = 64 := by rw [schedL, wext_len, wfirst_len]
structure St where
  (a b c d e f g h : Int)
def sbA (x : Int) : Int := bits .xor .u32 (bits .xor .u32 (rotr x 2) (rotr x 13)) (rotr x 22)
def sbE (x : Int) : Int := bits .xor .u32 (bits .xor .u32 (rotr x 6) (rotr x 11)) (rotr x 25)
def not32 (x : Int) : Int := bits .xor .u32 4294967295 x
def chE (e f g : Int) : Int := bits .xor .u32 (bits .and .u32 e f) (bits .and .u32 (not32 e) g)
def maA (a b c : Int) : Int := bits .xor .u32 (bits .xor .u32 (bits .and .u32 a b) (bits .and .u32 a c)) (bits .and .u32 b c)
def rndX (s : St) (k w : Int) : Int := add32 (add32 (add32 (add32 s.h (sbE s.e)) (chE s.e s.f s.g)) k) w
def rndY (s : St) : Int := add32 (sbA s.a) (maA s.a s.b s.c)
def rnd (s : St) (k w : Int) : St := ⟨add32 (rndX s k w) (rndY s), s.a, s.b, s.c, add32 s.d (rndX s k w), s.e, s.f, s.g⟩
def KL : List Int := [
    0x428a2f98, 0x71374491, 0xb5c0fbcf, 0xe9b5dba5, 0x3956c25b, 0x59f111f1, 0x923f82a4, 0xab1c5ed5,
    0xd807aa98, 0x12835b01, 0x243185be, 0x550c7dc3, 0x72be5d74, 0x80deb1fe, 0x9bdc06a7, 0xc19bf174,
    0xe49b69c1, 0xefbe4786, 0x0fc19dc6, 0x240ca1cc, 0x2de92c6f, 0x4a7484aa, 0x5cb0a9dc, 0x76f988da,
    0x983e5152, 0xa831c66d, 0xb00327c8, 0xbf597fc7, 0xc6e00bf3, 0xd5a79147, 0x06ca6351, 0x14292967,
    0x27b70a85, 0x2e1b2138, 0x4d2c6dfc, 0x53380d13, 0x650a7354, 0x766a0abb, 0x81c2c92e, 0x92722c85,
    0xa2bfe8a1, 0xa81a664b, 0xc24b8b70, 0xc76c51a3, 0xd192e819, 0xd6990624, 0xf40e3585, 0x106aa070,
    0x19a4c116, 0x1e376c08, 0x2748774c, 0x34b0bcb5, 0x391c0cb3, 0x4ed8aa4a, 0x5b9cca4f, 0x682e6ff3,
    0x748f82ee, 0x78a5636f, 0x84c87814, 0x8cc70208, 0x90befffa, 0xa4506ceb, 0xbef9a3f7, 0xc67178f2]
def st0 : St := ⟨0x6a09e667, 0xbb67ae85, 0x3c6ef372, 0xa54ff53a, 0x510e527f, 0x9b05688c, 0x1f83d9ab, 0x5be0cd19⟩
def rnds (ws : List Int) (s : St) : Nat → St
  | 0 => s
  | n + 1 => rnd (rnds ws s n) (KL.getD n 0) (ws.getD n 0)
def addS (s t : St) : St := ⟨add32 s.a t.a, add32 s.b t.b, add32 s.c t.c, add32 s.d t.d, add32 s.e t.e, add32 s.f t.f, add32 s.g t.g, add32 s.h t.h⟩
def mixS (s : St) (b : List Int) : St := addS s (rnds (schedL b) s 64)
def blockOf (p : List Int) (n : Nat) : List Int := (p.drop (64 * n)).take 64
def shaSt (p : List Int) : Nat → St
  | 0 => st0
  | n + 1 => mixS (shaSt p n) (blockOf p n)
def be8 (n : Int) : List Int := [n / 72057594037927936 % 256, n / 281474976710656 % 256, n / 1099511627776 % 256, n / 4294967296 % 256, n / 16777216 % 256, n / 65536 % 256, n / 256 % 256, n % 256]
def padZ (n : Nat) : Nat := (119 - n % 64) % 64
def padL (b : List Int) : List Int := b ++ [128] ++ List.replicate (padZ b.length) 0 ++ be8 (8 * b.length)
def St.list (s : St) : List Int := [s.a, s.b, s.c, s.d, s.e, s.f, s.g, s.h]
def out4 (v : Int) : List Int := [v / 16777216 % 256, v / 65536 % 256, v / 256 % 256, v % 256]
def outL (s : St) : List Int := out4 s.a ++ out4 s.b ++ out4 s.c ++ out4 s.d ++ out4 s.e ++ out4 s.f ++ out4 s.g ++ out4 s.h
def sha (b : List Int) : List Int := outL (shaSt (padL b) ((padL b).length / 64))
def tagged (tag b : List Int) : List Int := sha (sha tag ++ sha tag ++ b)
def bytesB (l : List Int) : Bool := l.all fun x => decide (0 ≤ x) && decide (x < 256)
theorem be8_len (n : Int) : (be8 n).length = 8 := rfl
theorem sha_len (b : List Int) : (sha b).length = 32 := rfl
theorem tagged_len (t b : List Int) : (tagged t b).length = 32 := rfl
theorem padL_len (b : List Int) : (padL b).length = b.length + 9 + padZ b.length := by simp [padL, be8_len]; omega
theorem padL_mod (b : List Int) : (padL b).length % 64 = 0 := by rw [padL_len, padZ]; omega
theorem mod_byte (n : Int) : (decide (0 ≤ n % 256) && decide (n % 256 < 256)) = true := by simp; omega
theorem bytesB_app {a b : List Int} : bytesB (a ++ b) = (bytesB a && bytesB b) := by simp [bytesB]
theorem be8_bytes (n : Int) : bytesB (be8 n) = true := by simp [bytesB, be8, mod_byte]
theorem out4_bytes (n : Int) : bytesB (out4 n) = true := by simp [bytesB, out4, mod_byte]
theorem outL_bytes (s : St) : bytesB (outL s) = true := by simp only [outL, bytesB_app, out4_bytes, Bool.and_self]
theorem sha_bytes (b : List Int) : bytesB (sha b) = true := outL_bytes _
theorem padL_bytes {b : List Int} (h : bytesB b = true) : bytesB (padL b) = true := by
  simp only [padL, bytesB_app, h, be8_bytes, Bool.true_and, Bool.and_true]
  simp [bytesB]
theorem bytesB_get {l : List Int} (h : bytesB l = true) (i : Nat) : 0 ≤ l.getD i 0 ∧ l.getD i 0 < 256 := by
  by_cases hi : i < l.length
  · have := List.all_eq_true.1 h _ (List.getElem_mem hi)
    rw [List.getD_eq_getElem?_getD, List.getElem?_eq_getElem hi]
    simpa using this
  · rw [List.getD_eq_getElem?_getD, List.getElem?_eq_none (by omega)]; simp
theorem bytesB_take {l : List Int} (h : bytesB l = true) (n : Nat) : bytesB (l.take n) = true :=
  List.all_eq_true.2 fun x hx => List.all_eq_true.1 h x (List.mem_of_mem_take hx)
theorem bytesB_drop {l : List Int} (h : bytesB l = true) (n : Nat) : bytesB (l.drop n) = true :=
  List.all_eq_true.2 fun x hx => List.all_eq_true.1 h x (List.mem_of_mem_drop hx)
theorem blockOf_bytes {p : List Int} (h : bytesB p = true) (n : Nat) : bytesB (blockOf p n) = true := bytesB_take (bytesB_drop h _) _
theorem blockOf_len {p : List Int} {n : Nat} (h : 64 * n + 64 ≤ p.length) : (blockOf p n).length = 64 := by simp [blockOf]; omega
theorem bits_or_comm (a b : Int) : bits .or .u32 a b = bits .or .u32 b a := by
  simp only [bits]
  rw [BitVec.or_comm]
end Go.Proofs.YtofkihlpbfcdkaaDoor
namespace Go.Proofs.YtofkihlpbfcdkaaDoor
open Go.RowKit SpM
set_option linter.unusedVariables false
set_option linter.unusedSimpArgs false
set_option maxRecDepth 100000
def Sk (K : IntKind) (w : World) (A : Option Addr) (xs : List Int) : Prop := ∀ j, j < xs.length → ∃ b o, A = some ⟨b, o, none⟩ ∧ w.cell? ⟨b, o + j, none⟩ = some (.int K (xs.getD j 0))
variable {K : IntKind}
theorem sk0 (w : World) (A : Option Addr) : Sk K w A [] := fun k hk => absurd hk (by simp)
theorem Sk.below {w w' : World} {A : Option Addr} {xs : List Int} (h : Sk K w A xs) (hb : Below w.heap.size w w') : Sk K w' A xs := fun k hk => by
  obtain ⟨b, o, h1, h2⟩ := h k hk
  exact ⟨b, o, h1, (hb.cell (World.block_lt_of_cell? _ _ h2)).trans h2⟩
theorem Sk.at0 {w : World} {A : Option Addr} {xs : List Int} (h : Sk K w A xs) (h0 : 0 < xs.length) : ∃ b o, A = some ⟨b, o, none⟩ ∧ ∀ j, j < xs.length → w.cell? ⟨b, o + j, none⟩ = some (.int K (xs.getD j 0)) := by
  obtain ⟨b, o, rfl, _⟩ := h 0 h0
  exact ⟨b, o, rfl, fun j hj => by
    obtain ⟨b', o', e, hc⟩ := h j hj
    cases e
    exact hc⟩
theorem Sk.lt {w : World} {b o : Nat} {xs : List Int} (h : Sk K w (some ⟨b, o, none⟩) xs) (h0 : 0 < xs.length) : b < w.heap.size := by
  obtain ⟨b', o', e, hc⟩ := h 0 h0
  cases e
  exact World.block_lt_of_cell? _ _ hc
theorem Sk.cell {w : World} {b o : Nat} {xs : List Int} (h : Sk K w (some ⟨b, o, none⟩) xs) {j : Nat} (hj : j < xs.length) : w.cell? ⟨b, o + j, none⟩ = some (.int K (xs.getD j 0)) := by
  obtain ⟨b', o', e, hc⟩ := h j hj
  cases e
  exact hc
theorem Sk.drop {w : World} {b o n : Nat} {xs : List Int} (h : Sk K w (some ⟨b, o, none⟩) xs) : Sk K w (some ⟨b, o + n, none⟩) (xs.drop n) := fun j hj => by
  rw [List.length_drop] at hj
  refine ⟨b, o + n, rfl, ?_⟩
  rw [Nat.add_assoc, h.cell (j := n + j) (by omega)]
  simp [List.getD_eq_getElem?_getD, List.getElem?_drop]
theorem Sk.take {w : World} {A : Option Addr} {n : Nat} {xs : List Int} (h : Sk K w A xs) : Sk K w A (xs.take n) := fun j hj => by
  rw [List.length_take] at hj
  obtain ⟨b, o, h1, h2⟩ := h j (by omega)
  refine ⟨b, o, h1, ?_⟩
  rw [h2]
  simp [List.getD_eq_getElem?_getD, List.getElem?_take_of_lt (show j < n by omega)]
theorem Sk.grown {w w1 : World} {row : Option Nat} {A : Option Addr} {xs : List Int} (h : Sk K w A xs) (hg : w.grownBy w1 row) (hne : ∀ b o, A = some ⟨b, o, none⟩ → 0 < xs.length → row ≠ some b) : Sk K w1 A xs := fun k hk => by
  obtain ⟨b, o, h1, h2⟩ := h k hk
  exact ⟨b, o, h1, hg.cell h2 (fun e => hne b o h1 (by omega) e.symm)⟩
theorem Sk.nil_of {w : World} {A : Option Addr} {xs : List Int} (h : xs.length = 0) : Sk K w A xs := fun k hk => by omega
def OwnK (K : IntKind) (T : TypeId) (w : World) (base : Nat) (v : Value) (xs : List Int) : Prop := w.ownsRow base T 1 v xs.length (xs.map (Value.int K))
variable {T : TypeId}
theorem ownK_nil (w : World) (base : Nat) : OwnK K T w base (.slice none 0 0) [] := World.ownsRow_nil _ _ _ _
theorem OwnK.app {w1 : World} {base k : Nat} {v' : Value} {xs ys : List Int} {m : Nat} (hk : k = xs.length) (hm : m = ys.length)
    (h : w1.ownsRow base T 1 v' (k + m) (xs.map (Value.int K) ++ ys.map (Value.int K))) : OwnK K T w1 base v' (xs ++ ys) := by
  unfold OwnK
  rw [List.length_append, List.map_append, ← hk, ← hm]
  exact h
theorem OwnK.below {w w1 wr : World} {B : Nat} {o : Obj} {v : Value} {xs : List Int} (h : OwnK K T wr B v xs) (hb : Below B w wr) (hB : B ≤ wr.heap.size) (hg : (wr.alloc o).grownBy w1 v.ownBlock) : Below B w w1 :=
  (hb.alloc hB o).grown hg (by simp; omega) (fun j hj => (World.ownsRow.lt h j hj).1)
theorem OwnK.below0 {w w1 wr : World} {B : Nat} {v : Value} {xs : List Int} (h : OwnK K T wr B v xs) (hb : Below B w wr) (hB : B ≤ wr.heap.size) (hg : wr.grownBy w1 v.ownBlock) : Below B w w1 :=
  hb.grown hg (by omega) (fun j hj => (World.ownsRow.lt h j hj).1)
theorem OwnK.cells {w : World} {B : Nat} {v : Value} {xs : List Int} (h : OwnK K T w B v xs) (hne : 0 < xs.length) : ∃ g cap, v = .slice (some ⟨g, 0, none⟩) xs.length cap ∧ B ≤ g ∧ xs.length ≤ cap ∧ cap ≤ maxLen ∧ Sk K w (some ⟨g, 0, none⟩) xs := by
  obtain ⟨h1, h2⟩ := h
  rcases h2 with ⟨_, h0⟩ | ⟨g, cap, cur, rfl, hg, hh, hn, hc, hs, ht⟩
  · omega
  · refine ⟨g, cap, rfl, hg, hn, hc, fun j hj => ⟨g, 0, rfl, ?_⟩⟩
    rw [Nat.zero_add, cell_blk hh]
    have e : cur.toList[j]? = (xs.map (Value.int K))[j]? := by
      rw [← ht, List.getElem?_take_of_lt (by omega)]
    rw [← Array.getElem?_toList, e, List.getElem?_map, List.getElem?_eq_getElem hj, List.getD_eq_getElem?_getD, List.getElem?_eq_getElem hj]
    rfl
theorem OwnK.sk {w : World} {B : Nat} {v : Value} {xs : List Int} (h : OwnK K T w B v xs) : ∃ A c, v = .slice A xs.length c ∧ Sk K w A xs ∧ (0 < xs.length → ∃ g, A = some ⟨g, 0, none⟩ ∧ B ≤ g) ∧ xs.length ≤ c := by
  by_cases h0 : 0 < xs.length
  · obtain ⟨g, cap, rfl, hg, hn, _, hc⟩ := OwnK.cells h h0
    exact ⟨some ⟨g, 0, none⟩, cap, rfl, hc, fun _ => ⟨g, rfl, hg⟩, hn⟩
  · have e : xs = [] := List.eq_nil_of_length_eq_zero (by omega)
    subst e
    obtain ⟨_, h2⟩ := h
    rcases h2 with ⟨hv, _⟩ | ⟨g, cap, cur, hv, _⟩
    · exact ⟨none, 0, hv, sk0 _ _, fun h => absurd h (by simp), by simp⟩
    · exact ⟨_, cap, hv, sk0 _ _, fun h => absurd h (by simp), by simp⟩
theorem OwnK.keep {w w' : World} {B : Nat} {v : Value} {xs : List Int} (h : OwnK K T w B v xs) (hb : Below w.heap.size w w') : OwnK K T w' B v xs := by
  obtain ⟨h1, h2⟩ := h
  refine ⟨h1, h2.imp id ?_⟩
  rintro ⟨g, cap, cur, rfl, hg, hh, rest⟩
  exact ⟨g, cap, cur, rfl, hg, (hb.block g (Array.getElem?_eq_some_iff.1 hh).1).trans hh, rest⟩
theorem OwnK.mono {w : World} {B B' : Nat} {v : Value} {xs : List Int} (h : OwnK K T w B v xs) (hb : B' ≤ B) : OwnK K T w B' v xs := by
  obtain ⟨h1, h2⟩ := h
  refine ⟨h1, h2.imp id ?_⟩
  rintro ⟨g, cap, cur, rfl, hg, rest⟩
  exact ⟨g, cap, cur, rfl, by omega, rest⟩
theorem OwnK.kept {w w' : World} {row : Option Nat} {B : Nat} {v : Value} {xs : List Int} (h : OwnK K T w B v xs) (hg : w.grownBy w' row) (hne : v.ownBlock = none ∨ v.ownBlock ≠ row) : OwnK K T w' B v xs := World.ownsRow.kept h hg hne
theorem OwnK.row {w : World} {B n : Nat} {v : Value} {xs : List Int} (h : OwnK K T w B v xs) (hn : xs.length = n) : w.ownsRow B T 1 v n (xs.map (Value.int K)) := by
  subst hn; exact h
theorem OwnK.lt {w : World} {B : Nat} {v : Value} {xs : List Int} (h : OwnK K T w B v xs) (j : Nat) (hj : v.ownBlock = some j) : B ≤ j ∧ j < w.heap.size := World.ownsRow.lt h j hj
def KOut (K : IntKind) (T : TypeId) (xs : List Int) (w : World) (e : Ending) (w' : World) : Prop := ∃ v, e = .returned v ∧ OwnK K T w' w.heap.size v xs ∧ Below w.heap.size w w'
theorem getD_app_l {xs ys : List Int} {j : Nat} (h : j < xs.length) : (xs ++ ys).getD j 0 = xs.getD j 0 := by
  simp [List.getD_eq_getElem?_getD, List.getElem?_append_left h]
theorem getD_app_r {xs ys : List Int} {j : Nat} (h : xs.length ≤ j) : (xs ++ ys).getD j 0 = ys.getD (j - xs.length) 0 := by
  simp [List.getD_eq_getElem?_getD, List.getElem?_append_right h]
theorem take_one {xs : List Int} {k : Nat} (hk : k < xs.length) : xs.take (k + 1) = xs.take k ++ [xs.getD k 0] := by
  rw [List.take_add_one, List.getElem?_eq_getElem hk, List.getD_eq_getElem?_getD, List.getElem?_eq_getElem hk]
  rfl
def arr (K : IntKind) (l : List Int) : Array Value := (l.map (Value.int K)).toArray
theorem arr_size (l : List Int) : (arr K l).size = l.length := by simp [arr]
def Blk (K : IntKind) (T : TypeId) (w : World) (b : Nat) (l : List Int) : Prop := w.heap[b]? = some (.cells (arr K l) T (0, 0))
theorem Blk.below {w w' : World} {b : Nat} {l : List Int} (h : Blk K T w b l) (hb : Below w.heap.size w w') : Blk K T w' b l :=
  (hb.block b (Array.getElem?_eq_some_iff.1 h).1).trans h
theorem Blk.keepB {w w' : World} {b B : Nat} {l : List Int} (h : Blk K T w b l) (hlt : b < B) (hb : Below B w w') : Blk K T w' b l := (hb.block b hlt).trans h
theorem Blk.lt {w : World} {b : Nat} {l : List Int} (h : Blk K T w b l) : b < w.heap.size := (Array.getElem?_eq_some_iff.1 h).1
theorem arr_get {l : List Int} {j : Nat} (hj : j < l.length) : (arr K l)[j]? = some (.int K (l.getD j 0)) := by
  simp [arr, List.getD_eq_getElem?_getD, List.getElem?_eq_getElem hj]
theorem Blk.cell {w : World} {b j : Nat} {l : List Int} (h : Blk K T w b l) (hj : j < l.length) : w.cell? ⟨b, j, none⟩ = some (.int K (l.getD j 0)) := (cell_blk h j).trans (arr_get hj)
theorem Blk.free {w : World} {b : Nat} {l : List Int} (h : Blk K T w b l) (j : Nat) : w.frozen? ⟨b, j, none⟩ = false := frozen_blk h j
theorem arr_set {l : List Int} {j : Nat} {v : Int} : (arr K l).setIfInBounds j (.int K v) = arr K (l.set j v) := by
  apply Array.ext'
  simp [arr, List.map_set]
theorem Blk.set {w : World} {b j : Nat} {l : List Int} {v : Int} (h : Blk K T w b l) : Blk K T (w.setCell ⟨b, j, none⟩ (.int K v)) b (l.set j v) := by
  unfold Blk
  rw [heap_setCell_same w b j _ T _ h, arr_set]
theorem Blk.set_ne {w : World} {b a j : Nat} {l : List Int} {v : Value} (h : Blk K T w b l) (hne : b ≠ a) : Blk K T (w.setCell ⟨a, j, none⟩ v) b l :=
  (heap_setCell_other w _ b v hne).trans h
theorem Blk.setRow {w : World} {b : Nat} {l l' : List Int} (h : Blk K T w b l) : Blk K T (w.setRow b (arr K l')) b l' := setRow_heap w b _ _ T _ h
theorem Blk.setRow_ne {w : World} {b a : Nat} {l : List Int} {cs : Array Value} (h : Blk K T w b l) (hne : b ≠ a) : Blk K T (w.setRow a cs) b l := (setRow_other w a b cs hne).trans h
theorem Blk.new (w : World) (l : List Int) : Blk K T (w.alloc (.cells (arr K l) T)) w.heap.size l := heap_alloc_new _ _
theorem Blk.old {w : World} {b : Nat} {l : List Int} (h : Blk K T w b l) (o : Obj) : Blk K T (w.alloc o) b l := (Below.heap_alloc w o b h.lt).trans h
theorem Blk.drew {w : World} {b : Nat} {l : List Int} (h : Blk K T w b l) (n : Nat) : Blk K T (w.drewN n) b l := h.below (below_drawN (Below.refl _ _) n)
theorem Blk.sk {w : World} {b : Nat} {l : List Int} (h : Blk K T w b l) : Sk K w (some ⟨b, 0, none⟩) l := fun j hj => ⟨b, 0, rfl, by rw [Nat.zero_add]; exact h.cell hj⟩
theorem Blk.grown {w w1 : World} {row : Option Nat} {b : Nat} {l : List Int} (h : Blk K T w b l) (hg : w.grownBy w1 row) (hne : row ≠ some b) : Blk K T w1 b l := (hg.block b h.lt (Ne.symm hne)).trans h
theorem arr_one (l : List Int) : (arr K l).all (·.oneCell') = true := by simp [arr, Value.oneCell']
theorem below_setRow' {B b : Nat} {w0 w : World} {cs : Array Value} (h : Below B w0 w) (hb : B ≤ b) : Below B w0 (w.setRow b cs) :=
  h.trans ⟨rfl, rfl, rfl, by simp [World.setRow], fun k hk => setRow_other w b k cs (by omega)⟩
end Go.Proofs.YtofkihlpbfcdkaaDoor
namespace Go.Proofs.YtofkihlpbfcdkaaDoor
open Go.RowKit
set_option linter.unusedVariables false
set_option linter.unusedSimpArgs false
set_option maxRecDepth 100000
theorem and31 : ∀ n : Nat, n < 32 → 1 ≤ n → bits .and .u64 (IntKind.u64.wrap (-(n : Int))) 31 = 32 - (n : Int) := by decide
theorem wrap_u32e (x : Int) : IntKind.u32.wrap x = x % 4294967296 := by simp [IntKind.wrap, IntKind.bits, IntKind.signed]
theorem rot_any (x m s : Int) (n : Nat) (hs : Hid (bits .and .u64 (IntKind.u64.wrap m) 31 = s)) (hn : Hid (s = 32 - n)) (h0 : 0 ≤ s) (h1 : s ≤ 31) (w : World) :
    Calls Tryd.prog 91 #[.int .u32 x, .int .i64 m] w fun e w' => e = .returned (.int .u32 (rotr x n)) ∧ w = w' := by
  have g1 : IntKind.u64.wrap (32 - s) = 32 - s := by simp [IntKind.wrap, IntKind.bits, IntKind.signed]; omega
  have g2 : 0 ≤ 32 - s := by omega
  have hs' := hs.out
  have HR : Hid (bits .or .u32 (x * 2 ^ s.toNat % 4294967296) (x / 2 ^ (32 - s).toNat) = rotr x n) := Lib.hid (by
    have e1 : s.toNat = 32 - n := by have := hn.out; omega
    have e2 : (32 - s).toNat = n := by have := hn.out; omega
    rw [e1, e2, rotr, bits_or_comm, wrap_u32e])
  clear hs hn
  go_enter Tryd.func91, Tryd.ntmps91
  go_wp2
  go_ret
  exact ⟨by rw [HR.out]; rfl, rfl⟩
theorem right_of (x N : Int) (n : Nat) (hN : N = n) (h1 : 1 ≤ n) (h2 : n < 32) (w : World) :
    Calls Tryd.prog 89 #[.int .u32 x, .int .i64 N] w fun e w' => e = .returned (.int .u32 (rotr x n)) ∧ w = w' := by
  subst hN
  have HS := Lib.hid (and31 n h2 h1)
  have hm' : wrap64 (-(n : Int)) = -(n : Int) := IntWalk.wrap64_in _ (by omega)
  go_enter Tryd.func89, Tryd.ntmps89
  go_wp2_with fail
  refine (rot_any x _ _ n HS (Lib.hid rfl) (by omega) (by omega) _).mono ?_
  rintro e w' ⟨rfl, rfl⟩
  go_wp2
  go_ret
  exact ⟨rfl, rfl⟩
theorem rright_of (x N : Int) (n : Nat) (hN : N = n) (h1 : 1 ≤ n) (h2 : n < 32) (w : World) :
    Calls Tryd.prog 74 #[.int .u32 x, .int .i64 N] w fun e w' => e = .returned (.int .u32 (rotr x n)) ∧ ∃ k, w' = w.drewN k := by
  subst hN
  have g2 : (0 : Int) ≤ 32 - n := by omega
  have g3 : (0 : Int) ≤ n := by omega
  have HR : Hid (bits .or .u32 (x / 2 ^ n) (x * 2 ^ (32 - n) % 4294967296) = rotr x n) := Lib.hid (by rw [rotr, wrap_u32e])
  have hm : IntKind.i64.wrap (32 - (n : Int)) = 32 - n := IntWalk.i64_in _ (by omega)
  have hm' : wrap64 (32 - (n : Int)) = 32 - n := IntWalk.wrap64_in _ (by omega)
  go_enter Tryd.func74, Tryd.ntmps74
  go_wp2
  go_quiet (fail)
  go_wp2
  go_ret
  exact ⟨by rw [← HR.out]; rfl, nq, rfl⟩
theorem right_int (x N : Int) (h1 : 1 ≤ N) (h2 : N < 32) (w : World) :
    Calls Tryd.prog 89 #[.int .u32 x, .int .i64 N] w fun e w' => e = .returned (.int .u32 (rotr x N.toNat)) ∧ w = w' :=
  right_of x N N.toNat (by omega) (by omega) (by omega) w
theorem rright_int (x N : Int) (h1 : 1 ≤ N) (h2 : N < 32) (w : World) :
    Calls Tryd.prog 74 #[.int .u32 x, .int .i64 N] w fun e w' => e = .returned (.int .u32 (rotr x N.toNat)) ∧ ∃ k, w' = w.drewN k :=
  rright_of x N N.toNat (by omega) (by omega) (by omega) w
end Go.Proofs.YtofkihlpbfcdkaaDoor
namespace Go.Proofs.YtofkihlpbfcdkaaDoor
open Go.RowKit SpM
set_option linter.unusedVariables false
set_option linter.unusedSimpArgs false
set_option maxRecDepth 100000
theorem or_byte {p c : Int} (h0 : 0 ≤ p) (h1 : p < 16777216) (c0 : 0 ≤ c) (c1 : c < 256) : bits .or .u32 (p * 256) c = p * 256 + c := by
  obtain ⟨P, rfl⟩ := Int.eq_ofNat_of_zero_le h0
  obtain ⟨C, rfl⟩ := Int.eq_ofNat_of_zero_le c0
  have e1 : ((P : Int) * 256) = ((P * 256 : Nat) : Int) := by omega
  rw [e1, u32_or _ _ (by omega) (by omega) (by omega) (by omega)]
  have e2 : 2 ^ 8 * P + C = 2 ^ 8 * P ||| C := Nat.two_pow_add_eq_or_of_lt (by omega) P
  have e3 : P * 256 ||| C = P * 256 + C := by rw [show P * 256 = 2 ^ 8 * P by omega, ← e2]
  simp only [Int.toNat_natCast]
  rw [e3]
  omega
def part (b : List Int) (i : Nat) : Nat → Int
  | 0 => 0
  | m + 1 => part b i m * 256 + byteAt b (4 * i + m)
theorem part4 (b : List Int) (i : Nat) : part b i 4 = word4 b i := by simp [part, word4]
theorem part_lo {b : List Int} (h : bytesB b = true) (i m : Nat) : 0 ≤ part b i m := by
  induction m with
  | zero => exact Int.le_refl _
  | succ m ih => have := (bytesB_get h (4 * i + m)).1; simp only [part, byteAt]; omega
theorem part_hi {b : List Int} (h : bytesB b = true) (i m : Nat) (hm : m ≤ 3) : part b i m < 16777216 := by
  have h0 := bytesB_get h (4 * i)
  have h1 := bytesB_get h (4 * i + 1)
  have h2 := bytesB_get h (4 * i + 2)
  rcases (show m = 0 ∨ m = 1 ∨ m = 2 ∨ m = 3 by omega) with rfl | rfl | rfl | rfl
  · simp [part]
  · simp only [part, byteAt, Nat.add_zero]; omega
  · simp only [part, byteAt, Nat.add_zero]; omega
  · simp only [part, byteAt, Nat.add_zero]; omega
def zer (n : Nat) : List Int := List.replicate n 0
theorem arr64 : (#[.int .u32 0, .int .u32 0, .int .u32 0, .int .u32 0, .int .u32 0, .int .u32 0, .int .u32 0, .int .u32 0, .int .u32 0, .int .u32 0, .int .u32 0, .int .u32 0, .int .u32 0, .int .u32 0, .int .u32 0, .int .u32 0, .int .u32 0, .int .u32 0, .int .u32 0, .int .u32 0, .int .u32 0, .int .u32 0, .int .u32 0, .int .u32 0, .int .u32 0, .int .u32 0, .int .u32 0, .int .u32 0, .int .u32 0, .int .u32 0, .int .u32 0, .int .u32 0, .int .u32 0, .int .u32 0, .int .u32 0, .int .u32 0, .int .u32 0, .int .u32 0, .int .u32 0, .int .u32 0, .int .u32 0, .int .u32 0, .int .u32 0, .int .u32 0, .int .u32 0, .int .u32 0, .int .u32 0, .int .u32 0, .int .u32 0, .int .u32 0, .int .u32 0, .int .u32 0, .int .u32 0, .int .u32 0, .int .u32 0, .int .u32 0, .int .u32 0, .int .u32 0, .int .u32 0, .int .u32 0, .int .u32 0, .int .u32 0, .int .u32 0, .int .u32 0] : Array Value) = arr .u32 (zer 64) := by rfl
def wz (l : List Int) : List Int := l ++ zer (64 - l.length)
theorem wz_len {l : List Int} (h : l.length ≤ 64) : (wz l).length = 64 := by simp [wz, zer]; omega
theorem wz_set {l : List Int} {x : Int} (h : l.length < 64) : (wz l).set l.length x = wz (l ++ [x]) := by
  obtain ⟨m, hm⟩ : ∃ m, 64 - l.length = m + 1 := ⟨63 - l.length, by omega⟩
  have hm2 : 64 - (l ++ [x]).length = m := by rw [List.length_append, List.length_singleton]; omega
  rw [wz, wz, hm, hm2, zer, List.replicate_succ, List.set_append_right _ _ (Nat.le_refl _), Nat.sub_self, List.set_cons_zero]
  simp [zer]
theorem wz_at {l : List Int} : (wz l).getD l.length 0 = 0 := by
  rw [wz, getD_app_r (Nat.le_refl _), Nat.sub_self, zer, List.getD_eq_getElem?_getD, List.getElem?_replicate]
  split <;> rfl
theorem wz_get {l : List Int} {j : Nat} (h : j < l.length) : (wz l).getD j 0 = l.getD j 0 := getD_app_l h
theorem set_self {l : List Int} {k : Nat} {x : Int} (h : l.getD k 0 = x) : l.set k x = l := by
  by_cases hk : k < l.length
  · rw [List.getD_eq_getElem?_getD, List.getElem?_eq_getElem hk] at h
    subst h
    exact List.set_getElem_self hk
  · exact List.set_eq_of_length_le (by omega)
theorem getD_set_eq {l : List Int} {k : Nat} {x : Int} (h : k < l.length) : (l.set k x).getD k 0 = x := by
  simp [List.getD_eq_getElem?_getD, h]
theorem wz_sched (b : List Int) : wz (wext 48 (wfirst b 16)) = schedL b := by
  have h := schedL_len b
  unfold schedL at h ⊢
  unfold wz
  rw [h]
  simp [zer]
theorem info64 : (Tryd.prog.info? 122).map (·.size) = some 64 := by kernel_rfl
theorem sched_info (b : List Int) : (Tryd.prog.info? 122).map (·.size) = some (arr .u32 (schedL b)).size := info64.trans (congrArg some (by rw [arr_size, schedL_len]))
theorem sched_sz (b : List Int) : (arr .u32 (zer 64)).size = (arr .u32 (schedL b)).size := by rw [arr_size, arr_size, schedL_len]; rfl
set_option maxHeartbeats 3200000 in
theorem sched_any (b o cap : Nat) (blk : List Int) (hlen : Hid (blk.length = 64)) (hby : Hid (bytesB blk = true)) (w : World) (hs : Hid (Sk .u8 w (some ⟨b, o, none⟩) blk)) (hcap : 64 ≤ cap) (hcm : cap ≤ 9223372036854775807) :
    Calls Tryd.prog 88 #[.slice (some ⟨b, o, none⟩) 64 cap] w fun e w' => e = .returned (.agg (arr .u32 (schedL blk))) ∧ Below w.heap.size w w' := by
  obtain ⟨W, hW⟩ : ∃ W, (w.alloc (.cells #[.int .u32 0, .int .u32 0, .int .u32 0, .int .u32 0, .int .u32 0, .int .u32 0, .int .u32 0, .int .u32 0, .int .u32 0, .int .u32 0, .int .u32 0, .int .u32 0, .int .u32 0, .int .u32 0, .int .u32 0, .int .u32 0, .int .u32 0, .int .u32 0, .int .u32 0, .int .u32 0, .int .u32 0, .int .u32 0, .int .u32 0, .int .u32 0, .int .u32 0, .int .u32 0, .int .u32 0, .int .u32 0, .int .u32 0, .int .u32 0, .int .u32 0, .int .u32 0, .int .u32 0, .int .u32 0, .int .u32 0, .int .u32 0, .int .u32 0, .int .u32 0, .int .u32 0, .int .u32 0, .int .u32 0, .int .u32 0, .int .u32 0, .int .u32 0, .int .u32 0, .int .u32 0, .int .u32 0, .int .u32 0, .int .u32 0, .int .u32 0, .int .u32 0, .int .u32 0, .int .u32 0, .int .u32 0, .int .u32 0, .int .u32 0, .int .u32 0, .int .u32 0, .int .u32 0, .int .u32 0, .int .u32 0, .int .u32 0, .int .u32 0, .int .u32 0] 122)).alloc (.cells #[.int .u32 0, .int .u32 0, .int .u32 0, .int .u32 0, .int .u32 0, .int .u32 0, .int .u32 0, .int .u32 0, .int .u32 0, .int .u32 0, .int .u32 0, .int .u32 0, .int .u32 0, .int .u32 0, .int .u32 0, .int .u32 0, .int .u32 0, .int .u32 0, .int .u32 0, .int .u32 0, .int .u32 0, .int .u32 0, .int .u32 0, .int .u32 0, .int .u32 0, .int .u32 0, .int .u32 0, .int .u32 0, .int .u32 0, .int .u32 0, .int .u32 0, .int .u32 0, .int .u32 0, .int .u32 0, .int .u32 0, .int .u32 0, .int .u32 0, .int .u32 0, .int .u32 0, .int .u32 0, .int .u32 0, .int .u32 0, .int .u32 0, .int .u32 0, .int .u32 0, .int .u32 0, .int .u32 0, .int .u32 0, .int .u32 0, .int .u32 0, .int .u32 0, .int .u32 0, .int .u32 0, .int .u32 0, .int .u32 0, .int .u32 0, .int .u32 0, .int .u32 0, .int .u32 0, .int .u32 0, .int .u32 0, .int .u32 0, .int .u32 0, .int .u32 0] 122) = W := ⟨_, rfl⟩
  have HBX : Hid (Below w.heap.size w W) := Lib.hid (by rw [← hW]; exact below_two (Below.refl _ _))
  have HB0 : Hid (Blk .u32 122 W (w.heap.size + 1) (wz (wfirst blk 0))) := Lib.hid (by
    rw [← hW, arr64]
    exact heap_alloc2_new _ _ _)
  have HR0 : Hid (Blk .u32 122 W w.heap.size (zer 64)) := Lib.hid (by
    rw [← hW, arr64]
    exact heap_alloc2_old _ _ _)
  have HSZ : Hid (W.heap.size = w.heap.size + 2) := Lib.hid (by rw [← hW]; simp)
  have HS := Lib.hid hs.out
  have HW := Lib.hid hW
  clear hW hs
  go_enter Tryd.func88, Tryd.ntmps88
  go_wp2
  rw [HW.out]
  go_loopw [12] (fun i wr => ∃ k : Nat, k ≤ 16 ∧ i = .int .i64 k ∧ Hid (Blk .u32 122 wr (w.heap.size + 1) (wz (wfirst blk k))) ∧ Hid (Below (w.heap.size + 1) W wr)) (fun i _ => 16 - (intOf i).toNat)
  case atStart => exact ⟨0, by omega, rfl, HB0, Lib.hid (Below.refl _ _)⟩
  case round =>
    obtain ⟨k, hk, rfl, HB, HBr⟩ := hrel
    by_cases hlt : k < 16
    · clear HW
      have HBk : Hid (Blk .u32 122 wr (w.heap.size + 1) ((wz (wfirst blk k)).set k (part blk k 0))) := Lib.hid (by
        rw [set_self (by have := wz_at (l := wfirst blk k); rwa [wfirst_len] at this)]
        exact HB.out)
      go_wp2
      go_loopw [23] (fun j u => ∃ m : Nat, m ≤ 4 ∧ j = .int .i64 m ∧ Hid (Blk .u32 122 u (w.heap.size + 1) ((wz (wfirst blk k)).set k (part blk k m))) ∧ Hid (Below (w.heap.size + 1) W u)) (fun j _ => 4 - (intOf j).toNat)
      case atStart => exact ⟨0, by omega, rfl, HBk, HBr⟩
      case round =>
        obtain ⟨m, hm, rfl, HBm, HBu⟩ := hrel
        by_cases hlm : m < 4
        · have hc0 := HBm.out.cell (j := k) (by rw [List.length_set, wz_len (by rw [wfirst_len]; omega)]; omega)
          rw [getD_set_eq (by rw [wz_len (by rw [wfirst_len]; omega)]; omega)] at hc0
          have hf0 := HBm.out.free k
          have hc1 := (HS.out.below (HBX.out.trans (HBu.out.mono (Nat.le_succ _)))).cell (j := 4 * k + m) (by have := hlen.out; omega)
          obtain ⟨c0, c1⟩ := bytesB_get hby.out (4 * k + m)
          have hpn : part blk k (m + 1) = part blk k m * 256 + blk.getD (4 * k + m) 0 := rfl
          have p0 := part_lo hby.out k m
          have p1 := part_hi hby.out k m (by omega)
          obtain ⟨c, hcc⟩ : ∃ c, blk.getD (4 * k + m) 0 = c := ⟨_, rfl⟩
          rw [hcc] at hc1 c0 c1 hpn
          rw [← Nat.add_assoc] at hc1
          obtain ⟨p, hp⟩ : ∃ p, part blk k m = p := ⟨_, rfl⟩
          rw [hp] at hc0 p0 p1 hpn
          have hor := or_byte p0 p1 c0 c1
          obtain ⟨q, hq⟩ : ∃ q, p * 256 + c = q := ⟨_, rfl⟩
          rw [hq] at hor hpn
          have HB2 : Hid (Blk .u32 122 (wr.setCell ⟨w.heap.size + 1, k, none⟩ (.int .u32 q)) (w.heap.size + 1) ((wz (wfirst blk k)).set k (part blk k (m + 1)))) := Lib.hid (by
            rw [hpn]
            have h := HBm.out.set (j := k) (v := q)
            rwa [List.set_set] at h)
          have HBu2 : Hid (Below (w.heap.size + 1) W (wr.setCell ⟨w.heap.size + 1, k, none⟩ (.int .u32 q))) := Lib.hid (HBu.out.setCell (Nat.le_refl _) _)
          clear hcc hp hq hpn HBm HBu
          go_wp2
          go_roundw
          case rel => exact ⟨m + 1, by omega, by go_num, HB2, HBu2⟩
          case measure => simp [intOf]; omega
        · obtain rfl : m = 4 := by omega
          have HB2 : Hid (Blk .u32 122 wr (w.heap.size + 1) (wz (wfirst blk (k + 1)))) := Lib.hid (by
            have h := HBm.out
            have e := wz_set (l := wfirst blk k) (x := word4 blk k) (by rw [wfirst_len]; omega)
            rw [wfirst_len] at e
            rw [part4, e, ← wfirst_succ] at h
            exact h)
          clear HBm
          go_wp2
          go_roundw
          case rel => exact ⟨k + 1, by omega, by go_num, HB2, HBu⟩
          case measure => simp [intOf]; omega
    · obtain rfl : k = 16 := by omega
      clear HW hlt
      have HB16 : Hid (Blk .u32 122 wr (w.heap.size + 1) (wz (wext (16 - 16) (wfirst blk 16)))) := Lib.hid (by rw [show 16 - 16 = 0 from rfl, wext]; exact HB.out)
      clear HB
      go_wp2
      rw [show (((16 : Nat) : Int)) = 16 from rfl]
      go_loopw [7] (fun i u => ∃ t : Nat, 16 ≤ t ∧ t ≤ 64 ∧ i = .int .i64 t ∧ Hid (Blk .u32 122 u (w.heap.size + 1) (wz (wext (t - 16) (wfirst blk 16)))) ∧ Hid (Below (w.heap.size + 1) W u)) (fun i _ => 64 - (intOf i).toNat)
      case atStart => exact ⟨16, by omega, by omega, rfl, HB16, HBr⟩
      case round =>
        obtain ⟨t, ht0, ht, rfl, HBt, HBu⟩ := hrel
        by_cases hlt : t < 64
        · obtain ⟨L, hL⟩ : ∃ L, wext (t - 16) (wfirst blk 16) = L := ⟨_, rfl⟩
          have hLn : L.length = t := by rw [← hL, wext_len, wfirst_len]; omega
          have hwz : (wz L).length = 64 := wz_len (by omega)
          rw [hL] at HBt
          have h15 := HBt.out.cell (j := t - 15) (by omega)
          have h2 := HBt.out.cell (j := t - 2) (by omega)
          have h16 := HBt.out.cell (j := t - 16) (by omega)
          have h7 := HBt.out.cell (j := t - 7) (by omega)
          have ht0' := HBt.out.cell (j := t) (by omega)
          have hfr := HBt.out.free t
          rw [wz_get (by omega)] at h15 h2 h16 h7
          have hnx : wext (t + 1 - 16) (wfirst blk 16) = L ++ [add32 (add32 (add32 (L.getD (t - 16) 0) (sgA (L.getD (t - 15) 0))) (L.getD (t - 7) 0)) (sgB (L.getD (t - 2) 0))] := by
            rw [show t + 1 - 16 = (t - 16) + 1 by omega, wext, hL, wnext, hLn]
          obtain ⟨x15, e15⟩ : ∃ x, L.getD (t - 15) 0 = x := ⟨_, rfl⟩
          obtain ⟨x2, e2⟩ : ∃ x, L.getD (t - 2) 0 = x := ⟨_, rfl⟩
          obtain ⟨x16, e16⟩ : ∃ x, L.getD (t - 16) 0 = x := ⟨_, rfl⟩
          obtain ⟨x7, e7⟩ : ∃ x, L.getD (t - 7) 0 = x := ⟨_, rfl⟩
          rw [e15] at h15 hnx
          rw [e2] at h2 hnx
          rw [e16] at h16 hnx
          rw [e7] at h7 hnx
          have HNX := Lib.hid hnx
          have HLN := Lib.hid hLn
          have i15 : ((t : Int) - 15).toNat = t - 15 := by omega
          have i2 : ((t : Int) - 2).toNat = t - 2 := by omega
          have i16 : ((t : Int) - 16).toNat = t - 16 := by omega
          have i7 : ((t : Int) - 7).toNat = t - 7 := by omega
          have j15 : (0 : Int) ≤ (t : Int) - 15 := by omega
          have j2 : (0 : Int) ≤ (t : Int) - 2 := by omega
          have j16 : (0 : Int) ≤ (t : Int) - 16 := by omega
          have j7 : (0 : Int) ≤ (t : Int) - 7 := by omega
          clear hnx e15 e2 e16 e7 hL hLn hwz
          go_wp2
          go_quiet (fail)
          have HBu2 := Lib.hid (below_drawN HBu.out nq)
          have HBt2 := Lib.hid (HBt.out.drew nq)
          obtain ⟨w2, hw2⟩ : ∃ u, wr.drewN nq = u := ⟨_, rfl⟩
          rw [hw2] at HBu2 HBt2
          have HW2 := Lib.hid hw2
          have g16 : w2.cell? ⟨w.heap.size + 1, t - 16, none⟩ = some (.int .u32 x16) := by rw [← hw2]; simpa using h16
          have g7 : w2.cell? ⟨w.heap.size + 1, t - 7, none⟩ = some (.int .u32 x7) := by rw [← hw2]; simpa using h7
          have gt : w2.cell? ⟨w.heap.size + 1, t, none⟩ = some (.int .u32 ((wz L).getD t 0)) := by rw [← hw2]; simpa using ht0'
          have gf : w2.frozen? ⟨w.heap.size + 1, t, none⟩ = false := by rw [← hw2]; simpa using hfr
          clear hw2 h15 h2 h16 h7 ht0' hfr HBu HBt
          go_wp2_with fail
          rw [HW2.out]
          refine (right_of x15 7 7 rfl (by decide) (by decide) _).mono ?_
          rintro e w' ⟨rfl, rfl⟩
          go_wp2_with fail
          refine (right_of x15 18 18 rfl (by decide) (by decide) _).mono ?_
          rintro e w' ⟨rfl, rfl⟩
          go_wp2_with fail
          refine (right_of x2 17 17 rfl (by decide) (by decide) _).mono ?_
          rintro e w' ⟨rfl, rfl⟩
          go_wp2_with fail
          refine (right_of x2 19 19 rfl (by decide) (by decide) _).mono ?_
          rintro e w' ⟨rfl, rfl⟩
          obtain ⟨r7, hr7⟩ : ∃ r, rotr x15 7 = r := ⟨_, rfl⟩
          obtain ⟨r18, hr18⟩ : ∃ r, rotr x15 18 = r := ⟨_, rfl⟩
          obtain ⟨r17, hr17⟩ : ∃ r, rotr x2 17 = r := ⟨_, rfl⟩
          obtain ⟨r19, hr19⟩ : ∃ r, rotr x2 19 = r := ⟨_, rfl⟩
          rw [hr7, hr18, hr17, hr19]
          obtain ⟨s0, hs0⟩ : ∃ r, bits .xor .u32 (bits .xor .u32 r7 r18) (x15 / 8) = r := ⟨_, rfl⟩
          obtain ⟨s1, hs1⟩ : ∃ r, bits .xor .u32 (bits .xor .u32 r17 r19) (x2 / 1024) = r := ⟨_, rfl⟩
          have ES0 : Hid (sgA x15 = s0) := Lib.hid (by rw [sgA, hr7, hr18, hs0])
          have ES1 : Hid (sgB x2 = s1) := Lib.hid (by rw [sgB, hr17, hr19, hs1])
          clear hr7 hr18 hr17 hr19
          go_wp2
          clear hs0 hs1
          obtain ⟨V, hV⟩ : ∃ V, (x16 + s0 + x7 + s1) % 4294967296 = V := ⟨_, rfl⟩
          have HV := Lib.hid hV
          have HN : Hid (wext (t + 1 - 16) (wfirst blk 16) = L ++ [V]) := Lib.hid (by
            rw [HNX.out, ES0.out, ES1.out, ← hV]
            simp only [add32, wrap_u32e]
            congr 2
            omega)
          have HB3 : Hid (Blk .u32 122 (w2.setCell ⟨w.heap.size + 1, t, none⟩ (.int .u32 V)).drew (w.heap.size + 1) (wz (wext (t + 1 - 16) (wfirst blk 16)))) := Lib.hid (by
            rw [HN.out]
            have h := HBt2.out.set (j := t) (v := V)
            have e := wz_set (l := L) (x := V) (by have := HLN.out; omega)
            rw [HLN.out] at e
            rw [e] at h
            exact h)
          have HBu3 : Hid (Below (w.heap.size + 1) W (w2.setCell ⟨w.heap.size + 1, t, none⟩ (.int .u32 V)).drew) := Lib.hid (HBu2.out.setCell (Nat.le_refl _) _).drew
          clear hV
          go_region
          rw [HV.out]
          clear g16 g7 gt gf
          go_wp2
          go_roundw
          case rel => exact ⟨t + 1, by omega, by omega, by go_num, HB3, HBu3⟩
          case measure => simp [intOf]; omega
        · have HBf : Hid (Blk .u32 122 wr (w.heap.size + 1) (schedL blk)) := Lib.hid (by
            have h := HBt.out
            rwa [show t - 16 = 48 by omega, wz_sched] at h)
          have HRf : Hid (Blk .u32 122 wr w.heap.size (zer 64)) := Lib.hid (HR0.out.keepB (Nat.lt_succ_self _) HBu.out)
          have HBF : Hid (Below w.heap.size w (wr.setRow w.heap.size (arr .u32 (schedL blk)))) := Lib.hid (below_setRow' (HBX.out.trans (HBu.out.mono (Nat.le_succ _))) (Nat.le_refl _))
          have HRR : Hid (Blk .u32 122 (wr.setRow w.heap.size (arr .u32 (schedL blk))) w.heap.size (schedL blk)) := Lib.hid (HRf.out.setRow)
          clear HBt
          go_wp2_with (first
            | ((with_reducible show wpList _ _ _ (⟨some 81, _, _, _, _, _⟩ :: _) _ _); refine wpList_load_row rfl 122 _ rfl (w.heap.size + 1) rfl _ _ _ _ HBf.out Tryd.underlying122 rfl (sched_info blk) ?_)
            | ((with_reducible show wpList _ _ _ (⟨none, _, _, _, _, _⟩ :: _) _ _); refine wpList_store_row rfl 122 _ _ rfl w.heap.size (arr .u32 (schedL blk)) rfl rfl _ _ HRf.out (sched_info blk) (sched_sz blk) (arr_one _) ?_))
          exact bodyPost_ret (v := .agg (arr .u32 (schedL blk))) (results_cell_row (p := 2) (ty := 122) rfl _ _ w.heap.size _ _ _ _ rfl HRR.out Tryd.underlying122 rfl (sched_info blk)) rfl ⟨rfl, HBF.out⟩
def VarsD (w : World) : Prop := (∀ k, k < 64 → w.cell? ⟨1, k, none⟩ = some (.int .u32 (KL.getD k 0))) ∧ (∀ k, k < 8 → w.cell? ⟨0, k, none⟩ = some (.int .u32 (st0.list.getD k 0)))
theorem VarsD.below {w w' : World} (h : VarsD w) (hb : Below w.heap.size w w') : VarsD w' := ⟨fun k hk => cell_below (h.1 k hk) hb, fun k hk => cell_below (h.2 k hk) hb⟩
def addL (s v : List Int) (k : Nat) : List Int := (List.range 8).map fun j => if j < k then add32 (s.getD j 0) (v.getD j 0) else s.getD j 0
theorem addL_len (s v : List Int) (k : Nat) : (addL s v k).length = 8 := by simp [addL]
theorem addL_get {s v : List Int} {k : Nat} (h : k < 8) : (addL s v k).getD k 0 = s.getD k 0 := by
  simp [addL, List.getD_eq_getElem?_getD, h]
theorem addL_set {s v : List Int} {k : Nat} (h : k < 8) : (addL s v k).set k (add32 (s.getD k 0) (v.getD k 0)) = addL s v (k + 1) := by
  apply List.ext_getElem?
  intro i
  by_cases hi : i < 8
  · by_cases e : k = i
    · subst e; simp [addL, List.getElem?_set, h]
    · have e2 : (i < k + 1) ↔ (i < k) := by omega
      simp [addL, List.getElem?_set, hi, e, e2]
  · rw [List.getElem?_eq_none (by rw [List.length_set, addL_len]; omega), List.getElem?_eq_none (by rw [addL_len]; omega)]
theorem addL_zero {s v : List Int} (h : s.length = 8) : addL s v 0 = s := by
  apply List.ext_getElem?
  intro i
  by_cases hi : i < 8
  · simp [addL, hi, h]
  · rw [List.getElem?_eq_none (by rw [addL_len]; omega), List.getElem?_eq_none (by omega)]
theorem addL_all (s v : St) : addL s.list v.list 8 = (addS s v).list := rfl
theorem arr8 (xa xb xc xd xe xf xg xh : Int) : (#[.int .u32 xa, .int .u32 xb, .int .u32 xc, .int .u32 xd, .int .u32 xe, .int .u32 xf, .int .u32 xg, .int .u32 xh] : Array Value) = arr .u32 (St.mk xa xb xc xd xe xf xg xh).list := rfl
theorem zarr8 : (#[.int .u32 0, .int .u32 0, .int .u32 0, .int .u32 0, .int .u32 0, .int .u32 0, .int .u32 0, .int .u32 0] : Array Value) = arr .u32 (zer 8) := rfl
theorem info8 : (Tryd.prog.info? 117).map (·.size) = some 8 := by kernel_rfl
theorem list8_info (s : St) : (Tryd.prog.info? 117).map (·.size) = some (arr .u32 s.list).size := info8
theorem idx8 (xa xb xc xd xe xf xg xh : Int) : ∀ k : Nat, k < 8 → ∀ w, (Instr.index 117 (.agg #[.int .u32 xa, .int .u32 xb, .int .u32 xc, .int .u32 xd, .int .u32 xe, .int .u32 xf, .int .u32 xg, .int .u32 xh]) (.int .i64 (k : Int))).run Tryd.prog w = .ok (.int .u32 ((St.mk xa xb xc xd xe xf xg xh).list.getD k 0)) w
  | 0, _ => fun w => by kernel_rfl
  | 1, _ => fun w => by kernel_rfl
  | 2, _ => fun w => by kernel_rfl
  | 3, _ => fun w => by kernel_rfl
  | 4, _ => fun w => by kernel_rfl
  | 5, _ => fun w => by kernel_rfl
  | 6, _ => fun w => by kernel_rfl
  | 7, _ => fun w => by kernel_rfl
  | k + 8, h => absurd h (by omega)
theorem ch_eq (e f g : Int) : bits .xor .u32 (bits .and .u32 e f) (bits .and .u32 (bits .xor .u32 (if IntKind.u32.signed = true then -1 else IntKind.u32.max) e) g) = chE e f g := rfl
theorem sbE_eq (e : Int) : bits .xor .u32 (bits .xor .u32 (rotr e 6) (rotr e 11)) (rotr e 25) = sbE e := rfl
def rxx (e f g h k w : Int) : Int := ((h + sbE e + chE e f g + k) % 4294967296 + w) % 4294967296
theorem rx_eq (e f g h k w : Int) : ((h + sbE e + chE e f g + k) % 4294967296 + w) % 4294967296 = rxx e f g h k w := rfl
def ryy (a b c : Int) : Int := (sbA a + maA a b c) % 4294967296
theorem rnd_eq (a b c d e f g h k w : Int) : rnd ⟨a, b, c, d, e, f, g, h⟩ k w = ⟨(rxx e f g h k w + ryy a b c) % 4294967296, a, b, c, (d + rxx e f g h k w) % 4294967296, e, f, g⟩ := by
  have hx : rndX ⟨a, b, c, d, e, f, g, h⟩ k w = rxx e f g h k w := by
    simp only [rndX, rxx, add32, wrap_u32e]
    omega
  simp only [rnd, hx, rndY, ryy, add32, wrap_u32e]
theorem quiet_w {P : Program} {f : FuncId} {args : Array Value} {w : World} {n : Nat} {v : Value}
    (h : Calls P f args (w.drewN n) fun e w' => e = .returned v ∧ w.drewN n = w') : Calls P f args (w.drewN n) fun e w'' => e = .returned v ∧ ∃ m, w'' = w.drewN m :=
  h.mono fun _ _ ⟨he, hm⟩ => ⟨he, n, hm.symm⟩
set_option maxHeartbeats 3200000 in
theorem mix_any (s : St) (b o cap : Nat) (blk : List Int) (hlen : Hid (blk.length = 64)) (hby : Hid (bytesB blk = true)) (w : World) (hs : Hid (Sk .u8 w (some ⟨b, o, none⟩) blk)) (hcap : 64 ≤ cap) (hcm : cap ≤ 9223372036854775807) (hv : Hid (VarsD w)) :
    Calls Tryd.prog 84 #[.agg (arr .u32 s.list), .slice (some ⟨b, o, none⟩) 64 cap] w fun e w' => e = .returned (.agg (arr .u32 (mixS s blk).list)) ∧ Below w.heap.size w w' := by
  obtain ⟨xa, xb, xc, xd, xe, xf, xg, xh⟩ := s
  rw [← arr8]
  obtain ⟨W, hW⟩ : ∃ W, (w.alloc (.cells #[.int .u32 xa, .int .u32 xb, .int .u32 xc, .int .u32 xd, .int .u32 xe, .int .u32 xf, .int .u32 xg, .int .u32 xh] 117)).alloc (.cells #[.int .u32 0, .int .u32 0, .int .u32 0, .int .u32 0, .int .u32 0, .int .u32 0, .int .u32 0, .int .u32 0] 117) = W := ⟨_, rfl⟩
  have HBX : Hid (Below w.heap.size w W) := Lib.hid (by rw [← hW]; exact below_two (Below.refl _ _))
  have HB0 : Hid (Blk .u32 117 W w.heap.size (St.mk xa xb xc xd xe xf xg xh).list) := Lib.hid (by
    rw [← hW, arr8]
    exact heap_alloc2_old _ _ _)
  have HZ0 : Hid (Blk .u32 117 W (w.heap.size + 1) (zer 8)) := Lib.hid (by
    rw [← hW, zarr8]
    exact heap_alloc2_new _ _ _)
  have HS := Lib.hid (hs.out.below HBX.out)
  have HV := Lib.hid (hv.out.below HBX.out)
  have HW := Lib.hid hW
  have HSZ : Hid (w.heap.size + 2 = W.heap.size) := Lib.hid (by rw [← hW]; simp)
  clear hW hs hv
  go_enter Tryd.func84, Tryd.ntmps84
  go_wp2_with fail
  rw [HW.out]
  refine (sched_any b o cap blk hlen hby _ HS hcap hcm).mono ?_
  rintro e w1 ⟨rfl, hb1⟩
  have HB1 := Lib.hid (HB0.out.below hb1)
  have HZ1 := Lib.hid (HZ0.out.below hb1)
  have HV1 := Lib.hid (HV.out.below hb1)
  have HSZ1 : Hid (w.heap.size + 2 ≤ w1.heap.size) := Lib.hid (by have := hb1.size; have := HSZ.out; omega)
  have HBW := Lib.hid (below_ext HBX.out hb1)
  clear hb1 HW
  go_wp2_with ((with_reducible show wpList _ _ _ (⟨none, _, _, _, _, _⟩ :: _) _ _); refine wpList_store_row rfl 122 _ _ rfl w1.heap.size (arr .u32 (schedL blk)) rfl rfl _ _ (heap_alloc_new _ _) (sched_info blk) (sched_sz blk) (arr_one _) ?_)
  rw [World.setRow_alloc_new]
  have HBW2 := Lib.hid (below_ext HBW.out (below_box0 w1 (.cells (arr .u32 (schedL blk)) 122)))
  have HB2 := Lib.hid (HB1.out.below (below_box0 w1 (.cells (arr .u32 (schedL blk)) 122)))
  have HZ2 := Lib.hid (HZ1.out.below (below_box0 w1 (.cells (arr .u32 (schedL blk)) 122)))
  have HV2 := Lib.hid (HV1.out.below (below_box0 w1 (.cells (arr .u32 (schedL blk)) 122)))
  have HW2 : Hid (Blk .u32 122 (w1.alloc (.cells (arr .u32 (schedL blk)) 122)) w1.heap.size (schedL blk)) := Lib.hid (Blk.new _ _)
  obtain ⟨W2, hW2⟩ : ∃ u, w1.alloc (.cells (arr .u32 (schedL blk)) 122) = u := ⟨_, rfl⟩
  have HSZ2 : Hid (w1.heap.size < W2.heap.size) := Lib.hid (by rw [← hW2]; simp)
  rw [hW2] at HBW2 HB2 HZ2 HV2 HW2 ⊢
  clear hW2 HB1 HZ1 HV1 HBW HB0 HZ0 HV HS
  obtain ⟨g0, g1, g2, g3, g4, g5, g6, g7⟩ : W2.cell? ⟨w.heap.size, 0, none⟩ = some (.int .u32 xa) ∧ W2.cell? ⟨w.heap.size, 1, none⟩ = some (.int .u32 xb) ∧ W2.cell? ⟨w.heap.size, 2, none⟩ = some (.int .u32 xc) ∧ W2.cell? ⟨w.heap.size, 3, none⟩ = some (.int .u32 xd) ∧ W2.cell? ⟨w.heap.size, 4, none⟩ = some (.int .u32 xe) ∧ W2.cell? ⟨w.heap.size, 5, none⟩ = some (.int .u32 xf) ∧ W2.cell? ⟨w.heap.size, 6, none⟩ = some (.int .u32 xg) ∧ W2.cell? ⟨w.heap.size, 7, none⟩ = some (.int .u32 xh) :=
    ⟨HB2.out.cell (j := 0) (show 0 < 8 by decide), HB2.out.cell (j := 1) (show 1 < 8 by decide), HB2.out.cell (j := 2) (show 2 < 8 by decide), HB2.out.cell (j := 3) (show 3 < 8 by decide), HB2.out.cell (j := 4) (show 4 < 8 by decide), HB2.out.cell (j := 5) (show 5 < 8 by decide), HB2.out.cell (j := 6) (show 6 < 8 by decide), HB2.out.cell (j := 7) (show 7 < 8 by decide)⟩
  obtain ⟨ws, hws⟩ : ∃ l, schedL blk = l := ⟨_, rfl⟩
  have HWS : Kp (schedL blk = ws) := ⟨hws⟩
  have HWL : Hid (ws.length = 64) := Lib.hid (by rw [← hws, schedL_len])
  rw [hws] at HW2
  rw [hws]
  clear hws
  go_wp2
  go_quiet (fail)
  have HBq := Lib.hid (below_drawN (Below.refl W2.heap.size W2) nq)
  clear g0 g1 g2 g3 g4 g5 g6 g7
  go_wp2
  go_loopw [6, 7, 8, 9, 10, 11, 12, 13, 37] (fun a b c d e f g h i u => ∃ (k : Nat) (ya yb yc yd ye yf yg yh : Int), k ≤ 64 ∧ i = .int .i64 k ∧ a = .int .u32 ya ∧ b = .int .u32 yb ∧ c = .int .u32 yc ∧ d = .int .u32 yd ∧ e = .int .u32 ye ∧ f = .int .u32 yf ∧ g = .int .u32 yg ∧ h = .int .u32 yh ∧ Hid (rnds ws ⟨xa, xb, xc, xd, xe, xf, xg, xh⟩ k = ⟨ya, yb, yc, yd, ye, yf, yg, yh⟩) ∧ Hid (Below W2.heap.size W2 u)) (fun _ _ _ _ _ _ _ _ i _ => 64 - (intOf i).toNat)
  case atStart => exact ⟨0, xa, xb, xc, xd, xe, xf, xg, xh, by omega, rfl, rfl, rfl, rfl, rfl, rfl, rfl, rfl, rfl, Lib.hid rfl, HBq⟩
  case round =>
    obtain ⟨k, ya, yb, yc, yd, ye, yf, yg, yh, hk, rfl, rfl, rfl, rfl, rfl, rfl, rfl, rfl, rfl, HR, HBu⟩ := hrel
    by_cases hlt : k < 64
    · have hk0 := (HV2.out.below HBu.out).1 k hlt
      have hk1 := (HW2.out.below HBu.out).cell (j := k) (by have := HWL.out; omega)
      have hnx : rnds ws ⟨xa, xb, xc, xd, xe, xf, xg, xh⟩ (k + 1) = rnd ⟨ya, yb, yc, yd, ye, yf, yg, yh⟩ (KL.getD k 0) (ws.getD k 0) := by rw [rnds, HR.out]
      obtain ⟨kc, ekc⟩ : ∃ x, KL.getD k 0 = x := ⟨_, rfl⟩
      obtain ⟨wc, ewc⟩ : ∃ x, ws.getD k 0 = x := ⟨_, rfl⟩
      rw [ekc] at hk0 hnx
      rw [ewc] at hk1 hnx
      have HNX := Lib.hid hnx
      clear hnx ekc ewc
      go_wp2_with fail
      go_quiet ((go_at_call 89; exact quiet_w (right_int _ _ (by decide) (by decide) _)))
      rw [ch_eq, sbE_eq, rx_eq]
      obtain ⟨X, hX⟩ : ∃ X, rxx ye yf yg yh kc wc = X := ⟨_, rfl⟩
      rw [hX]
      have HX := Lib.hid hX
      have HBu2 := Lib.hid (below_drawN HBu.out nq)
      obtain ⟨w3, hw3⟩ : ∃ u, wr.drewN nq = u := ⟨_, rfl⟩
      rw [hw3] at HBu2 ⊢
      clear hX hw3 hk0 hk1 HBu
      go_wp2_with fail
      refine (right_of ya 2 2 rfl (by decide) (by decide) _).mono ?_
      rintro e w' ⟨rfl, rfl⟩
      go_wp2_with fail
      refine (right_of ya 13 13 rfl (by decide) (by decide) _).mono ?_
      rintro e w' ⟨rfl, rfl⟩
      go_wp2_with fail
      refine (right_of ya 22 22 rfl (by decide) (by decide) _).mono ?_
      rintro e w' ⟨rfl, rfl⟩
      obtain ⟨r2, hr2⟩ : ∃ r, rotr ya 2 = r := ⟨_, rfl⟩
      obtain ⟨r13, hr13⟩ : ∃ r, rotr ya 13 = r := ⟨_, rfl⟩
      obtain ⟨r22, hr22⟩ : ∃ r, rotr ya 22 = r := ⟨_, rfl⟩
      rw [hr2, hr13, hr22]
      obtain ⟨Y, hY⟩ : ∃ Y, ryy ya yb yc = Y := ⟨_, rfl⟩
      have HY : Kp ((bits .xor .u32 (bits .xor .u32 r2 r13) r22 + bits .xor .u32 (bits .xor .u32 (bits .and .u32 ya yb) (bits .and .u32 ya yc)) (bits .and .u32 yb yc)) % 4294967296 = Y) := ⟨by rw [← hY, ← hr2, ← hr13, ← hr22]; rfl⟩
      have HY2 := Lib.hid hY
      have HR2 : Hid (rnds ws ⟨xa, xb, xc, xd, xe, xf, xg, xh⟩ (k + 1) = ⟨(X + Y) % 4294967296, ya, yb, yc, (yd + X) % 4294967296, ye, yf, yg⟩) := Lib.hid (by
        rw [HNX.out, rnd_eq, HX.out, HY2.out])
      clear hr2 hr13 hr22 hY HNX
      go_wp2_with fail
      go_roundw
      case rel => exact ⟨k + 1, _, _, _, _, _, _, _, _, by omega, by go_num, rfl, rfl, rfl, rfl, rfl, rfl, rfl, rfl, by rw [HY.out]; exact HR2, HBu2⟩
      case measure => simp [intOf]; omega
    · have HRF : Kp (rnds (schedL blk) ⟨xa, xb, xc, xd, xe, xf, xg, xh⟩ 64 = ⟨ya, yb, yc, yd, ye, yf, yg, yh⟩) := ⟨by
        have h := HR.out
        rwa [show k = 64 by omega, ← HWS.out] at h⟩
      have HB3 : Hid (Blk .u32 117 wr w.heap.size (addL (St.mk xa xb xc xd xe xf xg xh).list (St.mk ya yb yc yd ye yf yg yh).list 0)) := Lib.hid (by
        rw [addL_zero rfl]
        exact HB2.out.below HBu.out)
      have HZ3 := Lib.hid (HZ2.out.below HBu.out)
      have HBW3 := Lib.hid (below_ext HBW2.out HBu.out)
      clear HR HBu HB2 HZ2 HBW2 HW2 HV2 HWL HWS HBq
      go_wp2
      go_loopw [109] (fun i u => ∃ m : Nat, m ≤ 8 ∧ i = .int .i64 m ∧ Hid (Blk .u32 117 u w.heap.size (addL (St.mk xa xb xc xd xe xf xg xh).list (St.mk ya yb yc yd ye yf yg yh).list m)) ∧ Hid (Blk .u32 117 u (w.heap.size + 1) (zer 8)) ∧ Hid (Below w.heap.size w u)) (fun i _ => 8 - (intOf i).toNat)
      case atStart => exact ⟨0, by omega, rfl, HB3, HZ3, HBW3⟩
      case round =>
        obtain ⟨m, hm, rfl, HBm, HZm, HBu⟩ := hrel
        by_cases hlm : m < 8
        · have hi := idx8 ya yb yc yd ye yf yg yh m hlm
          have hc := HBm.out.cell (j := m) (by rw [addL_len]; exact hlm)
          have hf := HBm.out.free m
          rw [addL_get hlm] at hc
          obtain ⟨s0, e0⟩ : ∃ x, (St.mk xa xb xc xd xe xf xg xh).list.getD m 0 = x := ⟨_, rfl⟩
          obtain ⟨v0, e1⟩ : ∃ x, (St.mk ya yb yc yd ye yf yg yh).list.getD m 0 = x := ⟨_, rfl⟩
          have hst := addL_set (s := (St.mk xa xb xc xd xe xf xg xh).list) (v := (St.mk ya yb yc yd ye yf yg yh).list) hlm
          rw [e0, e1, add32, wrap_u32e] at hst
          rw [e0] at hc
          rw [e1] at hi
          have HB4 : Hid (Blk .u32 117 (wr.setCell ⟨w.heap.size, m, none⟩ (.int .u32 ((s0 + v0) % 4294967296))) w.heap.size (addL (St.mk xa xb xc xd xe xf xg xh).list (St.mk ya yb yc yd ye yf yg yh).list (m + 1))) := Lib.hid (by
            rw [← hst]
            exact HBm.out.set)
          have HZ4 : Hid (Blk .u32 117 (wr.setCell ⟨w.heap.size, m, none⟩ (.int .u32 ((s0 + v0) % 4294967296))) (w.heap.size + 1) (zer 8)) := Lib.hid (HZm.out.set_ne (by omega))
          have HB5 : Hid (Below w.heap.size w (wr.setCell ⟨w.heap.size, m, none⟩ (.int .u32 ((s0 + v0) % 4294967296)))) := Lib.hid (HBu.out.setCell (Nat.le_refl _) _)
          clear hst e0 e1 HBm HZm HBu
          go_wp2
          go_roundw
          case rel => exact ⟨m + 1, by omega, by go_num, HB4, HZ4, HB5⟩
          case measure => simp [intOf]; omega
        · obtain ⟨T, hT⟩ : ∃ T, addS ⟨xa, xb, xc, xd, xe, xf, xg, xh⟩ ⟨ya, yb, yc, yd, ye, yf, yg, yh⟩ = T := ⟨_, rfl⟩
          have HBf : Hid (Blk .u32 117 wr w.heap.size T.list) := Lib.hid (by
            have h := HBm.out
            rwa [show m = 8 by omega, addL_all, hT] at h)
          have HT : Kp (mixS ⟨xa, xb, xc, xd, xe, xf, xg, xh⟩ blk = T) := ⟨by rw [mixS, HRF.out, hT]⟩
          have HRR : Hid (Blk .u32 117 (wr.setRow (w.heap.size + 1) (arr .u32 T.list)) (w.heap.size + 1) T.list) := Lib.hid HZm.out.setRow
          have HBF : Hid (Below w.heap.size w (wr.setRow (w.heap.size + 1) (arr .u32 T.list))) := Lib.hid (below_setRow' HBu.out (Nat.le_succ _))
          clear hT HRF HBm
          go_wp2_with (first
            | ((with_reducible show wpList _ _ _ (⟨some 120, _, _, _, _, _⟩ :: _) _ _); refine wpList_load_row rfl 117 _ rfl w.heap.size rfl _ _ _ _ HBf.out Tryd.underlying117 rfl (list8_info T) ?_)
            | ((with_reducible show wpList _ _ _ (⟨none, _, _, _, _, _⟩ :: _) _ _); refine wpList_store_row rfl 117 _ _ rfl (w.heap.size + 1) (arr .u32 T.list) rfl rfl _ _ HZm.out (list8_info T) rfl (arr_one _) ?_))
          rw [HT.out]
          exact bodyPost_ret (v := .agg (arr .u32 T.list)) (results_cell_row (p := 4) (ty := 117) rfl _ _ (w.heap.size + 1) _ _ _ _ rfl HRR.out Tryd.underlying117 rfl (list8_info T)) rfl ⟨rfl, HBF.out⟩
end Go.Proofs.YtofkihlpbfcdkaaDoor
namespace Go.Proofs.YtofkihlpbfcdkaaDoor
open Go.ChangeShapes Go.WideShapes Go.ChangeAt Go.RowKit SpM
set_option linter.unusedVariables false
set_option maxRecDepth 100000
theorem gConst2 : Tryd.prog.globalNamed "specie/digest.constants" = some 1 := by kernel_rfl
theorem gConstType2 : (Tryd.prog.globals[1]?).map (·.type) = some 122 := by kernel_rfl
theorem gStart2 : Tryd.prog.globalNamed "specie/digest.start" = some 0 := by kernel_rfl
theorem gStartType2 : (Tryd.prog.globals[0]?).map (·.type) = some 117 := by kernel_rfl
theorem cellsConst2 : Tryd.prog.cellsOf 122 = 64 := by kernel_rfl
theorem cellsStart2 : Tryd.prog.cellsOf 117 = 8 := by kernel_rfl
theorem cellsU322 : Tryd.prog.cellsOf 104 = 1 := by kernel_rfl
theorem vars_of_laid2 {W : World} (h : laidMetH Tryd.prog [("specie/digest.constants", Rows.laid_specie_digest_constants), ("specie/digest.start", Rows.laid_specie_digest_start)] W) : VarsD W := by
  have h1 : laidMet Tryd.prog [("specie/digest.constants", Rows.laid_specie_digest_constants), ("specie/digest.start", Rows.laid_specie_digest_start)] W := h
  have t3 : Lib.TabIs Tryd.prog W "specie/digest.constants" .u32 KL := Lib.tabIs_of_head (rest := [("specie/digest.start", Rows.laid_specie_digest_start)]) gConst2 gConstType2 Tryd.underlying122 Tryd.underlying104 cellsU322 cellsConst2 h1
  have t4 : Lib.TabIs Tryd.prog W "specie/digest.start" .u32 st0.list := Lib.tabIs_of_head (rest := []) gStart2 gStartType2 Tryd.underlying117 Tryd.underlying104 cellsU322 cellsStart2 h1.tail
  exact ⟨fun k hk => by rw [t3.cell gConst2 k hk], fun k hk => by rw [t4.cell gStart2 k hk]⟩
def layConst2 : Obj → Obj
  | .cells _ t frozen => .cells (KL.map fun n => Value.int .u32 n).toArray t frozen
  | o => o
def layStart2 : Obj → Obj
  | .cells _ t frozen => .cells (st0.list.map fun n => Value.int .u32 n).toArray t frozen
  | o => o
noncomputable def laidWorld2 (os : Os) : World :=
  { World.holding Tryd.prog os ⟨#[], #[], []⟩ with heap := ((World.holding Tryd.prog os ⟨#[], #[], []⟩).heap.modify 1 layConst2).modify 0 layStart2 }
end Go.Proofs.YtofkihlpbfcdkaaDoor
namespace Go.Proofs.YtofkihlpbfcdkaaDoor
open Go.RowKit SpM
set_option linter.unusedVariables false
set_option linter.unusedSimpArgs false
set_option maxRecDepth 20000
structure Row where
  p : Option Addr
  n : Nat
  c : Nat
  xs : List Int
abbrev Row.val (r : Row) : Value := .slice r.p r.n r.c
abbrev noRow : Row := ⟨none, 0, 0, []⟩
def RowOk (w : World) (r : Row) : Prop := r.xs.length = r.n ∧ Sl w r.p r.xs
theorem RowOk.below {w w' : World} {r : Row} (h : RowOk w r) (hb : Below w.heap.size w w') : RowOk w' r := ⟨h.1, h.2.below hb⟩
def Rw (w : World) (A : Option Addr) (rs : List Row) : Prop := ∀ k, k < rs.length → (∃ b o, A = some ⟨b, o, none⟩ ∧ w.cell? ⟨b, o + k, none⟩ = some (rs.getD k noRow).val) ∧ RowOk w (rs.getD k noRow)
theorem Rw.below {w w' : World} {A : Option Addr} {rs : List Row} (h : Rw w A rs) (hb : Below w.heap.size w w') : Rw w' A rs := fun k hk => by
  obtain ⟨⟨b, o, h1, h2⟩, h3⟩ := h k hk
  exact ⟨⟨b, o, h1, (hb.cell (World.block_lt_of_cell? _ _ h2)).trans h2⟩, h3.below hb⟩
def RBox (w : World) (a : Nat) (u v : Value) : Prop := w.cell? ⟨a, 0, none⟩ = some u ∧ w.cell? ⟨a, 1, none⟩ = some v
theorem RBox.below {w w' : World} {a : Nat} {u v : Value} (h : RBox w a u v) (hb : Below w.heap.size w w') : RBox w' a u v :=
  ⟨(hb.cell (World.block_lt_of_cell? _ _ h.1)).trans h.1, (hb.cell (World.block_lt_of_cell? _ _ h.2)).trans h.2⟩
theorem Rw.at {w : World} {b o : Nat} {rs : List Row} (h : Rw w (some ⟨b, o, none⟩) rs) {k : Nat} (hk : k < rs.length) : w.cell? ⟨b, o + k, none⟩ = some (rs.getD k noRow).val := by
  obtain ⟨⟨b', o', h1, h2⟩, _⟩ := h k hk
  cases h1
  exact h2
theorem Rw.some {w : World} {B : Option Addr} {rs : List Row} (h : Rw w B rs) (hk : 0 < rs.length) : ∃ b o, B = some ⟨b, o, none⟩ := by
  obtain ⟨⟨b, o, h1, _⟩, _⟩ := h 0 hk
  exact ⟨b, o, h1⟩
end Go.Proofs.YtofkihlpbfcdkaaDoor
namespace Go.Proofs.YtofkihlpbfcdkaaDoor
open Go.ChangeShapes Go.WideShapes Go.ChangeAt Go.RowKit SpM
set_option linter.unusedVariables false
section
variable {H : Type} {enc : TypeId × Value → H} {w : World} {base : Nat} {held : Bool}
end
section
variable {H : Type} {enc : TypeId × Value → H} {w : World} {base : Nat} {held : Bool}
theorem cellsSlI : Tryd.prog.cellsOf 26 = 1 := by kernel_rfl
end
theorem cellsPrf : Tryd.prog.cellsOf 28 = 3 := by kernel_rfl
section
variable {H : Type} {enc : TypeId × Value → H} {w : World} {base : Nat} {held : Bool}
set_option maxRecDepth 100000
end
theorem cellsEsc : Tryd.prog.cellsOf 30 = 5 := by kernel_rfl
section
variable {H : Type} {enc : TypeId × Value → H} {w : World} {base : Nat} {held : Bool}
set_option maxRecDepth 100000
end
end Go.Proofs.YtofkihlpbfcdkaaDoor
namespace Go.Proofs.YtofkihlpbfcdkaaDoor
namespace SpM
def Cg (q a b : Int) : Prop := ∃ t, a = b + q * t
theorem Cg.refl (q a : Int) : Cg q a a := ⟨0, by simp⟩
theorem Cg.symm {q a b : Int} (h : Cg q a b) : Cg q b a := by obtain ⟨t, h⟩ := h; exact ⟨-t, by rw [h]; grind⟩
theorem Cg.trans {q a b c : Int} (h : Cg q a b) (h2 : Cg q b c) : Cg q a c := by obtain ⟨t, h⟩ := h; obtain ⟨s, h2⟩ := h2; exact ⟨s + t, by rw [h, h2]; grind⟩
theorem Cg.add {q a b c d : Int} (h : Cg q a b) (h2 : Cg q c d) : Cg q (a + c) (b + d) := by obtain ⟨t, h⟩ := h; obtain ⟨s, h2⟩ := h2; exact ⟨s + t, by rw [h, h2]; grind⟩
theorem Cg.eq {q a b : Int} (h : Cg q a b) : a % q = b % q := by obtain ⟨t, h⟩ := h; rw [h, Int.add_mul_emod_self_left]
def gp (xs : Nat → Int) (x : Int) : Nat → Int
  | 0 => 1
  | m + 1 => gp xs x m * (x - xs m)
def pv : List Int → Int → Int
  | [], _ => 0
  | c :: t, x => c + x * pv t x
def hv (q : Int) : List Int → Int → Int
  | [], _ => 0
  | c :: t, x => (hv q t x * x % q + c) % q
end SpM
end Go.Proofs.YtofkihlpbfcdkaaDoor
namespace Go.Proofs.YtofkihlpbfcdkaaDoor
open Go.RowKit SpM
set_option linter.unusedVariables false
set_option linter.unusedSimpArgs false
set_option maxRecDepth 20000
theorem OwnL.keep {w w' : World} {B : Nat} {v : Value} {xs : List Int} (h : OwnL w B v xs) (hb : Below w.heap.size w w') : OwnL w' B v xs := by
  obtain ⟨h1, h2⟩ := h
  refine ⟨h1, h2.imp id ?_⟩
  rintro ⟨g, cap, cur, rfl, hg, hh, rest⟩
  exact ⟨g, cap, cur, rfl, hg, (hb.block g (Array.getElem?_eq_some_iff.1 hh).1).trans hh, rest⟩
theorem OwnL.mono {w : World} {B B' : Nat} {v : Value} {xs : List Int} (h : OwnL w B v xs) (hb : B' ≤ B) : OwnL w B' v xs := by
  obtain ⟨h1, h2⟩ := h
  refine ⟨h1, h2.imp id ?_⟩
  rintro ⟨g, cap, cur, rfl, hg, rest⟩
  exact ⟨g, cap, cur, rfl, by omega, rest⟩
def ListOut (zs : List Int) (w : World) (e : Ending) (w' : World) : Prop := ∃ v, e = .returned v ∧ OwnL w' w.heap.size v zs ∧ Below w.heap.size w w'
end Go.Proofs.YtofkihlpbfcdkaaDoor
namespace Go.Proofs.YtofkihlpbfcdkaaDoor
open Go.RowKit
theorem quiet_d {P : Program} {f : FuncId} {args : Array Value} {w : World} {n : Nat} {v : Value}
    (h : Calls P f args (w.drewN n) fun e w' => e = .returned v ∧ ∃ m, w' = (w.drewN n).drewN m) : Calls P f args (w.drewN n) fun e w'' => e = .returned v ∧ ∃ m, w'' = w.drewN m :=
  h.mono fun _ _ ⟨he, m, hm⟩ => ⟨he, n + m, by rw [hm, World.drewN_drewN]⟩
end Go.Proofs.YtofkihlpbfcdkaaDoor
namespace Go.Proofs.YtofkihlpbfcdkaaDoor
open Go
section
variable {P : Program} {ops : Array Oper} {Q : Exit → Act → World → Prop} {md : Region.Mode} {S : World → Prop} {E : List Nat}
def wpT (P : Program) (md : Region.Mode) (ops : Array Oper) (Q : Exit → Act → World → Prop) (S : World → Prop) (E : List Nat) : Nat → Array Bool → Act → World → Prop
  | 0, listed, a, w => Region.ready md ops listed = [] ∧ Q .normal a w
  | fuel + 1, listed, a, w =>
    (Region.ready md ops listed = [] → Q .normal a w) ∧
    ∀ i ∈ Region.ready md ops listed, wpOp P ops Q i (fun a' w' => (i ∉ E → S w') ∧ wpT P md ops Q S E fuel (listed.setIfInBounds i true) a' w') a w
theorem wpAny_of_T : ∀ (fuel : Nat) (listed : Array Bool) (a : Act) (w : World), wpT P md ops Q S E fuel listed a w → wpAny P md ops Q fuel listed a w
  | 0, _, _, _, h => h
  | fuel + 1, _, _, _, h => ⟨h.1, fun i hi => wpOp_mono (fun a' w' h' => wpAny_of_T fuel _ a' w' h'.2) (h.2 i hi)⟩
def depsOf (md : Region.Mode) (ops : Array Oper) (i : Nat) : List Nat :=
  (List.range ops.size).foldl (fun C x => if ((ops[x]?).map (·.after.any fun e => Region.binds md e && (e.on == i || C.contains e.on))).getD false then x :: C else C) []
def lateB (md : Region.Mode) (ops : Array Oper) (listed : Array Bool) (i : Nat) (E : List Nat) : Bool :=
  (E.all fun s => (depsOf md ops i).contains s) && (depsOf md ops i).all fun x => !listed.getD x true && ((ops[x]?).map (·.after.any fun e => Region.binds md e && (e.on == i || (depsOf md ops i).contains e.on))).getD false
def Late (md : Region.Mode) (ops : Array Oper) (C : List Nat) (listed : Array Bool) (i : Nat) : Prop :=
  ∀ x ∈ C, listed.getD x true = false ∧ ∃ o, ops[x]? = some o ∧ ∃ e ∈ o.after, Region.binds md e = true ∧ (e.on = i ∨ e.on ∈ C)
theorem lateB_spec {listed : Array Bool} {i : Nat} (h : lateB md ops listed i E = true) : (∀ s ∈ E, s ∈ depsOf md ops i) ∧ Late md ops (depsOf md ops i) listed i := by
  unfold lateB at h
  rw [Bool.and_eq_true] at h
  refine ⟨fun s hs => by simpa using List.all_eq_true.1 h.1 s hs, fun x hx => ?_⟩
  have h2 := List.all_eq_true.1 h.2 x hx
  rw [Bool.and_eq_true] at h2
  refine ⟨by simpa using h2.1, ?_⟩
  have h3 := h2.2
  cases ho : ops[x]? with
  | none => rw [ho] at h3; simp at h3
  | some o =>
    rw [ho] at h3
    simp only [Option.map_some, Option.getD_some] at h3
    obtain ⟨e, he, hb⟩ := Array.any_eq_true'.1 h3
    simp only [Bool.and_eq_true, Bool.or_eq_true, beq_iff_eq] at hb
    exact ⟨o, rfl, e, he, hb.1, hb.2.imp id (by simp)⟩
theorem Late.not_ready {C : List Nat} {listed : Array Bool} {i j : Nat} (h : Late md ops C listed i) (hi : listed.getD i true = false) (hj : j ∈ Region.ready md ops listed) : j ∉ C := fun hc => by
  obtain ⟨_, o, ho, e, he, hb, h4⟩ := h j hc
  obtain ⟨_, o', ho', hall⟩ := mem_ready.1 hj
  rw [ho] at ho'
  cases ho'
  have h5 := hall e he hb
  have h6 : listed.getD e.on true = false := by
    rcases h4 with h4 | h4
    · rw [h4]; exact hi
    · exact (h _ h4).1
  rcases Nat.lt_or_ge e.on listed.size with h' | h'
  · simp [h'] at h5 h6; rw [h6] at h5; cases h5
  · simp [Array.getElem?_eq_none h'] at h5
theorem Late.step {C : List Nat} {listed : Array Bool} {i j : Nat} (h : Late md ops C listed i) (hj : j ∉ C) : Late md ops C (listed.setIfInBounds j true) i := fun x hx => by
  obtain ⟨h1, h2⟩ := h x hx
  have hne : j ≠ x := fun e => hj (by rw [e]; exact hx)
  exact ⟨by rw [getD_set_ne true hne]; exact h1, h2⟩
theorem wpT_first {i : Nat} {oi : Oper} {v : Value} {C : List Nat} (hs : ∀ s ∈ E, s ∈ C) (hi : ops[i]? = some oi) (hsel : ∀ (j : Nat) (o : Oper) cs b, ops[j]? = some o → o.op ≠ .select cs b)
    (hQ : ∀ c a w, Q (.panic c) (a.put oi.dst v) w → Q (.panic c) a w) :
    ∀ (fuel : Nat) (listed : Array Bool) (a : Act) (w : World),
      (∀ j oj, ops[j]? = some oj → j ≠ i → listed.getD j true = false → (∀ e ∈ oj.after, Region.binds md e = true → e.on ≠ i) → oi.apart ops oj = true) →
      Late md ops C listed i → i ∈ Region.ready md ops listed → YieldsIf P ops S oi v a → S w →
      wpT P md ops Q S E fuel (listed.setIfInBounds i true) (a.put oi.dst v) w → wpT P md ops Q S E (fuel + 1) listed a w := by
  intro fuel
  induction fuel with
  | zero =>
    intro listed a w _ _ hr hy hS H
    refine ⟨fun h => (by rw [h] at hr; cases hr), fun j hj => ?_⟩
    by_cases hji : j = i
    · subst hji; exact hy.wpOp hi hS ⟨fun _ => hS, H⟩
    · have := ready_mono hj hji
      rw [H.1] at this
      cases this
  | succ fuel ih =>
    intro listed a w hfree hlate hr hy hS H
    refine ⟨fun h => (by rw [h] at hr; cases hr), fun j hj => ?_⟩
    by_cases hji : j = i
    · subst hji; exact hy.wpOp hi hS ⟨fun _ => hS, H⟩
    · have h1 := H.2 j (ready_mono hj hji)
      have hiun := (mem_ready.1 hr).1
      have hjC := hlate.not_ready hiun hj
      have hjs : j ∉ E := fun e => hjC (hs j e)
      obtain ⟨hjun, oj, hoj, hall⟩ := mem_ready.1 hj
      have hnot : ∀ e ∈ oj.after, Region.binds md e = true → e.on ≠ i := fun e he hb heq => by
        have h1 := hall e he hb
        have h0 := (mem_ready.1 hr).1
        rw [heq] at h1
        rcases Nat.lt_or_ge i listed.size with h' | h'
        · simp [h'] at h0 h1; rw [h0] at h1; cases h1
        · simp [Array.getElem?_eq_none h'] at h1
      have h2 := wpOp_putIf hoj (hfree j oj hoj hji hjun hnot) (fun cs b => hsel i oi cs b hi) (fun cs b => hsel j oj cs b hoj) hQ hy h1
      have hfree' : ∀ k ok, ops[k]? = some ok → k ≠ i → (listed.setIfInBounds j true).getD k true = false →
          (∀ e ∈ ok.after, Region.binds md e = true → e.on ≠ i) → oi.apart ops ok = true := fun k ok hk hki hun hno => by
        refine hfree k ok hk hki ?_ hno
        by_cases hjk : j = k
        · subst hjk; exact hjun
        · rw [getD_set_ne true hjk] at hun; exact hun
      refine wpOp_mono (fun a' w' h3 => ⟨fun _ => h3.2.1 hjs, ih (listed.setIfInBounds j true) a' w' hfree' (hlate.step hjC) (ready_mono hr (Ne.symm hji)) h3.1 (h3.2.1 hjs) ?_⟩) h2
      rw [Array.setIfInBounds_comm _ _ hji]
      exact h3.2.2
theorem wpT_take {i : Nat} {oi : Oper} {v : Value} {fuel : Nat} {listed : Array Bool} {a : Act} {w : World} (hi : ops[i]? = some oi)
    (hs : Region.noSelect ops = true) (hf : Region.free md ops listed i = true) (hr : (Region.ready md ops listed).contains i = true) (hl : lateB md ops listed i E = true)
    (hQ : ∀ c a w, Q (.panic c) (a.put oi.dst v) w → Q (.panic c) a w) (hy : YieldsIf P ops S oi v a) (hS : S w)
    (h : wpT P md ops Q S E fuel (listed.setIfInBounds i true) (a.put oi.dst v) w) : wpT P md ops Q S E (fuel + 1) listed a w :=
  wpT_first (lateB_spec hl).1 hi (Region.noSelect_spec hs) hQ fuel listed a w (Region.free_spec hi hf) (lateB_spec hl).2 (by simpa using hr) hy hS h
theorem wpT_one {i : Nat} {o : Oper} {fuel : Nat} {listed : Array Bool} {a : Act} {w : World} (hr : Region.ready md ops listed = [i]) (ho : ops[i]? = some o)
    (h : ∀ K' : Act → World → Prop, Shut (∀ a w, S w → (S w → wpT P md ops Q S E fuel (listed.setIfInBounds i true) a w) → K' a w) → if Region.wanted o (yielded ops a.tmps) = true then Oper.wp P o a w K' Q else K' (a.put o.dst undef) w) :
    wpT P md ops Q S E (fuel + 1) listed a w :=
  ⟨fun h0 => absurd (hr ▸ h0) (by simp), fun j hj => by
    rw [hr] at hj
    obtain rfl : j = i := by simpa using hj
    exact wpOp_step ho (fun K' hK => h K' (fun a w hS hW => hK a w ⟨fun _ => hS, hW hS⟩))⟩
theorem qq1 {α : Type _} {xs : List α} {i : Nat} (h : i < xs.toArray.size) : xs.toArray[i] = xs[i]'(by simpa using h) := rfl
theorem qq2 {α : Type _} (a : α) (l : List α) (h : 0 < (a :: l).length) : getElem (a :: l) 0 h = a := rfl
theorem qq3 {α : Type _} (a : α) (l : List α) (i : Nat) (h : i + 1 < (a :: l).length) : getElem (a :: l) (i+1) h = getElem l i (Nat.lt_of_succ_lt_succ h) := rfl
theorem qq4 {α : Type _} (l : List α) (i : Nat) (a : α) : l.toArray.setIfInBounds i a = (l.set i a).toArray := List.setIfInBounds_toArray l i a
theorem qq5 {α : Type _} {x : α} {xs : List α} {a : α} : (x :: xs).set 0 a = a :: xs := rfl
theorem qq6 {α : Type _} {x : α} {xs : List α} {i : Nat} {a : α} : (x :: xs).set (i + 1) a = x :: xs.set i a := rfl
theorem tkV (i : Nat) {oi : Oper} {v : Value} {fuel : Nat} {listed : Array Bool} {a : Act} {w : World} (h : wpT P md ops Q S E fuel (listed.setIfInBounds i true) (a.put oi.dst v) w) (hi : ops[i]? = some oi := by rfl)
    (hs : Region.noSelect ops = true := by kernel_rfl) (hf : Region.free md ops listed i = true := by kernel_rfl) (hr : (Region.ready md ops listed).contains i = true := by kernel_rfl) (hl : lateB md ops listed i E = true := by kernel_rfl)
    (hQ : ∀ c a w, Q (.panic c) (a.put oi.dst v) w → Q (.panic c) a w := by exact fun _ _ _ h => h) (hw : Region.wanted oi (yielded ops a.tmps) = true := by rfl)
    (hy : ∀ w, S w → (execOp a.eval oi).run P w = .ok (.value v) w := by intro wS hSw; (try dsimp only at hSw); go_simp <;> with_reducible rfl) (hS : S w := by assumption) : wpT P md ops Q S E (fuel + 1) listed a w :=
  wpT_take hi hs hf hr hl hQ (Or.inl ⟨hw, hy⟩) hS h
theorem tkU (i : Nat) {oi : Oper} {fuel : Nat} {listed : Array Bool} {a : Act} {w : World} (h : wpT P md ops Q S E fuel (listed.setIfInBounds i true) (a.put oi.dst undef) w) (hi : ops[i]? = some oi := by rfl)
    (hs : Region.noSelect ops = true := by kernel_rfl) (hf : Region.free md ops listed i = true := by kernel_rfl) (hr : (Region.ready md ops listed).contains i = true := by kernel_rfl) (hl : lateB md ops listed i E = true := by kernel_rfl)
    (hQ : ∀ c a w, Q (.panic c) (a.put oi.dst undef) w → Q (.panic c) a w := by exact fun _ _ _ h => h) (hw : Region.wanted oi (yielded ops a.tmps) = false := by rfl) (hS : S w := by assumption) : wpT P md ops Q S E (fuel + 1) listed a w :=
  wpT_take hi hs hf hr hl hQ (Or.inr ⟨hw, rfl⟩) hS h
theorem wpT_two {i1 i2 : Nat} {o1 o2 : Oper} {fuel : Nat} {listed : Array Bool} {a : Act} {w : World} (hr : Region.ready md ops listed = [i1, i2]) (ho1 : ops[i1]? = some o1) (ho2 : ops[i2]? = some o2)
    (h1 : ∀ K' : Act → World → Prop, Shut (∀ a w, S w → (S w → wpT P md ops Q S E fuel (listed.setIfInBounds i1 true) a w) → K' a w) → if Region.wanted o1 (yielded ops a.tmps) = true then Oper.wp P o1 a w K' Q else K' (a.put o1.dst undef) w)
    (h2 : ∀ K' : Act → World → Prop, Shut (∀ a w, S w → (S w → wpT P md ops Q S E fuel (listed.setIfInBounds i2 true) a w) → K' a w) → if Region.wanted o2 (yielded ops a.tmps) = true then Oper.wp P o2 a w K' Q else K' (a.put o2.dst undef) w) :
    wpT P md ops Q S E (fuel + 1) listed a w :=
  ⟨fun h0 => absurd (hr ▸ h0) (by simp), fun j hj => by
    rw [hr] at hj
    rcases (by simpa using hj : j = i1 ∨ j = i2) with rfl | rfl
    · exact wpOp_step ho1 (fun K' hK => h1 K' (fun a w hS hW => hK a w ⟨fun _ => hS, hW hS⟩))
    · exact wpOp_step ho2 (fun K' hK => h2 K' (fun a w hS hW => hK a w ⟨fun _ => hS, hW hS⟩))⟩
theorem wpT_pass {i : Nat} {o : Oper} {fuel : Nat} {listed : Array Bool} {a : Act} {w : World} (hr : Region.ready md ops listed = [i]) (hE : i ∈ E) (ho : ops[i]? = some o)
    (h : ∀ K' : Act → World → Prop, Shut (∀ a w, wpT P md ops Q S E fuel (listed.setIfInBounds i true) a w → K' a w) → if Region.wanted o (yielded ops a.tmps) = true then Oper.wp P o a w K' Q else K' (a.put o.dst undef) w) :
    wpT P md ops Q S E (fuel + 1) listed a w :=
  ⟨fun h0 => absurd (hr ▸ h0) (by simp), fun j hj => by
    rw [hr] at hj
    obtain rfl : j = i := by simpa using hj
    exact wpOp_step ho (fun K' hK => h K' (fun a w hW => hK a w ⟨fun h => absurd hE h, hW⟩))⟩
theorem wpT_done {listed : Array Bool} {a : Act} {w : World} (hr : Region.ready md ops listed = []) (h : Q .normal a w) : ∀ fuel, wpT P md ops Q S E fuel listed a w
  | 0 => ⟨hr, h⟩
  | _ + 1 => ⟨fun _ => h, by rw [hr]; simp⟩
theorem wp_region_T {id : Nat} {a : Act} {w : World} (hm : P.follows .mixedOrders = true) (hS : S w.drew)
    (h : S w.drew → wpT P .any ops Q S E ops.size (Array.replicate ops.size false) a w.drew) : (Code.region id ops true).wp P Q a w :=
  wp_region_any hm (wpAny_of_T _ _ _ _ (h hS))
end
section
variable {P : Program} {ops : Array Oper} {Q : Exit → Act → World → Prop} {md : Region.Mode} {S : World → Prop} {E : List Nat}
theorem wpT_three {i1 i2 i3 : Nat} {o1 o2 o3 : Oper} {fuel : Nat} {listed : Array Bool} {a : Act} {w : World} (hr : Region.ready md ops listed = [i1, i2, i3]) (ho1 : ops[i1]? = some o1) (ho2 : ops[i2]? = some o2) (ho3 : ops[i3]? = some o3)
    (h1 : ∀ K' : Act → World → Prop, Shut (∀ a w, S w → (S w → wpT P md ops Q S E fuel (listed.setIfInBounds i1 true) a w) → K' a w) → if Region.wanted o1 (yielded ops a.tmps) = true then Oper.wp P o1 a w K' Q else K' (a.put o1.dst undef) w)
    (h2 : ∀ K' : Act → World → Prop, Shut (∀ a w, S w → (S w → wpT P md ops Q S E fuel (listed.setIfInBounds i2 true) a w) → K' a w) → if Region.wanted o2 (yielded ops a.tmps) = true then Oper.wp P o2 a w K' Q else K' (a.put o2.dst undef) w)
    (h3 : ∀ K' : Act → World → Prop, Shut (∀ a w, S w → (S w → wpT P md ops Q S E fuel (listed.setIfInBounds i3 true) a w) → K' a w) → if Region.wanted o3 (yielded ops a.tmps) = true then Oper.wp P o3 a w K' Q else K' (a.put o3.dst undef) w) :
    wpT P md ops Q S E (fuel + 1) listed a w :=
  ⟨fun h0 => absurd (hr ▸ h0) (by simp), fun j hj => by
    rw [hr] at hj
    rcases (by simpa using hj : j = i1 ∨ j = i2 ∨ j = i3) with rfl | rfl | rfl
    · exact wpOp_step ho1 (fun K' hK => h1 K' (fun a w hS hW => hK a w ⟨fun _ => hS, hW hS⟩))
    · exact wpOp_step ho2 (fun K' hK => h2 K' (fun a w hS hW => hK a w ⟨fun _ => hS, hW hS⟩))
    · exact wpOp_step ho3 (fun K' hK => h3 K' (fun a w hS hW => hK a w ⟨fun _ => hS, hW hS⟩))⟩
theorem wpT_frame {fuel : Nat} {listed : Array Bool} {a : Act} {w : World} (h : ∀ (T : Nat → Array Bool → Act → World → Prop) (a0 : Act), T = wpT P md ops Q S E → a0 = a → T fuel listed a0 w) : wpT P md ops Q S E fuel listed a w := h _ _ rfl rfl
end
end Go.Proofs.YtofkihlpbfcdkaaDoor
namespace Go.Proofs.YtofkihlpbfcdkaaDoor
open Go.RowKit SpM
set_option linter.unusedVariables false
set_option linter.unusedSimpArgs false
set_option maxRecDepth 100000
def pz (N : Nat) (l : List Int) : List Int := l ++ zer (N - l.length)
theorem pz_len {N : Nat} {l : List Int} (h : l.length ≤ N) : (pz N l).length = N := by simp [pz, zer]; omega
theorem pz_set {N : Nat} {l : List Int} {x : Int} (h : l.length < N) : (pz N l).set l.length x = pz N (l ++ [x]) := by
  obtain ⟨m, hm⟩ : ∃ m, N - l.length = m + 1 := ⟨N - l.length - 1, by omega⟩
  have hm2 : N - (l ++ [x]).length = m := by rw [List.length_append, List.length_singleton]; omega
  rw [pz, pz, hm, hm2, zer, List.replicate_succ, List.set_append_right _ _ (Nat.le_refl _), Nat.sub_self, List.set_cons_zero]
  simp [zer]
theorem pz_full {N : Nat} {l : List Int} (h : l.length = N) : pz N l = l := by simp [pz, zer, h]
theorem pz_step {N k : Nat} {l : List Int} (h : k < l.length) (h2 : k < N) : (pz N (l.take k)).set k (l.getD k 0) = pz N (l.take (k + 1)) := by
  have e := pz_set (N := N) (l := l.take k) (x := l.getD k 0) (by rw [List.length_take]; omega)
  rw [List.length_take, Nat.min_eq_left (by omega)] at e
  rw [e, take_one h]
theorem zarrb : (#[.int .u8 0, .int .u8 0, .int .u8 0, .int .u8 0, .int .u8 0, .int .u8 0, .int .u8 0, .int .u8 0] : Array Value) = arr .u8 (zer 8) := rfl
theorem be8_get (n : Int) : ∀ k : Nat, k < 8 → (be8 n).getD k 0 = n / 2 ^ (56 - 8 * k) % 256
  | 0, _ => rfl
  | 1, _ => rfl
  | 2, _ => rfl
  | 3, _ => rfl
  | 4, _ => rfl
  | 5, _ => rfl
  | 6, _ => rfl
  | 7, _ => by simp [be8]
  | k + 8, h => absurd h (by omega)
set_option maxHeartbeats 1600000 in
theorem count_any (n : Int) (w : World) :
    Calls Tryd.prog 83 #[.int .u64 n] w fun e w' => e = .returned (.slice (some ⟨w.heap.size, 0, none⟩) 8 8) ∧ Blk .u8 5 w' w.heap.size (be8 n) ∧ Below w.heap.size w w' := by
  obtain ⟨W, hW⟩ : ∃ W, w.alloc (.cells #[.int .u8 0, .int .u8 0, .int .u8 0, .int .u8 0, .int .u8 0, .int .u8 0, .int .u8 0, .int .u8 0] 5) = W := ⟨_, rfl⟩
  have HBX : Hid (Below w.heap.size w W) := Lib.hid (by rw [← hW]; exact below_box0 _ _)
  have HB0 : Hid (Blk .u8 5 W w.heap.size (pz 8 ((be8 n).take 0))) := Lib.hid (by
    rw [← hW, zarrb]
    exact Blk.new _ _)
  have hmk : ∀ w, (Instr.makeSlice 63 (.int .i64 8) (.int .i64 8)).run Tryd.prog w = .ok (.slice (some ⟨w.heap.size, 0, none⟩) 8 8) (w.alloc (.cells #[.int .u8 0, .int .u8 0, .int .u8 0, .int .u8 0, .int .u8 0, .int .u8 0, .int .u8 0, .int .u8 0] 5)) := fun _ => by kernel_rfl
  have HW := Lib.hid hW
  clear hW
  go_enter Tryd.func83, Tryd.ntmps83
  go_wp2
  rw [HW.out]
  clear HW hmk
  go_loopw [8] (fun i u => ∃ k : Nat, k ≤ 8 ∧ i = .int .i64 k ∧ Hid (Blk .u8 5 u w.heap.size (pz 8 ((be8 n).take k))) ∧ Hid (Below w.heap.size w u)) (fun i _ => 8 - (intOf i).toNat)
  case atStart => exact ⟨0, by omega, rfl, HB0, HBX⟩
  case round =>
    obtain ⟨k, hk, rfl, HB, HBr⟩ := hrel
    by_cases hlt : k < 8
    · have hc := HB.out.cell (j := k) (by rw [pz_len (by rw [List.length_take, be8_len]; omega)]; exact hlt)
      have hf := HB.out.free k
      have hst := pz_step (N := 8) (k := k) (l := be8 n) hlt hlt
      rw [be8_get n k hlt] at hst
      obtain ⟨q, hq⟩ : ∃ q, n / 2 ^ (56 - 8 * k) = q := ⟨_, rfl⟩
      rw [hq] at hst
      have j0 : (0 : Int) ≤ 56 - 8 * k := by omega
      have j1 : (56 - 8 * (k : Int)).toNat = 56 - 8 * k := by omega
      have HB2 : Hid (Blk .u8 5 (wr.setCell ⟨w.heap.size, k, none⟩ (.int .u8 (q % 256))) w.heap.size (pz 8 ((be8 n).take (k + 1)))) := Lib.hid (by
        rw [← hst]
        exact HB.out.set)
      have HBr2 : Hid (Below w.heap.size w (wr.setCell ⟨w.heap.size, k, none⟩ (.int .u8 (q % 256)))) := Lib.hid (HBr.out.setCell (Nat.le_refl _) _)
      clear hst HB HBr
      go_wp2
      try go_region
      try (rw [hq])
      go_wp2
      go_roundw
      case rel => exact ⟨k + 1, by omega, by go_num, HB2, HBr2⟩
      case measure => simp [intOf]; omega
    · have HBf : Hid (Blk .u8 5 wr w.heap.size (be8 n)) := Lib.hid (by
        have h := HB.out
        rwa [show k = (be8 n).length by rw [be8_len]; omega, List.take_length, pz_full (be8_len n)] at h)
      clear HB
      go_wp2
      go_ret
      exact ⟨rfl, HBf.out, HBr.out⟩
theorem add_off (b o i : Nat) : (⟨b, o, none⟩ : Addr).add i = ⟨b, o + i, none⟩ := by unfold Addr.add; split <;> simp_all
theorem Sk.news {K : IntKind} {w : World} {b o : Nat} {l : List Int} (h : Sk K w (some ⟨b, o, none⟩) l) : ∀ j u, (l.map (Value.int K))[j]? = some u → w.cell? ((⟨b, o, none⟩ : Addr).add j) = some u := fun j u hj => by
  rw [List.getElem?_map] at hj
  by_cases hl : j < l.length
  · rw [List.getElem?_eq_getElem hl] at hj
    rw [add_off, h.cell hl, List.getD_eq_getElem?_getD, List.getElem?_eq_getElem hl]
    exact hj
  · rw [List.getElem?_eq_none (by omega)] at hj; cases hj
theorem Sk.at_add {K : IntKind} {w : World} {b o n : Nat} {l : List Int} (h : Sk K w (some ⟨b, o, none⟩) l) (hn : l.length = n) : ∀ i, i < n → w.cell? ((⟨b, o, none⟩ : Addr).add i) = some (.int K (l.getD i 0)) := fun i hi => by
  rw [add_off]; exact h.cell (by omega)
theorem Sk.setRow_ne {K : IntKind} {w : World} {a : Nat} {A : Option Addr} {l : List Int} {cs : Array Value} (h : Sk K w A l) (hne : ∀ b o, A = some ⟨b, o, none⟩ → b ≠ a) : Sk K (w.setRow a cs) A l := fun j hj => by
  obtain ⟨b, o, e, hc⟩ := h j hj
  exact ⟨b, o, e, by rw [cell_setRow_other _ _ _ _ (hne b o e)]; exact hc⟩
theorem byteInfo : (Tryd.prog.info? 5).map (fun i => (i.zero, i.size, i.bytes)) = some (some (.int .u8 0), 1, 1) := by kernel_rfl
theorem infoH : (Tryd.prog.info? 42).map (·.size) = some 32 := by kernel_rfl
theorem hash_info {l : List Int} (h : l.length = 32) : (Tryd.prog.info? 42).map (·.size) = some (arr .u8 l).size := infoH.trans (congrArg some (by rw [arr_size, h]))
theorem arrs_sz {l m : List Int} (h : l.length = 32) (h2 : m.length = 32) : (arr .u8 l).size = (arr .u8 m).size := by rw [arr_size, arr_size, h, h2]
theorem zarrh : (#[.int .u8 0, .int .u8 0, .int .u8 0, .int .u8 0, .int .u8 0, .int .u8 0, .int .u8 0, .int .u8 0, .int .u8 0, .int .u8 0, .int .u8 0, .int .u8 0, .int .u8 0, .int .u8 0, .int .u8 0, .int .u8 0, .int .u8 0, .int .u8 0, .int .u8 0, .int .u8 0, .int .u8 0, .int .u8 0, .int .u8 0, .int .u8 0, .int .u8 0, .int .u8 0, .int .u8 0, .int .u8 0, .int .u8 0, .int .u8 0, .int .u8 0, .int .u8 0] : Array Value) = arr .u8 (zer 32) := rfl
theorem out_get (s : St) : ∀ k : Nat, k < 8 → ∀ m : Nat, m < 4 → (outL s).getD (4 * k + m) 0 = s.list.getD k 0 / 2 ^ (24 - 8 * m) % 256 := by
  intro k hk m hm
  obtain ⟨a, b, c, d, e, f, g, h⟩ := s
  rcases (show k = 0 ∨ k = 1 ∨ k = 2 ∨ k = 3 ∨ k = 4 ∨ k = 5 ∨ k = 6 ∨ k = 7 by omega) with rfl | rfl | rfl | rfl | rfl | rfl | rfl | rfl <;>
  rcases (show m = 0 ∨ m = 1 ∨ m = 2 ∨ m = 3 by omega) with rfl | rfl | rfl | rfl <;>
  simp [outL, out4, St.list]
theorem outL_len (s : St) : (outL s).length = 32 := rfl
def lenOf : Value → Nat
  | .slice _ n _ => n
  | _ => 0
theorem rep_succ (m : Nat) : List.replicate (m + 1) (0 : Int) = List.replicate m 0 ++ [0] := List.replicate_succ' ..
theorem mix_lit (xa xb xc xd xe xf xg xh : Int) (b o cap : Nat) (blk : List Int) (hlen : Hid (blk.length = 64)) (hby : Hid (bytesB blk = true)) (w : World) (hs : Hid (Sk .u8 w (some ⟨b, o, none⟩) blk)) (hcap : 64 ≤ cap) (hcm : cap ≤ 9223372036854775807) (hv : Hid (VarsD w)) :
    Calls Tryd.prog 84 #[.agg #[.int .u32 xa, .int .u32 xb, .int .u32 xc, .int .u32 xd, .int .u32 xe, .int .u32 xf, .int .u32 xg, .int .u32 xh], .slice (some ⟨b, o, none⟩) 64 cap] w fun e w' => e = .returned (.agg (arr .u32 (mixS ⟨xa, xb, xc, xd, xe, xf, xg, xh⟩ blk).list)) ∧ Below w.heap.size w w' := by
  rw [arr8]
  exact mix_any ⟨xa, xb, xc, xd, xe, xf, xg, xh⟩ b o cap blk hlen hby w hs hcap hcm hv
set_option maxHeartbeats 3200000 in
theorem sum_any (b o c : Nat) (l : List Int) (n : Nat) (hn : Hid (l.length = n)) (hbig : n ≤ 1000000) (hby : Hid (bytesB l = true)) (w : World) (hs : Hid (Sk .u8 w (some ⟨b, o, none⟩) l)) (hv : Hid (VarsD w)) :
    Calls Tryd.prog 77 #[.slice (some ⟨b, o, none⟩) n c] w fun e w' => e = .returned (.agg (arr .u8 (sha l))) ∧ Below w.heap.size w w' := by
  obtain ⟨i0, hi, hz0, hz1, hz2⟩ := info_parts byteInfo
  obtain ⟨W, hW⟩ : ∃ W, w.alloc (.cells #[.int .u8 0, .int .u8 0, .int .u8 0, .int .u8 0, .int .u8 0, .int .u8 0, .int .u8 0, .int .u8 0, .int .u8 0, .int .u8 0, .int .u8 0, .int .u8 0, .int .u8 0, .int .u8 0, .int .u8 0, .int .u8 0, .int .u8 0, .int .u8 0, .int .u8 0, .int .u8 0, .int .u8 0, .int .u8 0, .int .u8 0, .int .u8 0, .int .u8 0, .int .u8 0, .int .u8 0, .int .u8 0, .int .u8 0, .int .u8 0, .int .u8 0, .int .u8 0] 42) = W := ⟨_, rfl⟩
  have HBX : Hid (Below w.heap.size w W) := Lib.hid (by rw [← hW]; exact below_box0 _ _)
  have HR0 : Hid (Blk .u8 42 W w.heap.size (zer 32)) := Lib.hid (by
    rw [← hW, zarrh]
    exact Blk.new _ _)
  have HSZ : Hid (W.heap.size = w.heap.size + 1) := Lib.hid (by rw [← hW]; simp)
  have HS := Lib.hid (hs.out.below HBX.out)
  have HV := Lib.hid (hv.out.below HBX.out)
  have HW := Lib.hid hW
  clear hW hs hv
  go_enter Tryd.func77, Tryd.ntmps77
  go_wp2_with fail
  rw [HW.out]
  refine (Tryd.bytes_Clone_at ⟨b, o, none⟩ n c l _ hn.out (by omega) (HS.out.at_add hn.out)).mono ?_
  rintro e w1 ⟨v1, rfl, ho1, hne1, hb1⟩
  have HO1 : Hid (OwnK .u8 5 w1 W.heap.size v1 l) := Lib.hid (by unfold OwnK; rw [hn.out]; exact ho1)
  have HB1 := hb1
  have HBx1 := Lib.hid hb1
  have hbs := hb1.size
  clear HW hne1 HB1 hb1
  have hown := HO1.out.row hn.out
  clear ho1
  go_wp2_with (at_builtin; refine wpList_append_own _ rfl _ _ 63 rfl W.heap.size 5 i0 (.int .u8 0) 1 1 Tryd.underlying63 hi hz0 hz1 hz2 rfl (by decide) _ _ _ rfl (hown.alloc _) ⟨w1.heap.size, 0, none⟩ 1 1 [.int .u8 128] rfl rfl (cell_one_new _ _ _) (ints_oneCell .u8 [128]) (by unfold maxLen; omega) (by omega) (by simp; omega) ?_; intro v2 w2 hown2 hgrow2 _)
  have HO2 : Hid (OwnK .u8 5 w2 W.heap.size v2 (l ++ [128])) := Lib.hid (OwnK.app hn.out.symm rfl hown2)
  have HBx2 : Hid (Below W.heap.size W w2) := Lib.hid (HO1.out.below HBx1.out hbs hgrow2)
  clear hown hown2 hgrow2 HO1 hbs HBx1
  obtain ⟨A2, c2, e2, _⟩ := HO2.out.sk
  rw [List.length_append, hn.out, List.length_singleton] at e2
  subst e2
  go_loopw [3] (fun p u => ∃ (N : Nat) (A : Option Addr) (cap : Nat), n + 1 ≤ N ∧ N ≤ n + 1 + padZ n ∧ p = .slice A N cap ∧ Hid (OwnK .u8 5 u W.heap.size p (l ++ [128] ++ List.replicate (N - n - 1) 0)) ∧ Hid (Below W.heap.size W u)) (fun p _ => n + 65 - lenOf p)
  case atStart => exact ⟨n + 1, A2, c2, Nat.le_refl _, by omega, rfl, Lib.hid (by rw [show n + 1 - n - 1 = 0 by omega]; simpa using HO2.out), HBx2⟩
  case round =>
    obtain ⟨N, A, cap, hN0, hN1, rfl, HO, HBr⟩ := hrel
    have hpz : padZ n < 64 := by unfold padZ; omega
    have hll : (l ++ [128] ++ List.replicate (N - n - 1) 0).length = N := by simp [hn.out]; omega
    by_cases hend : N % 64 = 56
    · have HN : Hid (N = n + 1 + padZ n) := Lib.hid (by unfold padZ at hN1 hpz ⊢; omega)
      have t1 : ((N : Int) % 64 == 56) = true := by simp; omega
      have t2 : ((N : Int) % 64 != 56) = false := by simp; omega
      clear hend
      go_wp2_with fail
      refine (count_any _ _).mono ?_
      rintro e w3 ⟨rfl, hbl, hb3⟩
      have HO3 := Lib.hid (HO.out.keep hb3)
      have HBx3 := Lib.hid (HBr.out.trans (hb3.mono HBr.out.size))
      have HBL := Lib.hid hbl
      have hbs := HBx3.out.size
      have hown := HO3.out.row hll
      have HLL := Lib.hid hll
      clear hbl hb3 HO HBr hll
      go_upto_region 5 with (at_builtin; refine wpList_append_own _ rfl _ _ 63 rfl W.heap.size 5 i0 (.int .u8 0) 1 1 Tryd.underlying63 hi hz0 hz1 hz2 rfl (by decide) _ _ _ rfl hown ⟨wr.heap.size, 0, none⟩ 8 8 ((be8 (8 * (n : Int))).map (.int .u8)) rfl rfl (HBL.out.sk.news) (ints_oneCell .u8 (be8 (8 * (n : Int)))) (by unfold maxLen padZ at *; omega) (by unfold padZ at *; omega) (by omega) ?_; intro v4 w4 hown2 hgrow2 _)
      have HO4 : Hid (OwnK .u8 5 w4 W.heap.size v4 (padL l)) := Lib.hid (by
        have h := OwnK.app (ys := be8 (8 * (n : Int))) HLL.out.symm rfl hown2
        have e : l ++ [128] ++ List.replicate (N - n - 1) 0 ++ be8 (8 * (n : Int)) = padL l := by
          rw [padL, hn.out, show N - n - 1 = padZ n by have := HN.out; omega]
        rwa [e] at h)
      have HBx4 : Hid (Below W.heap.size W w4) := Lib.hid (HO3.out.below0 HBx3.out hbs hgrow2)
      clear hown hown2 hgrow2 HO3 HBL HBx3 hbs
      obtain ⟨M, hM⟩ : ∃ M, (padL l).length = 64 * M := ⟨(padL l).length / 64, by have := padL_mod l; omega⟩
      have hM1 : 1 ≤ M := by rw [padL_len] at hM; omega
      have hM2 : 64 * M ≤ n + 200 := by rw [padL_len, hn.out, padZ] at hM; omega
      obtain ⟨g4, cap4, e4, hg4, hcap, hcapm, hsk4⟩ := HO4.out.cells (by omega)
      rw [hM] at e4 hcap
      obtain ⟨P, hP⟩ : ∃ P, padL l = P := ⟨_, rfl⟩
      have hPb : bytesB P = true := by rw [← hP]; exact padL_bytes hby.out
      rw [hP] at hsk4 hM HO4
      have HP : Kp (padL l = P) := ⟨hP⟩
      have HM := Lib.hid hM
      have HPB := Lib.hid hPb
      have HSK := Lib.hid hsk4
      have hcm : cap4 ≤ 9223372036854775807 := by simpa [maxLen] using hcapm
      have hg4l : g4 < w4.heap.size := hsk4.lt (by omega)
      subst e4
      clear hP hM hPb hsk4 hcapm HO4 HLL t1 t2
      have HV4 := Lib.hid (HV.out.below HBx4.out)
      obtain ⟨s0, s1, s2, s3, s4, s5, s6, s7⟩ : w4.cell? ⟨0, 0, none⟩ = some (.int .u32 1779033703) ∧ w4.cell? ⟨0, 1, none⟩ = some (.int .u32 3144134277) ∧ w4.cell? ⟨0, 2, none⟩ = some (.int .u32 1013904242) ∧ w4.cell? ⟨0, 3, none⟩ = some (.int .u32 2773480762) ∧ w4.cell? ⟨0, 4, none⟩ = some (.int .u32 1359893119) ∧ w4.cell? ⟨0, 5, none⟩ = some (.int .u32 2600822924) ∧ w4.cell? ⟨0, 6, none⟩ = some (.int .u32 528734635) ∧ w4.cell? ⟨0, 7, none⟩ = some (.int .u32 1541459225) :=
        ⟨HV4.out.2 0 (by decide), HV4.out.2 1 (by decide), HV4.out.2 2 (by decide), HV4.out.2 3 (by decide), HV4.out.2 4 (by decide), HV4.out.2 5 (by decide), HV4.out.2 6 (by decide), HV4.out.2 7 (by decide)⟩
      go_wp2_with ((with_reducible show wpList _ _ _ (⟨none, _, _, _, _, _⟩ :: _) _ _); refine wpList_store_row rfl 117 _ _ rfl w4.heap.size (arr .u32 st0.list) rfl rfl _ _ (heap_alloc_new _ _) (list8_info st0) rfl (arr_one _) ?_)
      clear s0 s1 s2 s3 s4 s5 s6 s7
      rw [World.setRow_alloc_new]
      simp only [Act.put]
      have HBx5 : Hid (Below W.heap.size W (w4.alloc (.cells (arr .u32 st0.list) 117))) := Lib.hid (HBx4.out.alloc HBx4.out.size _)
      have HST5 : Hid (Blk .u32 117 (w4.alloc (.cells (arr .u32 st0.list) 117)) w4.heap.size (shaSt P 0).list) := Lib.hid (Blk.new _ _)
      have HSK5 : Hid (Sk .u8 (w4.alloc (.cells (arr .u32 st0.list) 117)) (some ⟨g4, 0, none⟩) (P.drop (64 * 0))) := Lib.hid (by
        rw [Nat.mul_zero, List.drop_zero]
        exact HSK.out.below (below_box0 _ _))
      have hbs4 := HBx4.out.size
      obtain ⟨W5, hW5⟩ : ∃ u, w4.alloc (.cells (arr .u32 st0.list) 117) = u := ⟨_, rfl⟩
      rw [hW5] at HBx5 HST5 HSK5 ⊢
      clear hW5 HSK HBx4 HV4
      go_loopw [3] (fun p u => ∃ (k R off cp : Nat), k ≤ M ∧ Hid (64 * k + R = 64 * M) ∧ p = .slice (some ⟨g4, off, none⟩) R cp ∧ R ≤ cp ∧ cp ≤ 9223372036854775807 ∧ Hid (Sk .u8 u (some ⟨g4, off, none⟩) (P.drop (64 * k))) ∧ Hid (Blk .u32 117 u w4.heap.size (shaSt P k).list) ∧ Hid (Below W.heap.size W u)) (fun p _ => lenOf p)
      case atStart => exact ⟨0, 64 * M, 0, cap4, by omega, Lib.hid (by omega), rfl, hcap, hcm, HSK5, HST5, HBx5⟩
      case round =>
        obtain ⟨k, R, off, cp, hk, HR, rfl, hRc, hcp, HSr, HSt, HBr⟩ := hrel
        by_cases hR0 : 0 < R
        · have hR64 : 64 ≤ R := by have := HR.out; omega
          have hc64 : (64 : Int) ≤ (cp : Int) := by omega
          have hkM : k < M := by have := HR.out; omega
          have HBLK : Hid ((blockOf P k).length = 64) := Lib.hid (blockOf_len (by have := HM.out; omega))
          have HBB : Hid (bytesB (blockOf P k) = true) := Lib.hid (blockOf_bytes HPB.out k)
          obtain ⟨⟨xa, xb, xc, xd, xe, xf, xg, xh⟩, hS⟩ : ∃ T, shaSt P k = T := ⟨_, rfl⟩
          rw [hS] at HSt
          have HSS : Kp (shaSt P k = ⟨xa, xb, xc, xd, xe, xf, xg, xh⟩) := ⟨hS⟩
          clear hS
          have HSr2 : Hid (Sk .u8 wr (some ⟨g4, off, none⟩) (blockOf P k)) := Lib.hid (HSr.out.take)
          have HVr := Lib.hid (HV.out.below HBr.out)
          have HCS : Hid (wr.cell? ⟨w4.heap.size, 0, none⟩ = some (.int .u32 xa) ∧ wr.cell? ⟨w4.heap.size, 1, none⟩ = some (.int .u32 xb) ∧ wr.cell? ⟨w4.heap.size, 2, none⟩ = some (.int .u32 xc) ∧ wr.cell? ⟨w4.heap.size, 3, none⟩ = some (.int .u32 xd) ∧ wr.cell? ⟨w4.heap.size, 4, none⟩ = some (.int .u32 xe) ∧ wr.cell? ⟨w4.heap.size, 5, none⟩ = some (.int .u32 xf) ∧ wr.cell? ⟨w4.heap.size, 6, none⟩ = some (.int .u32 xg) ∧ wr.cell? ⟨w4.heap.size, 7, none⟩ = some (.int .u32 xh)) := Lib.hid ⟨HSt.out.cell (j := 0) (show 0 < 8 by decide), HSt.out.cell (j := 1) (show 1 < 8 by decide), HSt.out.cell (j := 2) (show 2 < 8 by decide), HSt.out.cell (j := 3) (show 3 < 8 by decide), HSt.out.cell (j := 4) (show 4 < 8 by decide), HSt.out.cell (j := 5) (show 5 < 8 by decide), HSt.out.cell (j := 6) (show 6 < 8 by decide), HSt.out.cell (j := 7) (show 7 < 8 by decide)⟩
          obtain ⟨T, hT⟩ : ∃ T, mixS ⟨xa, xb, xc, xd, xe, xf, xg, xh⟩ (blockOf P k) = T := ⟨_, rfl⟩
          have HT : Kp (mixS ⟨xa, xb, xc, xd, xe, xf, xg, xh⟩ (blockOf P k) = T) := ⟨hT⟩
          have HTN : Kp (shaSt P (k + 1) = T) := ⟨by rw [shaSt, HSS.out, hT]⟩
          clear hT
          go_wp2_with fail
          refine wp_region_T (S := fun w' => w'.cell? ⟨w4.heap.size, 0, none⟩ = some (.int .u32 xa) ∧ w'.cell? ⟨w4.heap.size, 1, none⟩ = some (.int .u32 xb) ∧ w'.cell? ⟨w4.heap.size, 2, none⟩ = some (.int .u32 xc) ∧ w'.cell? ⟨w4.heap.size, 3, none⟩ = some (.int .u32 xd) ∧ w'.cell? ⟨w4.heap.size, 4, none⟩ = some (.int .u32 xe) ∧ w'.cell? ⟨w4.heap.size, 5, none⟩ = some (.int .u32 xf) ∧ w'.cell? ⟨w4.heap.size, 6, none⟩ = some (.int .u32 xg) ∧ w'.cell? ⟨w4.heap.size, 7, none⟩ = some (.int .u32 xh)) (E := [3, 4]) (by kernel_rfl) (by simpa using HCS.out) (fun hHeld => ?_)
          refine tkV 0 ?_
          try simp only [qq1, qq2, qq3, Act.put, qq4, qq5, qq6]
          refine tkV 1 ?_
          try simp only [qq1, qq2, qq3, Act.put, qq4, qq5, qq6]
          refine tkV 2 ?_
          try simp only [qq1, qq2, qq3, Act.put, qq4, qq5, qq6]
          refine wpT_pass (i := 3) (by kernel_rfl) (by simp) rfl (fun K hK => ?_)
          go_simp
          refine (mix_lit xa xb xc xd xe xf xg xh g4 off cp (blockOf P k) HBLK HBB _ (Lib.hid (HSr2.out.below (Below.refl _ _).drew)) (by omega) hcp (Lib.hid (HVr.out.below (Below.refl _ _).drew))).mono ?_
          rintro e w6 ⟨rfl, hb6⟩
          rw [HT.out]
          refine hK.out _ _ ?_
          clear hK K
          try simp only [qq1, qq2, qq3, Act.put, qq4, qq5, qq6]
          refine wpT_pass (i := 4) (by kernel_rfl) (by simp) rfl (fun K hK => ?_)
          refine wp_store_row 117 _ _ rfl w4.heap.size (arr .u32 T.list) rfl rfl 117 _ ((HSt.out.below (Below.refl _ _).drew).below hb6) (list8_info T) rfl (arr_one _) ?_
          refine hK.out _ _ ?_
          clear hK K
          try simp only [qq1, qq2, qq3, Act.put, qq4, qq5, qq6]
          refine wpT_done (by kernel_rfl) ?_ _
          have HSt2 : Hid (Blk .u32 117 (w6.setRow w4.heap.size (arr .u32 T.list)) w4.heap.size (shaSt P (k + 1)).list) := Lib.hid (by
            rw [HTN.out]
            exact ((HSt.out.below (Below.refl _ _).drew).below hb6).setRow)
          have HBr2 : Hid (Below W.heap.size W (w6.setRow w4.heap.size (arr .u32 T.list))) := Lib.hid (below_setRow' (HBr.out.drew.trans (hb6.mono HBr.out.size)) hbs4)
          have HSr3 : Hid (Sk .u8 (w6.setRow w4.heap.size (arr .u32 T.list)) (some ⟨g4, off, none⟩) (P.drop (64 * k))) := Lib.hid (((HSr.out.below (Below.refl _ _).drew).below hb6).setRow_ne (fun b o e => by cases e; omega))
          obtain ⟨w7, hw7⟩ : ∃ u, w6.setRow w4.heap.size (arr .u32 T.list) = u := ⟨_, rfl⟩
          rw [hw7] at HSt2 HBr2 HSr3 ⊢
          clear hw7 hb6 HSr HSr2 HSt HBr HVr HCS HT HTN HSS hHeld
          have h64R : (64 : Int) ≤ (R : Int) := by omega
          by_cases hce : cp = 64
          · subst hce
            obtain rfl : R = 64 := by omega
            have HN0 : Hid (Sk .u8 w7 (some ⟨g4, off, none⟩) (P.drop (64 * (k + 1)))) := Lib.hid (Sk.nil_of (by rw [List.length_drop, HM.out]; have := HR.out; omega))
            have HR2 : Hid (64 * (k + 1) + 0 = 64 * M) := Lib.hid (by have := HR.out; omega)
            go_wp2
            go_roundw
            case rel => exact ⟨k + 1, 0, off, 0, by omega, HR2, rfl, by omega, by omega, HN0, HSt2, HBr2⟩
            case measure => simp [lenOf]
          · have HN0 : Hid (Sk .u8 w7 (some ⟨g4, off + 64, none⟩) (P.drop (64 * (k + 1)))) := Lib.hid (by
              have h := HSr3.out.drop (n := 64)
              rwa [List.drop_drop, show 64 * k + 64 = 64 * (k + 1) by omega] at h)
            have HR2 : Hid (64 * (k + 1) + (R - 64) = 64 * M) := Lib.hid (by have := HR.out; omega)
            go_wp2
            go_roundw
            case rel => exact ⟨k + 1, R - 64, off + 64, cp - 64, by omega, HR2, rfl, by omega, by omega, HN0, HSt2, HBr2⟩
            case measure => simp [lenOf]; omega
        · obtain rfl : R = 0 := by omega
          obtain ⟨⟨xa, xb, xc, xd, xe, xf, xg, xh⟩, hS⟩ : ∃ T, shaSt P M = T := ⟨_, rfl⟩
          have HSHA : Kp (sha l = outL ⟨xa, xb, xc, xd, xe, xf, xg, xh⟩) := ⟨by
            rw [sha, HP.out, HM.out, show 64 * M / 64 = M by omega, hS]⟩
          have HSt3 : Hid (Blk .u32 117 wr w4.heap.size (St.mk xa xb xc xd xe xf xg xh).list) := Lib.hid (by
            rw [← hS, show M = k by have := HR.out; omega]
            exact HSt.out)
          have HW8 : Hid (Blk .u8 42 (wr.alloc (.cells #[.int .u8 0, .int .u8 0, .int .u8 0, .int .u8 0, .int .u8 0, .int .u8 0, .int .u8 0, .int .u8 0, .int .u8 0, .int .u8 0, .int .u8 0, .int .u8 0, .int .u8 0, .int .u8 0, .int .u8 0, .int .u8 0, .int .u8 0, .int .u8 0, .int .u8 0, .int .u8 0, .int .u8 0, .int .u8 0, .int .u8 0, .int .u8 0, .int .u8 0, .int .u8 0, .int .u8 0, .int .u8 0, .int .u8 0, .int .u8 0, .int .u8 0, .int .u8 0] 42)) wr.heap.size (pz 32 ((outL ⟨xa, xb, xc, xd, xe, xf, xg, xh⟩).take (4 * 0)))) := Lib.hid (by
            rw [zarrh]
            exact Blk.new _ _)
          have HB8 : Hid (Below W.heap.size W (wr.alloc (.cells #[.int .u8 0, .int .u8 0, .int .u8 0, .int .u8 0, .int .u8 0, .int .u8 0, .int .u8 0, .int .u8 0, .int .u8 0, .int .u8 0, .int .u8 0, .int .u8 0, .int .u8 0, .int .u8 0, .int .u8 0, .int .u8 0, .int .u8 0, .int .u8 0, .int .u8 0, .int .u8 0, .int .u8 0, .int .u8 0, .int .u8 0, .int .u8 0, .int .u8 0, .int .u8 0, .int .u8 0, .int .u8 0, .int .u8 0, .int .u8 0, .int .u8 0, .int .u8 0] 42))) := Lib.hid (HBr.out.alloc HBr.out.size _)
          clear hS HSt HSr HR
          go_upto_region 11 with ((with_reducible show wpList _ _ _ (⟨some 37, _, _, _, _, _⟩ :: _) _ _); refine wpList_load_row rfl 117 _ rfl w4.heap.size rfl _ _ _ _ (HSt3.out.old _) Tryd.underlying117 rfl (list8_info _) ?_)
          rw [← arr8]
          have hbr := HBr.out.size
          obtain ⟨WN, hWN⟩ : ∃ u, wr.alloc (.cells #[.int .u8 0, .int .u8 0, .int .u8 0, .int .u8 0, .int .u8 0, .int .u8 0, .int .u8 0, .int .u8 0, .int .u8 0, .int .u8 0, .int .u8 0, .int .u8 0, .int .u8 0, .int .u8 0, .int .u8 0, .int .u8 0, .int .u8 0, .int .u8 0, .int .u8 0, .int .u8 0, .int .u8 0, .int .u8 0, .int .u8 0, .int .u8 0, .int .u8 0, .int .u8 0, .int .u8 0, .int .u8 0, .int .u8 0, .int .u8 0, .int .u8 0, .int .u8 0] 42) = u := ⟨_, rfl⟩
          rw [hWN] at HW8 HB8 ⊢
          obtain ⟨B5, hB5⟩ : ∃ x, wr.heap.size = x := ⟨_, rfl⟩
          have HBN : Hid (B5 < WN.heap.size) := Lib.hid (by rw [← hWN, ← hB5]; simp)
          rw [hB5] at HW8 hbr ⊢
          clear hWN hB5
          go_loopw [38] (fun i u => ∃ k : Nat, k ≤ 8 ∧ i = .int .i64 k ∧ Hid (Blk .u8 42 u B5 (pz 32 ((outL ⟨xa, xb, xc, xd, xe, xf, xg, xh⟩).take (4 * k)))) ∧ Hid (Below B5 WN u)) (fun i _ => 8 - (intOf i).toNat)
          case atStart => exact ⟨0, by omega, rfl, HW8, Lib.hid (Below.refl _ _)⟩
          case round =>
            obtain ⟨k4, hk4, rfl, HBk, HBu⟩ := hrel
            by_cases hlk : k4 < 8
            · have hi8 := idx8 xa xb xc xd xe xf xg xh k4 hlk
              obtain ⟨v0, e1⟩ : ∃ x, (St.mk xa xb xc xd xe xf xg xh).list.getD k4 0 = x := ⟨_, rfl⟩
              rw [e1] at hi8
              have E1 := Lib.hid e1

              clear e1
              go_wp2
              go_loopw [42] (fun j u => ∃ m : Nat, m ≤ 4 ∧ j = .int .i64 m ∧ Hid (Blk .u8 42 u B5 (pz 32 ((outL ⟨xa, xb, xc, xd, xe, xf, xg, xh⟩).take (4 * k4 + m)))) ∧ Hid (Below B5 WN u)) (fun j _ => 4 - (intOf j).toNat)
              case atStart => exact ⟨0, by omega, rfl, HBk, HBu⟩
              case round =>
                obtain ⟨m, hm, rfl, HBm, HBv⟩ := hrel
                by_cases hlm : m < 4
                · have hol : (outL ⟨xa, xb, xc, xd, xe, xf, xg, xh⟩).length = 32 := outL_len _
                  have hc := HBm.out.cell (j := 4 * k4 + m) (by rw [pz_len (by rw [List.length_take, hol]; omega)]; omega)
                  have hf := HBm.out.free (4 * k4 + m)
                  have hst := pz_step (N := 32) (k := 4 * k4 + m) (l := outL ⟨xa, xb, xc, xd, xe, xf, xg, xh⟩) (by rw [hol]; omega) (by omega)
                  rw [out_get _ k4 hlk m hlm, E1.out] at hst
                  obtain ⟨q, hq⟩ : ∃ q, v0 / 2 ^ (24 - 8 * m) = q := ⟨_, rfl⟩
                  rw [hq] at hst
                  have HC := hc
                  have j0 : (0 : Int) ≤ 24 - 8 * m := by omega
                  have j1 : (24 - 8 * (m : Int)).toNat = 24 - 8 * m := by omega
                  have j2 : (4 * (k4 : Int) + m).toNat = 4 * k4 + m := by omega
                  obtain ⟨WV, hWV⟩ : ∃ u, wr.setCell ⟨B5, 4 * k4 + m, none⟩ (.int .u8 (q % 256)) = u := ⟨_, rfl⟩
                  have HB2 : Hid (Blk .u8 42 WV B5 (pz 32 ((outL ⟨xa, xb, xc, xd, xe, xf, xg, xh⟩).take (4 * k4 + (m + 1))))) := Lib.hid (by
                    rw [← hWV, show 4 * k4 + (m + 1) = 4 * k4 + m + 1 by omega, ← hst]
                    exact HBm.out.set)
                  have HBv2 : Hid (Below B5 WN WV) := Lib.hid (by rw [← hWV]; exact HBv.out.setCell (Nat.le_refl _) _)
                  clear hst HBm HBv hol HC
                  go_wp2
                  try go_region
                  try (rw [hq])
                  try (rw [hWV])
                  go_wp2
                  go_roundw
                  case rel => exact ⟨m + 1, by omega, by go_num, HB2, HBv2⟩
                  case measure => simp [intOf]; omega
                · have HB2 : Hid (Blk .u8 42 wr B5 (pz 32 ((outL ⟨xa, xb, xc, xd, xe, xf, xg, xh⟩).take (4 * (k4 + 1))))) := Lib.hid (by
                    have h := HBm.out
                    rwa [show 4 * k4 + m = 4 * (k4 + 1) by omega] at h)
                  clear HBm
                  go_wp2
                  go_roundw
                  case rel => exact ⟨k4 + 1, by omega, by go_num, HB2, HBv⟩
                  case measure => simp [intOf]; omega
            · have HBf : Hid (Blk .u8 42 wr B5 (sha l)) := Lib.hid (by
                have h := HBk.out
                rwa [show 4 * k4 = (outL ⟨xa, xb, xc, xd, xe, xf, xg, xh⟩).length by rw [outL_len]; omega, List.take_length, pz_full (outL_len _), ← HSHA.out] at h)
              have HBW := Lib.hid (HB8.out.trans (HBu.out.mono hbr))
              have HRf : Hid (Blk .u8 42 wr w.heap.size (zer 32)) := Lib.hid (HR0.out.keepB (by have := HSZ.out; omega) HBW.out)
              have HBF : Hid (Below w.heap.size w (wr.setRow w.heap.size (arr .u8 (sha l)))) := Lib.hid (below_setRow' (below_ext HBX.out HBW.out) (Nat.le_refl _))
              have HRR : Hid (Blk .u8 42 (wr.setRow w.heap.size (arr .u8 (sha l))) w.heap.size (sha l)) := Lib.hid HRf.out.setRow
              clear HBk HBu
              go_wp2_with (first
                | ((with_reducible show wpList _ _ _ (⟨some 58, _, _, _, _, _⟩ :: _) _ _); refine wpList_load_row rfl 42 _ rfl B5 rfl _ _ _ _ HBf.out Tryd.underlying42 rfl (hash_info (sha_len l)) ?_)
                | ((with_reducible show wpList _ _ _ (⟨none, _, _, _, _, _⟩ :: _) _ _); refine wpList_store_row rfl 42 _ _ rfl w.heap.size (arr .u8 (sha l)) rfl rfl _ _ HRf.out (hash_info (sha_len l)) (arrs_sz rfl (sha_len l)) (arr_one _) ?_))
              exact bodyPost_ret (v := .agg (arr .u8 (sha l))) (results_cell_row (p := 2) (ty := 42) rfl _ _ w.heap.size _ _ _ _ rfl HRR.out Tryd.underlying42 rfl (hash_info (sha_len l))) rfl ⟨rfl, HBF.out⟩
    · have hN : N < n + 1 + padZ n := by unfold padZ at hN1 hpz ⊢; omega
      have t1 : ((N : Int) % 64 == 56) = false := by simp; omega
      have t2 : ((N : Int) % 64 != 56) = true := by simp; omega
      have hown := HO.out.row hll
      have hbs := HBr.out.size
      have HLL := Lib.hid hll
      clear hend hll
      go_wp2_with (at_builtin; refine wpList_append_own _ rfl _ _ 63 rfl W.heap.size 5 i0 (.int .u8 0) 1 1 Tryd.underlying63 hi hz0 hz1 hz2 rfl (by decide) _ _ _ rfl (hown.alloc _) ⟨wr.heap.size, 0, none⟩ 1 1 [.int .u8 0] rfl rfl (cell_one_new _ _ _) (ints_oneCell .u8 [0]) (by unfold maxLen; omega) (by omega) (by simp; omega) ?_; intro v2 w2 hown2 hgrow2 _)
      have HO3 : Hid (OwnK .u8 5 w2 W.heap.size v2 (l ++ [128] ++ List.replicate (N + 1 - n - 1) 0)) := Lib.hid (by
        rw [show N + 1 - n - 1 = (N - n - 1) + 1 by omega, rep_succ, ← List.append_assoc]
        exact OwnK.app HLL.out.symm rfl hown2)
      have HBx3 : Hid (Below W.heap.size W w2) := Lib.hid (HO.out.below HBr.out hbs hgrow2)
      clear hown hown2 hgrow2 HO
      obtain ⟨A3, c3, e3, _⟩ := HO3.out.sk
      have e4 : (l ++ [128] ++ List.replicate (N + 1 - n - 1) 0).length = N + 1 := by simp [hn.out]; omega
      rw [e4] at e3
      subst e3
      clear e4
      go_wp2
      go_roundw
      case rel => exact ⟨N + 1, A3, c3, by omega, by omega, rfl, HO3, HBx3⟩
      case measure => simp [lenOf]; omega
def bys (s : ByteArray) : List Int := s.data.toList.map fun c => (c.toNat : Int)
theorem bys_len (s : ByteArray) : (bys s).length = s.size := by simp [bys]
theorem bys_bytes (s : ByteArray) : bytesB (bys s) = true := by
  refine List.all_eq_true.2 fun x hx => ?_
  obtain ⟨c, _, rfl⟩ := List.mem_map.1 hx
  have := c.toNat_lt
  simp; omega
theorem bys_sk {w : World} {g cap : Nat} {s : ByteArray} {e : TypeId} {fr : Nat × Nat} (h : w.heap[g]? = some (.cells (bytesRow s cap) e fr)) : Sk .u8 w (some ⟨g, 0, none⟩) (bys s) := fun j hj => ⟨g, 0, rfl, by
  rw [bys_len] at hj
  rw [Nat.zero_add, cell_of_row _ _ j _ _ _ h, bytesRow_at s cap j (by simpa using hj)]
  simp [bys, List.getD_eq_getElem?_getD]
  rw [Array.getElem?_eq_getElem (by simpa using hj)]
  rfl⟩
theorem OwnK.skAt {K : IntKind} {T : TypeId} {w : World} {B g n c : Nat} {xs : List Int} (h : OwnK K T w B (.slice (some ⟨g, 0, none⟩) n c) xs) (h0 : 0 < xs.length) : Sk K w (some ⟨g, 0, none⟩) xs := by
  obtain ⟨g', cap', e, _, _, _, hs⟩ := h.cells h0
  simp only [Value.slice.injEq, Option.some.injEq, Addr.mk.injEq] at e
  rw [e.1.1]
  exact hs
theorem results_cell_tmp2 {P : Program} {fn : Func} {p q : Tmp} {ty : TypeId} (h : fn.results = #[.cell p ty, .tmp q]) (tmps : Array Value) (w : World) (a : Addr) (v u : Value)
    (hp : tmps.getD p undef = .pointer (some a)) (hq : tmps.getD q undef = u) (hl : (loadVar ty a).run P w = .ok v w) : (results fn tmps).run P w = .ok (.tuple #[v, u]) w := by
  have hp' : tmps[p]?.getD undef = .pointer (some a) := by simpa using hp
  have hq' : tmps[q]?.getD undef = u := by simpa using hq
  simp [results, h, hp', hq', asAddr, hl]
def HashOk (h : List Int) : Value := .tuple #[.agg (arr .u8 h), .int .i64 0]
set_option maxHeartbeats 3200000 in
theorem tagged_any (s : ByteArray) (hs1 : 1 ≤ s.size) (hs2 : s.size ≤ 100) (b o c : Nat) (l : List Int) (n : Nat) (hn : Hid (l.length = n)) (hn0 : 0 < n) (hbig : n ≤ 900000) (hby : Hid (bytesB l = true)) (w : World) (hs : Hid (Sk .u8 w (some ⟨b, o, none⟩) l)) (hv : Hid (VarsD w)) :
    Calls Tryd.prog 66 #[.string s, .slice (some ⟨b, o, none⟩) n c] w fun e w' => e = .returned (HashOk (tagged (bys s) l)) ∧ Below w.heap.size w w' := by
  obtain ⟨i0, hi, hz0, hz1, hz2⟩ := info_parts byteInfo
  obtain ⟨W, hW⟩ : ∃ W, w.alloc (.cells #[.int .u8 0, .int .u8 0, .int .u8 0, .int .u8 0, .int .u8 0, .int .u8 0, .int .u8 0, .int .u8 0, .int .u8 0, .int .u8 0, .int .u8 0, .int .u8 0, .int .u8 0, .int .u8 0, .int .u8 0, .int .u8 0, .int .u8 0, .int .u8 0, .int .u8 0, .int .u8 0, .int .u8 0, .int .u8 0, .int .u8 0, .int .u8 0, .int .u8 0, .int .u8 0, .int .u8 0, .int .u8 0, .int .u8 0, .int .u8 0, .int .u8 0, .int .u8 0] 42) = W := ⟨_, rfl⟩
  have HBX : Hid (Below w.heap.size w W) := Lib.hid (by rw [← hW]; exact below_box0 _ _)
  have HR0 : Hid (Blk .u8 42 W w.heap.size (zer 32)) := Lib.hid (by
    rw [← hW, zarrh]
    exact Blk.new _ _)
  have HSZ : Hid (W.heap.size = w.heap.size + 1) := Lib.hid (by rw [← hW]; simp)
  have HS := Lib.hid (hs.out.below HBX.out)
  have HV := Lib.hid (hv.out.below HBX.out)
  have HW := Lib.hid hW
  have hcv := fun w => run_bytes_of_string (P := Tryd.prog) w 9 63 5 s Tryd.underlying9 Tryd.underlying63 Tryd.underlying5
  clear hW hs hv
  go_enter Tryd.func66, Tryd.ntmps66
  go_wp2_with fail
  rw [HW.out]
  clear hcv HW
  obtain ⟨Wc, hWc⟩ : ∃ u, (W.alloc (.cells (bytesRow s (grownCap W s.size 0 5)) 5 ((bytesRow s (grownCap W s.size 0 5)).size, (bytesRow s (grownCap W s.size 0 5)).size + 1))).drew = u := ⟨_, rfl⟩
  have HBc : Hid (Below W.heap.size W Wc) := Lib.hid (by rw [← hWc]; exact (below_box0 _ _).drew)
  have HSc : Hid (Sk .u8 Wc (some ⟨w.heap.size + 1, 0, none⟩) (bys s)) := Lib.hid (by
    rw [← hWc, ← HSZ.out]
    exact bys_sk (heap_alloc_new W _))
  obtain ⟨gc, hgc⟩ : ∃ g, grownCap W s.size 0 5 = g := ⟨_, rfl⟩
  rw [hWc, hgc]
  clear hWc hgc
  refine (sum_any (w.heap.size + 1) 0 gc (bys s) s.size (Lib.hid (bys_len s)) (by omega) (Lib.hid (bys_bytes s)) _ HSc (Lib.hid (HV.out.below HBc.out))).mono ?_
  rintro e w1 ⟨rfl, hb1⟩
  have HB1 := Lib.hid (below_ext HBc.out hb1)
  clear hb1 HSc HBc
  obtain ⟨t, ht⟩ : ∃ t, sha (bys s) = t := ⟨_, rfl⟩
  have htl : t.length = 32 := by rw [← ht]; exact sha_len _
  have htb : bytesB t = true := by rw [← ht]; exact sha_bytes _
  have HT : Kp (sha (bys s) = t) := ⟨ht⟩
  have HTL := Lib.hid htl
  have HTB := Lib.hid htb
  rw [ht]
  clear ht htl htb
  go_upto_region 4 with ((with_reducible show wpList _ _ _ (⟨none, _, _, _, _, _⟩ :: _) _ _); refine wpList_store_row rfl 42 _ _ rfl w1.heap.size (arr .u8 t) rfl rfl _ _ (heap_alloc_new _ _) (hash_info HTL.out) (arrs_sz (l := zer 32) rfl HTL.out) (arr_one _) ?_)
  rw [World.setRow_alloc_new]
  simp only [Act.put]
  have HB2 := Lib.hid (below_ext HB1.out (below_box0 w1 (.cells (arr .u8 t) 42)))
  have HT2 : Hid (Blk .u8 42 (w1.alloc (.cells (arr .u8 t) 42)) w1.heap.size t) := Lib.hid (Blk.new _ _)
  obtain ⟨W2, hW2⟩ : ∃ u, w1.alloc (.cells (arr .u8 t) 42) = u := ⟨_, rfl⟩
  have HSN : Hid (w1.heap.size < W2.heap.size) := Lib.hid (by rw [← hW2]; simp)
  rw [hW2] at HB2 HT2 ⊢
  clear hW2 HB1
  obtain ⟨gt, hgt⟩ : ∃ g, w1.heap.size = g := ⟨_, rfl⟩
  rw [hgt] at HT2 HSN ⊢
  clear hgt
  have HBd := Lib.hid ((Below.refl W2.heap.size W2).drew)
  have HTd := Lib.hid (HT2.out.below HBd.out)
  have HB3 := Lib.hid (below_ext HB2.out HBd.out)
  obtain ⟨Wd, hWd⟩ : ∃ u, W2.drew = u := ⟨_, rfl⟩
  refine wp_region_T (S := fun w' => True) (E := []) (by kernel_rfl) (trivial) (fun hHeld => ?_)
  refine tkV 0 ?_
  try simp only [qq1, qq2, qq3, Act.put, qq4, qq5, qq6]
  refine tkV 2 ?_
  try simp only [qq1, qq2, qq3, Act.put, qq4, qq5, qq6]
  refine tkV 4 ?_
  try simp only [qq1, qq2, qq3, Act.put, qq4, qq5, qq6]
  refine wpT_one (i := 1) (by kernel_rfl) rfl (fun K hK => ?_)
  go_simp
  try rw [hWd]
  rw [hWd] at HBd HTd HB3
  refine (Tryd.bytes_Clone_at ⟨gt, 0, none⟩ 32 32 t _ HTL.out (by decide) (HTd.out.sk.at_add HTL.out)).mono ?_
  rintro e w3 ⟨v3, rfl, ho3, hne3, hb3⟩
  refine hK.out _ _ ?_ (fun hHeld => ?_)
  · trivial
  clear hK K
  try simp only [qq1, qq2, qq3, Act.put, qq4, qq5, qq6]
  refine wpT_one (i := 3) (by kernel_rfl) rfl (fun K hK => ?_)
  have HS3 := Lib.hid (HS.out.below (below_ext HB3.out hb3))
  have HT3 := Lib.hid (HTd.out.below hb3)
  have hbz := hb3.size
  refine step_append_lies _ (by rfl) _ _ _ (by rfl) (Wd.heap.size) 5 i0 _ 1 1 Tryd.underlying63 hi hz0 hz1 hz2 rfl (by omega) v3 32 (t.map (.int .u8)) (by rfl) (ho3) ⟨gt, 0, none⟩ 32 32 (t.map (.int .u8)) (by rfl) (by simp [HTL.out, hn.out]) (HT3.out.sk.news) (ints_oneCell .u8 _) (by omega) (by unfold maxLen; omega) (by omega) (by omega) (w3.heap.size) (rfl) ?_
  intro g4 cap4 w4 hown4 hgrow4 hat4 hlt4
  have HB4 := Lib.hid (Below.grown hb3 hgrow4 (by omega) (fun j hj => (World.ownsRow.lt ho3 j hj).1))
  refine hK.out _ _ ?_ (fun hHeld => ?_)
  · trivial
  clear hK K
  try simp only [qq1, qq2, qq3, Act.put, qq4, qq5, qq6]
  refine wpT_one (i := 5) (by kernel_rfl) rfl (fun K hK => ?_)
  have HS4 := Lib.hid ((HS.out.below HB3.out).below HB4.out)
  have hbz4 := HB4.out.size
  refine step_append_lies _ (by rfl) _ _ _ (by rfl) (Wd.heap.size) 5 i0 _ 1 1 Tryd.underlying63 hi hz0 hz1 hz2 rfl (by omega) (.slice (some ⟨g4, 0, none⟩) (32 + 32) cap4) (32 + 32) (t.map (.int .u8) ++ t.map (.int .u8)) (by rfl) (hown4) ⟨b, o, none⟩ n c (l.map (.int .u8)) (by rfl) (by simp [HTL.out, hn.out]) (HS4.out.news) (ints_oneCell .u8 _) (by omega) (by unfold maxLen; omega) (by omega) (by omega) (w4.heap.size) (rfl) ?_
  intro g5 cap5 w5 hown5 hgrow5 hat5 hlt5
  have HB5 := Lib.hid (Below.grown HB4.out hgrow5 (by omega) (fun j hj => (World.ownsRow.lt hown4 j hj).1))
  have HO5 : Hid (OwnK .u8 5 w5 Wd.heap.size (.slice (some ⟨g5, 0, none⟩) (32 + 32 + n) cap5) (t ++ t ++ l)) := Lib.hid (OwnK.app (by rw [List.length_append, HTL.out]) hn.out.symm (by rw [List.map_append]; exact hown5))
  refine hK.out _ _ ?_ (fun hHeld => ?_)
  · trivial
  clear hK K
  try simp only [qq1, qq2, qq3, Act.put, qq4, qq5, qq6]
  refine wpT_one (i := 6) (by kernel_rfl) rfl (fun K hK => ?_)
  go_simp
  have hsk5 := HO5.out.skAt (by simp [hn.out]; omega)
  refine (sum_any g5 0 cap5 (t ++ t ++ l) (32 + 32 + n) (Lib.hid (by simp [hn.out, HTL.out]; omega)) (by omega) (Lib.hid (by rw [bytesB_app, bytesB_app, HTB.out, hby.out]; rfl)) _ (Lib.hid hsk5) (Lib.hid ((HV.out.below HB3.out).below HB5.out))).mono ?_
  rintro e w6 ⟨rfl, hb6⟩
  have HB6 := Lib.hid (HB5.out.trans (hb6.mono HB5.out.size))
  refine hK.out _ _ ?_ (fun hHeld => ?_)
  · trivial
  clear hK K
  try simp only [qq1, qq2, qq3, Act.put, qq4, qq5, qq6]
  refine wpT_one (i := 7) (by kernel_rfl) rfl (fun K hK => ?_)
  rw [show (if Region.wanted _ _ = true then _ else _ : Prop) = _ from if_pos rfl]
  refine wp_store_row 42 _ _ rfl w.heap.size (arr .u8 (sha (t ++ t ++ l))) rfl rfl 42 _ (((HR0.out.below HB3.out)).below HB6.out) (hash_info (sha_len _)) (arrs_sz rfl (sha_len _)) (arr_one _) ?_
  refine hK.out _ _ ?_ (fun hHeld => ?_)
  · trivial
  clear hK K
  try simp only [qq1, qq2, qq3, Act.put, qq4, qq5, qq6]
  refine tkV 8 ?_
  try simp only [qq1, qq2, qq3, Act.put, qq4, qq5, qq6]
  refine wpT_done (by kernel_rfl) ?_ _
  have HRR : Hid (Blk .u8 42 (w6.setRow w.heap.size (arr .u8 (sha (t ++ t ++ l)))) w.heap.size (sha (t ++ t ++ l))) := Lib.hid ((HR0.out.below HB3.out).below HB6.out).setRow
  have HBF : Hid (Below w.heap.size w (w6.setRow w.heap.size (arr .u8 (sha (t ++ t ++ l))))) := Lib.hid (below_setRow' (below_ext HBX.out (below_ext HB3.out HB6.out)) (Nat.le_refl _))
  have HTG : Kp (tagged (bys s) l = sha (t ++ t ++ l)) := ⟨by rw [tagged, HT.out]⟩
  obtain ⟨R, hR⟩ : ∃ R, sha (t ++ t ++ l) = R := ⟨_, rfl⟩
  have hRl : R.length = 32 := by rw [← hR]; exact sha_len _
  rw [hR] at HRR HBF HTG ⊢
  obtain ⟨w8, hw8⟩ : ∃ u, w6.setRow w.heap.size (arr .u8 R) = u := ⟨_, rfl⟩
  rw [hw8] at HRR HBF ⊢
  have HLD : Kp ((loadVar 42 ⟨w.heap.size, 0, none⟩).run Tryd.prog w8 = .ok (.agg (arr .u8 R)) w8) := ⟨run_loadVar_row _ _ _ _ _ _ _ HRR.out Tryd.underlying42 rfl (hash_info hRl)⟩
  clear hR hRl hw8
  go_wp2
  exact bodyPost_ret (v := HashOk R) (results_cell_tmp2 (p := 4) (q := 5) (ty := 42) rfl _ _ ⟨w.heap.size, 0, none⟩ _ _ rfl rfl HLD.out) rfl ⟨by rw [HTG.out], HBF.out⟩
theorem ownK_empty {K : IntKind} {T : TypeId} (w : World) : OwnK K T (w.alloc (.cells #[] T)) w.heap.size (.slice (some ⟨w.heap.size, 0, none⟩) 0 0) [] :=
  ⟨rfl, Or.inr ⟨w.heap.size, 0, #[], rfl, Nat.le_refl _, heap_alloc_new _ _, Nat.le_refl _, by decide, rfl, rfl⟩⟩
set_option maxHeartbeats 1600000 in
theorem rbytes_any (n : Int) (w : World) : Calls Tryd.prog 80 #[.int .i64 n] w (KOut .u8 5 (be8 n) w) := by
  obtain ⟨i0, hi, hz0, hz1, hz2⟩ := info_parts byteInfo
  go_enter Tryd.func80, Tryd.ntmps80
  go_wp2
  go_loopw [3, 4] (fun v i u => ∃ k : Nat, k ≤ 8 ∧ i = .int .i64 (7 - (k : Int)) ∧ Hid (OwnK .u8 5 u w.heap.size v ((be8 n).take k)) ∧ Hid (Below w.heap.size w u)) (fun _ i _ => (intOf i + 1).toNat)
  case atStart => exact ⟨0, by omega, rfl, Lib.hid (ownK_nil _ _), Lib.hid (Below.refl _ _)⟩
  case round =>
    obtain ⟨k, hk, rfl, HO, HBr⟩ := hrel
    by_cases hlt : k < 8
    · obtain ⟨q, hq⟩ : ∃ q, n / 2 ^ (56 - 8 * k) = q := ⟨_, rfl⟩
      have HTK : Hid ((be8 n).take (k + 1) = (be8 n).take k ++ [q % 256]) := Lib.hid (by rw [take_one (by rw [be8_len]; exact hlt), be8_get n k hlt, hq])
      have HLN : Hid (((be8 n).take k).length = k) := Lib.hid (by rw [List.length_take, be8_len]; omega)
      have j0 : (0 : Int) ≤ 8 * (7 - (k : Int)) := by omega
      have j1 : (8 * (7 - (k : Int))).toNat = 56 - 8 * k := by omega
      have hown := HO.out.row HLN.out
      have hbs := HBr.out.size
      have d1 : (0 : Int) ≤ 7 - (k : Int) := by omega
      go_wp2_with (at_builtin; refine wpList_append_own _ rfl _ _ 63 rfl w.heap.size 5 i0 (.int .u8 0) 1 1 Tryd.underlying63 hi hz0 hz1 hz2 rfl (by decide) _ _ _ rfl (hown.alloc _) ⟨wr.heap.size, 0, none⟩ 1 1 [.int .u8 (q % 256)] rfl rfl (cell_one_new _ _ _) (ints_oneCell .u8 [(q % 256)]) (by unfold maxLen; omega) (by omega) (by simp; omega) ?_; intro v2 w2 hown2 hgrow2 _)
      have HO3 : Hid (OwnK .u8 5 w2 w.heap.size v2 ((be8 n).take (k + 1))) := Lib.hid (by
        rw [HTK.out]
        exact OwnK.app HLN.out.symm rfl hown2)
      have HBx3 : Hid (Below w.heap.size w w2) := Lib.hid (HO.out.below HBr.out hbs hgrow2)
      clear hown hown2 hgrow2 HO
      go_roundw
      case rel => exact ⟨k + 1, by omega, by go_num, HO3, HBx3⟩
      case measure => simp [intOf]; omega
    · have HO3 : Hid (OwnK .u8 5 wr w.heap.size u3 (be8 n)) := Lib.hid (by
        have h := HO.out
        rwa [show k = (be8 n).length by rw [be8_len]; omega, List.take_length] at h)
      have d1 : 7 - (k : Int) < 0 := by omega
      clear HO
      go_wp2
      go_ret
      exact ⟨_, rfl, HO3.out, HBr.out⟩
set_option maxHeartbeats 3200000 in
theorem rpadded_any (b o c : Nat) (l : List Int) (n : Nat) (hn : Hid (l.length = n)) (hn0 : 0 < n) (hbig : n ≤ 1000000) (w : World) (hs : Hid (Sk .u8 w (some ⟨b, o, none⟩) l)) :
    Calls Tryd.prog 72 #[.slice (some ⟨b, o, none⟩) n c] w (KOut .u8 5 (padL l) w) := by
  obtain ⟨i0, hi, hz0, hz1, hz2⟩ := info_parts byteInfo
  go_enter Tryd.func72, Tryd.ntmps72
  have HOE := Lib.hid (ownK_empty (K := .u8) (T := 5) w)
  have HBE := Lib.hid (below_box0 w (.cells #[] 5))
  have HSE := Lib.hid (hs.out.below HBE.out)
  clear hs
  have hown : (w.alloc (.cells #[] 5)).ownsRow w.heap.size 5 1 (.slice (some ⟨w.heap.size, 0, none⟩) 0 0) 0 [] := HOE.out
  have HSZ : Hid (w.heap.size < (w.alloc (.cells #[] 5)).heap.size) := Lib.hid (by simp)
  go_wp2_with (first
    | ((at_builtin; refine wpList_append_own _ rfl _ _ 63 rfl w.heap.size 5 i0 (.int .u8 0) 1 1 Tryd.underlying63 hi hz0 hz1 hz2 rfl (by decide) _ _ _ rfl hown ⟨b, o, none⟩ n c (l.map (.int .u8)) rfl (by simp [hn.out, be8_len]) (HSE.out.news) (ints_oneCell .u8 _) (by unfold maxLen; omega) (by omega) (by simp) ?_; intro v1 w1 hown1 hgrow1 _); have HO1 : Hid (OwnK .u8 5 w1 w.heap.size v1 l) := Lib.hid (OwnK.app (xs := []) (ys := l) (m := n) rfl hn.out.symm hown1); have HBx1 : Hid (Below w.heap.size w w1) := Lib.hid (HOE.out.below0 HBE.out (by simp) hgrow1); clear hown hown1 hgrow1 HOE HSE; have hbs := HBx1.out.size; have hown := HO1.out.row hn.out)
    | (at_builtin; refine wpList_append_own _ rfl _ _ 63 rfl w.heap.size 5 i0 (.int .u8 0) 1 1 Tryd.underlying63 hi hz0 hz1 hz2 rfl (by decide) _ _ _ rfl (hown.alloc _) ⟨w1.heap.size, 0, none⟩ 1 1 [.int .u8 128] rfl rfl (cell_one_new _ _ _) (ints_oneCell .u8 [128]) (by unfold maxLen; omega) (by omega) (by simp; omega) ?_; intro v2 w2 hown2 hgrow2 _))
  have HO2 : Hid (OwnK .u8 5 w2 w.heap.size v2 (l ++ [128])) := Lib.hid (OwnK.app hn.out.symm rfl hown2)
  have HBx2 : Hid (Below w.heap.size w w2) := Lib.hid (HO1.out.below HBx1.out hbs hgrow2)
  clear hown hown2 hgrow2 HO1 hbs HBx1
  obtain ⟨A2, c2, e2, _⟩ := HO2.out.sk
  rw [List.length_append, hn.out, List.length_singleton] at e2
  subst e2
  go_loopw [3] (fun p u => ∃ (N : Nat) (A : Option Addr) (cap : Nat), n + 1 ≤ N ∧ N ≤ n + 1 + padZ n ∧ p = .slice A N cap ∧ Hid (OwnK .u8 5 u w.heap.size p (l ++ [128] ++ List.replicate (N - n - 1) 0)) ∧ Hid (Below w.heap.size w u)) (fun p _ => n + 65 - lenOf p)
  case atStart => exact ⟨n + 1, A2, c2, Nat.le_refl _, by omega, rfl, Lib.hid (by rw [show n + 1 - n - 1 = 0 by omega]; simpa using HO2.out), HBx2⟩
  case round =>
    obtain ⟨N, A, cap, hN0, hN1, rfl, HO, HBr⟩ := hrel
    have hpz : padZ n < 64 := by unfold padZ; omega
    have hll : (l ++ [128] ++ List.replicate (N - n - 1) 0).length = N := by simp [hn.out]; omega
    by_cases hend : N % 64 = 56
    · have HN : Hid (N = n + 1 + padZ n) := Lib.hid (by unfold padZ at hN1 hpz ⊢; omega)
      have t1 : ((N : Int) % 64 == 56) = true := by simp; omega
      have t2 : ((N : Int) % 64 != 56) = false := by simp; omega
      clear hend
      go_wp2_with fail
      refine (rbytes_any _ _).mono ?_
      rintro e w3 ⟨vb, rfl, hob, hb3⟩
      obtain ⟨gb, capb, rfl, hgb, hcb, hcmb, hskb⟩ := OwnK.cells hob (show 0 < 8 by decide)
      have HO3 := Lib.hid (HO.out.keep hb3)
      have HBx3 := Lib.hid (HBr.out.trans (hb3.mono HBr.out.size))
      have HBL := Lib.hid hskb
      have hbs := HBx3.out.size
      have hown := HO3.out.row hll
      have HLL := Lib.hid hll
      clear hskb hob hb3 HO HBr hll
      go_wp2_with (at_builtin; refine wpList_append_own _ rfl _ _ 63 rfl w.heap.size 5 i0 (.int .u8 0) 1 1 Tryd.underlying63 hi hz0 hz1 hz2 rfl (by decide) _ _ _ rfl hown ⟨gb, 0, none⟩ 8 capb ((be8 (8 * (n : Int))).map (.int .u8)) rfl (by simp [hn.out, be8_len]) (HBL.out.news) (ints_oneCell .u8 _) (by unfold maxLen padZ at *; omega) (by unfold padZ at *; omega) (by omega) ?_; intro v4 w4 hown2 hgrow2 _)
      have HO4 : Hid (OwnK .u8 5 w4 w.heap.size v4 (padL l)) := Lib.hid (by
        have h := OwnK.app (ys := be8 (8 * (n : Int))) HLL.out.symm rfl hown2
        have e : l ++ [128] ++ List.replicate (N - n - 1) 0 ++ be8 (8 * (n : Int)) = padL l := by
          rw [padL, hn.out, show N - n - 1 = padZ n by have := HN.out; omega]
        rwa [e] at h)
      have HBx4 : Hid (Below w.heap.size w w4) := Lib.hid (HO3.out.below0 HBx3.out hbs hgrow2)
      clear hown hown2 hgrow2 HO3 HBL HBx3 hbs HLL HN t1 t2
      go_wp2
      go_ret
      exact ⟨_, rfl, HO4.out, HBx4.out⟩
    · have hN : N < n + 1 + padZ n := by unfold padZ at hN1 hpz ⊢; omega
      have t1 : ((N : Int) % 64 == 56) = false := by simp; omega
      have t2 : ((N : Int) % 64 != 56) = true := by simp; omega
      have hown := HO.out.row hll
      have hbs := HBr.out.size
      have HLL := Lib.hid hll
      clear hend hll
      go_wp2_with (at_builtin; refine wpList_append_own _ rfl _ _ 63 rfl w.heap.size 5 i0 (.int .u8 0) 1 1 Tryd.underlying63 hi hz0 hz1 hz2 rfl (by decide) _ _ _ rfl (hown.alloc _) ⟨wr.heap.size, 0, none⟩ 1 1 [.int .u8 0] rfl rfl (cell_one_new _ _ _) (ints_oneCell .u8 [0]) (by unfold maxLen; omega) (by omega) (by simp; omega) ?_; intro v2 w2 hown2 hgrow2 _)
      have HO3 : Hid (OwnK .u8 5 w2 w.heap.size v2 (l ++ [128] ++ List.replicate (N + 1 - n - 1) 0)) := Lib.hid (by
        rw [show N + 1 - n - 1 = (N - n - 1) + 1 by omega, rep_succ, ← List.append_assoc]
        exact OwnK.app HLL.out.symm rfl hown2)
      have HBx3 : Hid (Below w.heap.size w w2) := Lib.hid (HO.out.below HBr.out hbs hgrow2)
      clear hown hown2 hgrow2 HO
      obtain ⟨A3, c3, e3, _⟩ := HO3.out.sk
      have e4 : (l ++ [128] ++ List.replicate (N + 1 - n - 1) 0).length = N + 1 := by simp [hn.out]; omega
      rw [e4] at e3
      subst e3
      clear e4
      go_wp2
      go_roundw
      case rel => exact ⟨N + 1, A3, c3, by omega, by omega, rfl, HO3, HBx3⟩
      case measure => simp [lenOf]; omega
theorem rconst_any (w : World) :
    Calls Tryd.prog 71 #[] w fun e w' => e = .returned (.slice (some ⟨w.heap.size, 0, none⟩) 64 64) ∧ w.alloc (.cells (arr .u32 KL) 104) = w' := by
  go_enter Tryd.func71, Tryd.ntmps71
  go_wp2
  go_ret
  exact ⟨rfl, rfl⟩
end Go.Proofs.YtofkihlpbfcdkaaDoor
namespace Go.Proofs.YtofkihlpbfcdkaaDoor
open Go.RowKit SpM
set_option linter.unusedVariables false
set_option linter.unusedSimpArgs false
inductive It where
  | int (n : Int)
  | byt (b : List Int)
  | lst (l : List It)
def fits : Nat → It → Prop
  | _, .int n => -9223372036854775808 ≤ n ∧ n < 9223372036854775808
  | _, .byt b => (0 < b.length ∧ b.length < 1000000) ∧ bytesB b = true
  | 0, .lst _ => False
  | d + 1, .lst l => l.length ≤ 1000 ∧ ∀ x ∈ l, fits d x
def be4 (n : Int) : List Int := [n / 16777216 % 256, n / 65536 % 256, n / 256 % 256, n % 256]
theorem be4_len (n : Int) : (be4 n).length = 4 := rfl
mutual
def enc : It → List Int
  | .int n => 1 :: be8 (n % 18446744073709551616)
  | .byt b => 2 :: (be4 b.length ++ b)
  | .lst l => 3 :: (be4 l.length ++ encL l)
def encL : List It → List Int
  | [] => []
  | i :: l => enc i ++ encL l
end
theorem encL_app (a b : List It) : encL (a ++ b) = encL a ++ encL b := by
  induction a with
  | nil => simp [encL]
  | cons x a ih => simp [encL, ih]
theorem encL_one (x : It) : encL [x] = enc x := by simp [encL]
theorem enc_int (n : Int) : enc (.int n) = 1 :: be8 (n % 18446744073709551616) := by simp [enc]
theorem enc_byt (b : List Int) : enc (.byt b) = 2 :: (be4 b.length ++ b) := by simp [enc]
theorem enc_lst (l : List It) : enc (.lst l) = 3 :: (be4 l.length ++ encL l) := by simp [enc]
theorem enc_pos (i : It) : 0 < (enc i).length := by cases i <;> simp [enc]
instance itInh : Inhabited It := ⟨.int 0⟩
theorem encL_take {l : List It} {k : Nat} (hk : k < l.length) : encL (l.take (k + 1)) = encL (l.take k) ++ enc (l.getD k default) := by
  rw [List.take_add_one, List.getElem?_eq_getElem hk, List.getD_eq_getElem?_getD, List.getElem?_eq_getElem hk, encL_app]
  simp [encL]
theorem encL_take_le {l : List It} {k : Nat} : (encL (l.take k)).length ≤ (encL l).length := by
  conv => rhs; rw [← List.take_append_drop k l]
  rw [encL_app, List.length_append]
  omega
theorem fits_mono {i : It} {d : Nat} (h : fits d i) : ∀ {e : Nat}, d ≤ e → fits e i := by
  induction d generalizing i with
  | zero =>
    intro e he
    cases i with
    | int n => cases e <;> exact h
    | byt b => cases e <;> exact h
    | lst l => exact absurd h (by simp [fits])
  | succ d ih =>
    intro e he
    cases i with
    | int n => cases e <;> exact h
    | byt b => cases e <;> exact h
    | lst l =>
      cases e with
      | zero => omega
      | succ e => exact ⟨h.1, fun x hx => ih (h.2 x hx) (by omega)⟩
theorem be4_bytes (n : Int) : bytesB (be4 n) = true := by simp [bytesB, be4, mod_byte]
theorem enc_bytes {d : Nat} {i : It} (h : fits d i) : bytesB (enc i) = true := by
  induction d generalizing i with
  | zero =>
    cases i with
    | int n => rw [enc_int, show (1 :: be8 (n % 18446744073709551616) : List Int) = [1] ++ be8 (n % 18446744073709551616) from rfl, bytesB_app, be8_bytes]; rfl
    | byt b => rw [enc_byt, show (2 :: (be4 b.length ++ b) : List Int) = [2] ++ (be4 b.length ++ b) from rfl, bytesB_app, bytesB_app, be4_bytes, h.2]; rfl
    | lst l => exact absurd h (by simp [fits])
  | succ d ih =>
    cases i with
    | int n => rw [enc_int, show (1 :: be8 (n % 18446744073709551616) : List Int) = [1] ++ be8 (n % 18446744073709551616) from rfl, bytesB_app, be8_bytes]; rfl
    | byt b => rw [enc_byt, show (2 :: (be4 b.length ++ b) : List Int) = [2] ++ (be4 b.length ++ b) from rfl, bytesB_app, bytesB_app, be4_bytes, h.2]; rfl
    | lst l =>
      rw [enc_lst, show (3 :: (be4 l.length ++ encL l) : List Int) = [3] ++ (be4 l.length ++ encL l) from rfl, bytesB_app, bytesB_app, be4_bytes]
      have hl : ∀ (m : List It), (∀ x ∈ m, fits d x) → bytesB (encL m) = true := by
        intro m hm
        induction m with
        | nil => rfl
        | cons x m ihm => rw [encL, bytesB_app, ih (hm x (by simp)), ihm (fun y hy => hm y (by simp [hy]))]; rfl
      rw [hl l h.2]; rfl
structure Ic where
  (kind n : Int)
  (B : Option Addr)
  (nb cb : Nat)
  (L : Option Addr)
  (nl cl : Nat)
def Ic.cs (c : Ic) : Array Value := #[.int .i64 c.kind, .int .i64 c.n, .slice c.B c.nb c.cb, .slice c.L c.nl c.cl]
def Ic.val (c : Ic) : Value := .agg c.cs
def Four (w : World) (b o : Nat) (c : Ic) : Prop := w.cell? ⟨b, o, none⟩ = some (.int .i64 c.kind) ∧ w.cell? ⟨b, o + 1, none⟩ = some (.int .i64 c.n) ∧ w.cell? ⟨b, o + 2, none⟩ = some (.slice c.B c.nb c.cb) ∧ w.cell? ⟨b, o + 3, none⟩ = some (.slice c.L c.nl c.cl)
theorem Four.below {w w' : World} {b o : Nat} {c : Ic} (h : Four w b o c) (hb : Below w.heap.size w w') : Four w' b o c :=
  ⟨cell_below h.1 hb, cell_below h.2.1 hb, cell_below h.2.2.1 hb, cell_below h.2.2.2 hb⟩
inductive ItR (w : World) : It → Ic → Prop
  | int (n : Int) (c : Ic) (h1 : c.kind = 1) (h2 : c.n = n) (h3 : c.nb = 0) (h4 : c.nl = 0) : ItR w (.int n) c
  | byt (b : List Int) (c : Ic) (h1 : c.kind = 2) (h2 : c.n = 0) (h3 : c.nb = b.length) (h4 : c.nl = 0) (h5 : Sk .u8 w c.B b) : ItR w (.byt b) c
  | lst (l : List It) (c : Ic) (h1 : c.kind = 3) (h2 : c.n = 0) (h3 : c.nb = 0) (h4 : c.nl = l.length) (f : Nat → Ic)
      (h5 : ∀ k, k < l.length → ∃ b o, c.L = some ⟨b, o, none⟩ ∧ Four w b (o + k * 4) (f k)) (h6 : ∀ k, k < l.length → ItR w (l.getD k default) (f k)) : ItR w (.lst l) c
theorem ItR.kept {w w' : World} {i : It} {c : Ic} (h : ItR w i c) (hb : Below w.heap.size w w') : ItR w' i c := by
  induction h with
  | int n c h1 h2 h3 h4 => exact .int n c h1 h2 h3 h4
  | byt b c h1 h2 h3 h4 h5 => exact .byt b c h1 h2 h3 h4 (h5.below hb)
  | lst l c h1 h2 h3 h4 f h5 h6 ih =>
    refine .lst l c h1 h2 h3 h4 f (fun k hk => ?_) ih
    obtain ⟨b, o, e, h⟩ := h5 k hk
    exact ⟨b, o, e, h.below hb⟩
end Go.Proofs.YtofkihlpbfcdkaaDoor
namespace Go.Proofs.YtofkihlpbfcdkaaDoor
open Go.RowKit SpM
set_option linter.unusedVariables false
set_option linter.unusedSimpArgs false
set_option maxRecDepth 100000
theorem grown_trans {w w1 w2 : World} {r r1 : Option Nat} (h : w.grownBy w1 r) (h2 : w1.grownBy w2 r1) (hr : r1 = r ∨ ∀ g, r1 = some g → w.heap.size ≤ g) : w.grownBy w2 r := by
  refine ⟨h2.os.trans h.os, h2.tape.trans h.tape, h2.output.trans h.output, Nat.le_trans h.size h2.size, fun k hk hne => ?_⟩
  refine (h2.block k (Nat.lt_of_lt_of_le hk h.size) ?_).trans (h.block k hk hne)
  intro e
  rcases hr with hr | hr
  · exact hne (by rw [e, hr])
  · have := hr k e.symm; omega
def App (base : Nat) (w : World) (v : Value) (xs ys : List Int) (w' : World) (v' : Value) : Prop :=
  OwnK .u8 5 w' base v' (xs ++ ys) ∧ w.grownBy w' v.ownBlock ∧ (v'.ownBlock = v.ownBlock ∨ ∀ g, v'.ownBlock = some g → w.heap.size ≤ g)
theorem App.refl {base : Nat} {w : World} {v : Value} {xs : List Int} (h : OwnK .u8 5 w base v xs) : App base w v xs [] w v :=
  ⟨by rw [List.append_nil]; exact h, World.grownBy.refl _ _, Or.inl rfl⟩
theorem App.trans {base : Nat} {w w1 w2 : World} {v v1 v2 : Value} {xs ys zs : List Int} (h : App base w v xs ys w1 v1) (h2 : App base w1 v1 (xs ++ ys) zs w2 v2) : App base w v xs (ys ++ zs) w2 v2 := by
  refine ⟨by rw [← List.append_assoc]; exact h2.1, grown_trans h.2.1 h2.2.1 h.2.2, ?_⟩
  rcases h2.2.2 with e | e
  · rcases h.2.2 with e1 | e1
    · exact Or.inl (e.trans e1)
    · exact Or.inr fun g hg => e1 g (e ▸ hg)
  · exact Or.inr fun g hg => Nat.le_trans h.2.1.size (e g hg)
theorem App.alloc {base : Nat} {w : World} {v : Value} {xs : List Int} (h : OwnK .u8 5 w base v xs) (o : Obj) : App base w v xs [] (w.alloc o) v :=
  ⟨by rw [List.append_nil]; exact h.keep (below_box0 _ _), World.grownBy_alloc _ _ _, Or.inl rfl⟩
theorem App.pre {base : Nat} {w w1 w2 : World} {v v1 v2 : Value} {xs ys : List Int} (h : App base w v xs [] w1 v1) (h2 : App base w1 v1 xs ys w2 v2) : App base w v xs ys w2 v2 := by
  have h3 : App base w v xs ([] ++ ys) w2 v2 := h.trans (by rw [List.append_nil]; exact h2)
  exact h3
theorem App.calm {base : Nat} {w w1 : World} {v : Value} {xs : List Int} (h : OwnK .u8 5 w base v xs) (hb : Below w.heap.size w w1) : App base w v xs [] w1 v :=
  ⟨by rw [List.append_nil]; exact h.keep hb, ⟨hb.os, hb.tape, hb.output, hb.size, fun k hk _ => hb.block k hk⟩, Or.inl rfl⟩
theorem App.below {B base : Nat} {w0 w w' : World} {v v' : Value} {xs ys : List Int} (h : App base w v xs ys w' v') (ho : OwnK .u8 5 w base v xs) (hb : Below B w0 w) (hB : B ≤ base) (hBw : B ≤ w.heap.size) : Below B w0 w' :=
  hb.grown h.2.1 hBw (fun j hj => Nat.le_trans hB (OwnK.lt ho j hj).1)
theorem App.cell {base : Nat} {w w' : World} {v v' : Value} {xs ys : List Int} (h : App base w v xs ys w' v') {p : Addr} {u : Value} (hc : w.cell? p = some u) (hne : v.ownBlock ≠ some p.block) : w'.cell? p = some u :=
  h.2.1.cell hc (Ne.symm hne)
theorem App.of_lies {base n m : Nat} {w w1 : World} {v : Value} {xs ys : List Int} {g cap H : Nat} (hn : xs.length = n) (hm : ys.length = m) (hH : w.heap.size = H)
    (h1 : w1.ownsRow base 5 1 (.slice (some ⟨g, 0, none⟩) (n + m) cap) (n + m) (xs.map (Value.int .u8) ++ ys.map (Value.int .u8))) (h2 : w.grownBy w1 v.ownBlock) (h3 : v.ownBlock = some g ∨ g = H) : App base w v xs ys w1 (.slice (some ⟨g, 0, none⟩) (n + m) cap) :=
  ⟨OwnK.app hn.symm hm.symm h1, h2, h3.elim (fun e => Or.inl e.symm) (fun e => Or.inr fun k hk => by cases hk; show w.heap.size ≤ g; omega)⟩
section
variable {P : Program}
theorem wpList_append_lies {ops : Array Oper} {rest : List Oper} {o : Oper} {a : Act} {w : World} {Q : Exit → Act → World → Prop} (hgd : o.guard = none) (s x : Operand) (t : TypeId)
    (ho : o.op = .call { callee := .builtin .append, args := #[s, x], argTypes := #[t, t] })
    (base : Nat) (e : TypeId) (i : TypeInfo) (z : Value) (size bytes : Nat) (ht : P.underlying t = some (.slice e)) (hi : P.info? e = some i) (hz : i.zero = some z)
    (hsize : i.size = size) (hby : i.bytes = bytes) (hzs : z.cells.size = size) (hsz : 0 < size)
    (v : Value) (n : Nat) (xs : List Value) (hs : a.eval s = v) (hown : w.ownsRow base e size v n xs)
    (ad : Addr) (m c : Nat) (news : List Value) (hx : a.eval x = .slice (some ad) m c) (hl : news.length = m * size) (hnews : ∀ j u, news[j]? = some u → w.cell? (ad.add j) = some u) (h1 : ∀ u ∈ news, u.oneCell' = true)
    (hm : 0 < m) (h63 : n + m ≤ maxLen) (hbytes : (n + m) * bytes ≤ 140737488355328) (hbase : base ≤ w.heap.size) (H : Nat) (hH : w.heap.size = H)
    (h : ∀ g cap w', w'.ownsRow base e size (.slice (some ⟨g, 0, none⟩) (n + m) cap) (n + m) (xs ++ news) → w.grownBy w' v.ownBlock → (v.ownBlock = some g ∨ g = H) → g < w'.heap.size → wpList P ops Q rest (a.put o.dst (.slice (some ⟨g, 0, none⟩) (n + m) cap)) w') :
    wpList P ops Q (o :: rest) a w :=
  wpList_plain hgd fun _ hK => wp_append_lies w s x t ho base e i z size bytes ht hi hz hsize hby hzs hsz v n xs hs hown ad m c news hx hl hnews h1 hm h63 hbytes hbase H hH fun g cap w' a1 a2 a3 a4 => hK _ _ (h g cap w' a1 a2 a3 a4)
end
def bes (s : Nat) (n : Int) : List Int := if s = 8 then be8 n else be4 n
theorem bes_len {s : Nat} (h : s = 4 ∨ s = 8) (n : Int) : (bes s n).length = s := by rcases h with rfl | rfl <;> rfl
theorem bes_get {s : Nat} (h : s = 4 ∨ s = 8) (n : Int) (j : Nat) (hj : j < s) : (bes s n).getD j 0 = n / 2 ^ (8 * (s - 1 - j)) % 256 := by
  rcases h with rfl | rfl
  · rcases (show j = 0 ∨ j = 1 ∨ j = 2 ∨ j = 3 by omega) with rfl | rfl | rfl | rfl <;> simp [bes, be4]
  · rcases (show j = 0 ∨ j = 1 ∨ j = 2 ∨ j = 3 ∨ j = 4 ∨ j = 5 ∨ j = 6 ∨ j = 7 by omega) with rfl | rfl | rfl | rfl | rfl | rfl | rfl | rfl <;> simp [bes, be8]
def AppOut (base : Nat) (v : Value) (xs ys : List Int) (w : World) (e : Ending) (w' : World) : Prop := ∃ v', e = .returned v' ∧ App base w v xs ys w' v'
set_option maxHeartbeats 1600000 in
theorem enumber_any (base : Nat) (v : Value) (xs : List Int) (N : Nat) (n : Int) (s : Nat) (hs : s = 4 ∨ s = 8) (hN : Hid (xs.length = N)) (hbig : N ≤ 20000) (w : World) (ho : Hid (OwnK .u8 5 w base v xs)) (hbase : base ≤ w.heap.size) :
    Calls Tryd.prog 82 #[v, .int .u64 n, .int .i64 s] w (AppOut base v xs (bes s n) w) := by
  obtain ⟨i0, hi, hz0, hz1, hz2⟩ := info_parts byteInfo
  have s1 : 4 ≤ s := by omega
  have s2 : s ≤ 8 := by omega
  have HSS := Lib.hid hs
  clear hs
  go_enter Tryd.func82, Tryd.ntmps82
  go_wp2
  go_loopw [0, 7] (fun p i u => ∃ k : Nat, k ≤ s ∧ i = .int .i64 ((s : Int) - 1 - (k : Int)) ∧ Hid (App base w v xs ((bes s n).take k) u p)) (fun _ i _ => (intOf i + 1).toNat)
  case atStart => exact ⟨0, by omega, by simp, Lib.hid (App.refl ho.out)⟩
  case round =>
    obtain ⟨k, hk, rfl, HA⟩ := hrel
    by_cases hlt : k < s
    · obtain ⟨q, hq⟩ : ∃ q, n / 2 ^ (8 * (s - 1 - k)) = q := ⟨_, rfl⟩
      have HTK : Hid ((bes s n).take (k + 1) = (bes s n).take k ++ [q % 256]) := Lib.hid (by rw [take_one (by rw [bes_len HSS.out]; exact hlt), bes_get HSS.out n k hlt, hq])
      have HLN : Hid ((xs ++ (bes s n).take k).length = N + k) := Lib.hid (by rw [List.length_append, List.length_take, bes_len HSS.out, hN.out]; omega)
      have j0 : (0 : Int) ≤ 8 * ((s : Int) - 1 - (k : Int)) := by omega
      have j1 : (8 * ((s : Int) - 1 - (k : Int))).toNat = 8 * (s - 1 - k) := by omega
      have hown := (HA.out.1.row HLN.out)
      have hbs : base ≤ wr.heap.size := Nat.le_trans hbase HA.out.2.1.size
      have d1 : (0 : Int) ≤ (s : Int) - 1 - (k : Int) := by omega
      go_wp2_with (at_builtin; refine wpList_append_lies rfl _ _ 63 rfl base 5 i0 (.int .u8 0) 1 1 Tryd.underlying63 hi hz0 hz1 hz2 rfl (by decide) _ _ _ rfl (hown.alloc _) ⟨wr.heap.size, 0, none⟩ 1 1 [.int .u8 (q % 256)] rfl rfl (cell_one_new _ _ _) (ints_oneCell .u8 [q % 256]) (by decide) (by unfold maxLen; omega) (by omega) (by simp; omega) _ rfl ?_; intro g cap w2 hown2 hgrow2 hat2 hlt2)
      have HA2 := App.of_lies (v := u0) (xs := xs ++ (bes s n).take k) (ys := [q % 256]) HLN.out rfl rfl hown2 hgrow2 hat2
      have HA3 : Hid (App base w v xs ((bes s n).take (k + 1)) w2 (.slice (some ⟨g, 0, none⟩) (N + k + 1) cap)) := Lib.hid (by
        rw [HTK.out]
        exact HA.out.trans ((App.alloc HA.out.1 _).pre HA2))
      clear hown hown2 hgrow2 hat2 HA HA2
      go_roundw
      case rel => exact ⟨k + 1, by omega, by go_num, HA3⟩
      case measure => simp [intOf]; omega
    · have HF : Hid (App base w v xs (bes s n) wr u0) := Lib.hid (by
        have h := HA.out
        rwa [show k = (bes s n).length by rw [bes_len HSS.out]; omega, List.take_length] at h)
      have d1 : (s : Int) - 1 - (k : Int) < 0 := by omega
      clear HA
      go_wp2
      go_ret
      exact ⟨_, rfl, HF.out⟩
end Go.Proofs.YtofkihlpbfcdkaaDoor
