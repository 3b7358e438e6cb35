/- Contracts and lemmas: Byt, DigA, DigB, DigC, LawKitD, Held, Bx, LinA, LinB, LinC, LinD, LinE, LinF, LinG. -/
import Derived.BigRegion
import Derived.Deep.WholeRow
import Derived.Deep.Cut
import Derived.ChangeMaps5
import Derived.Deep.RegionHeld3
import Derived.Deep.AppendLies
import Derived.Test.YtbljkkpnpcgjfaaGreatDoorTs1
set_option linter.unusedVariables false
set_option linter.unusedSimpArgs false
set_option maxRecDepth 100000
set_option maxHeartbeats 25600000
namespace Go.Proofs.YtbljkkpnpcgjfaaGreatDoor
open Go.RowKit rM
def Sk (K : IntKind) (w : World) (A : Option Addr) (xs : List Int) : Prop := ∀ j, j < xs.length → ∃ b o, A = some ⟨b, o, none⟩ ∧ w.cell? ⟨b, o + j, none⟩ = some (.int K (xs.getD j 0))
variable {K : IntKind}
theorem WW (w : World) (A : Option Addr) : Sk K w A [] := fun k hk => absurd hk (by simp)
theorem Sk.below {w w' : World} {A : Option Addr} {xs : List Int} (h : Sk K w A xs) (hb : Below w.heap.size w w') : Sk K w' A xs := fun k hk => by
 obtain ⟨b, o, h1, h2⟩ := h k hk
 exact ⟨b, o, h1, (hb.cell (World.block_lt_of_cell? _ _ h2)).trans h2⟩
theorem Sk.at0 {w : World} {A : Option Addr} {xs : List Int} (h : Sk K w A xs) (h0 : 0 < xs.length) : ∃ b o, A = some ⟨b, o, none⟩ ∧ ∀ j, j < xs.length → w.cell? ⟨b, o + j, none⟩ = some (.int K (xs.getD j 0)) := by
 obtain ⟨b, o, rfl, _⟩ := h 0 h0
 exact ⟨b, o, rfl, fun j hj => by
  obtain ⟨b', o', e, hc⟩ := h j hj
  cases e
  exact hc⟩
theorem Sk.lt {w : World} {b o : Nat} {xs : List Int} (h : Sk K w (some ⟨b, o, none⟩) xs) (h0 : 0 < xs.length) : b < w.heap.size := by
 obtain ⟨b', o', e, hc⟩ := h 0 h0
 cases e
 exact World.block_lt_of_cell? _ _ hc
theorem Sk.cell {w : World} {b o : Nat} {xs : List Int} (h : Sk K w (some ⟨b, o, none⟩) xs) {j : Nat} (hj : j < xs.length) : w.cell? ⟨b, o + j, none⟩ = some (.int K (xs.getD j 0)) := by
 obtain ⟨b', o', e, hc⟩ := h j hj
 cases e
 exact hc
theorem Sk.drop {w : World} {b o n : Nat} {xs : List Int} (h : Sk K w (some ⟨b, o, none⟩) xs) : Sk K w (some ⟨b, o + n, none⟩) (xs.drop n) := fun j hj => by
 rw [List.length_drop] at hj
 refine ⟨b, o + n, rfl, ?_⟩
 rw [Nat.add_assoc, h.cell (j := n + j) (by omega)]
 simp [List.getD_eq_getElem?_getD, List.getElem?_drop]
theorem Sk.take {w : World} {A : Option Addr} {n : Nat} {xs : List Int} (h : Sk K w A xs) : Sk K w A (xs.take n) := fun j hj => by
 rw [List.length_take] at hj
 obtain ⟨b, o, h1, h2⟩ := h j (by omega)
 refine ⟨b, o, h1, ?_⟩
 rw [h2]
 simp [List.getD_eq_getElem?_getD, List.getElem?_take_of_lt (show j < n by omega)]
theorem Sk.nil_of {w : World} {A : Option Addr} {xs : List Int} (h : xs.length = 0) : Sk K w A xs := fun k hk => by omega
def bW (K : IntKind) (T : TypeId) (w : World) (base : Nat) (v : Value) (xs : List Int) : Prop := w.ownsRow base T 1 v xs.length (xs.map (Value.int K))
variable {T : TypeId}
theorem zU (w : World) (base : Nat) : bW K T w base (.slice none 0 0) [] := World.ownsRow_nil _ _ _ _
theorem bW.app {w1 : World} {base k : Nat} {v' : Value} {xs ys : List Int} {m : Nat} (hk : k = xs.length) (hm : m = ys.length)
  (h : w1.ownsRow base T 1 v' (k + m) (xs.map (Value.int K) ++ ys.map (Value.int K))) : bW K T w1 base v' (xs ++ ys) := by
 unfold bW
 rw [List.length_append, List.map_append, ← hk, ← hm]
 exact h
theorem bW.below {w w1 wr : World} {B : Nat} {o : Obj} {v : Value} {xs : List Int} (h : bW K T wr B v xs) (hb : Below B w wr) (hB : B ≤ wr.heap.size) (hg : (wr.alloc o).grownBy w1 v.ownBlock) : Below B w w1 :=
 (hb.alloc hB o).grown hg (by simp; omega) (fun j hj => (World.ownsRow.lt h j hj).1)
theorem bW.below0 {w w1 wr : World} {B : Nat} {v : Value} {xs : List Int} (h : bW K T wr B v xs) (hb : Below B w wr) (hB : B ≤ wr.heap.size) (hg : wr.grownBy w1 v.ownBlock) : Below B w w1 :=
 hb.grown hg (by omega) (fun j hj => (World.ownsRow.lt h j hj).1)
theorem bW.cells {w : World} {B : Nat} {v : Value} {xs : List Int} (h : bW K T w B v xs) (hne : 0 < xs.length) : ∃ g cap, v = .slice (some ⟨g, 0, none⟩) xs.length cap ∧ B ≤ g ∧ xs.length ≤ cap ∧ cap ≤ maxLen ∧ Sk K w (some ⟨g, 0, none⟩) xs := by
 obtain ⟨h1, h2⟩ := h
 rcases h2 with ⟨_, h0⟩ | ⟨g, cap, cur, rfl, hg, hh, hn, hc, hs, ht⟩
 · omega
 ·
  refine ⟨g, cap, rfl, hg, hn, hc, fun j hj => ⟨g, 0, rfl, ?_⟩⟩
  rw [Nat.zero_add, aj hh]
  have e : cur.toList[j]? = (xs.map (Value.int K))[j]? := by
   rw [← ht, List.getElem?_take_of_lt (by omega)]
  rw [← Array.getElem?_toList, e, List.getElem?_map, List.getElem?_eq_getElem hj, List.getD_eq_getElem?_getD, List.getElem?_eq_getElem hj]
  rfl
theorem bW.sk {w : World} {B : Nat} {v : Value} {xs : List Int} (h : bW K T w B v xs) : ∃ A c, v = .slice A xs.length c ∧ Sk K w A xs ∧ (0 < xs.length → ∃ g, A = some ⟨g, 0, none⟩ ∧ B ≤ g) ∧ xs.length ≤ c := by
 by_cases h0 : 0 < xs.length
 ·
  obtain ⟨g, cap, rfl, hg, hn, _, hc⟩ := bW.cells h h0
  exact ⟨some ⟨g, 0, none⟩, cap, rfl, hc, fun _ => ⟨g, rfl, hg⟩, hn⟩
 ·
  have e : xs = [] := List.eq_nil_of_length_eq_zero (by omega)
  subst e
  obtain ⟨_, h2⟩ := h
  rcases h2 with ⟨hv, _⟩ | ⟨g, cap, cur, hv, _⟩
  · exact ⟨none, 0, hv, WW _ _, fun h => absurd h (by simp), by simp⟩
  · exact ⟨_, cap, hv, WW _ _, fun h => absurd h (by simp), by simp⟩
theorem bW.keep {w w' : World} {B : Nat} {v : Value} {xs : List Int} (h : bW K T w B v xs) (hb : Below w.heap.size w w') : bW K T w' B v xs := by
 obtain ⟨h1, h2⟩ := h
 refine ⟨h1, h2.imp id ?_⟩
 rintro ⟨g, cap, cur, rfl, hg, hh, rest⟩
 exact ⟨g, cap, cur, rfl, hg, (hb.block g (Array.getElem?_eq_some_iff.1 hh).1).trans hh, rest⟩
theorem bW.mono {w : World} {B B' : Nat} {v : Value} {xs : List Int} (h : bW K T w B v xs) (hb : B' ≤ B) : bW K T w B' v xs := by
 obtain ⟨h1, h2⟩ := h
 refine ⟨h1, h2.imp id ?_⟩
 rintro ⟨g, cap, cur, rfl, hg, rest⟩
 exact ⟨g, cap, cur, rfl, by omega, rest⟩
theorem bW.row {w : World} {B n : Nat} {v : Value} {xs : List Int} (h : bW K T w B v xs) (hn : xs.length = n) : w.ownsRow B T 1 v n (xs.map (Value.int K)) := by
 subst hn; exact h
theorem bW.lt {w : World} {B : Nat} {v : Value} {xs : List Int} (h : bW K T w B v xs) (j : Nat) (hj : v.ownBlock = some j) : B ≤ j ∧ j < w.heap.size := World.ownsRow.lt h j hj
def VI (K : IntKind) (T : TypeId) (xs : List Int) (w : World) (e : Ending) (w' : World) : Prop := ∃ v, e = .returned v ∧ bW K T w' w.heap.size v xs ∧ Below w.heap.size w w'
theorem CF {xs ys : List Int} {j : Nat} (h : j < xs.length) : (xs ++ ys).getD j 0 = xs.getD j 0 := by
 simp [List.getD_eq_getElem?_getD, List.getElem?_append_left h]
theorem CE {xs ys : List Int} {j : Nat} (h : xs.length ≤ j) : (xs ++ ys).getD j 0 = ys.getD (j - xs.length) 0 := by
 simp [List.getD_eq_getElem?_getD, List.getElem?_append_right h]
theorem take_one {xs : List Int} {k : Nat} (hk : k < xs.length) : xs.take (k + 1) = xs.take k ++ [xs.getD k 0] := by
 rw [List.take_add_one, List.getElem?_eq_getElem hk, List.getD_eq_getElem?_getD, List.getElem?_eq_getElem hk]
 rfl
def arr (K : IntKind) (l : List Int) : Array Value := (l.map (Value.int K)).toArray
theorem bD (l : List Int) : (arr K l).size = l.length := by simp [arr]
def cK (K : IntKind) (T : TypeId) (w : World) (b : Nat) (l : List Int) : Prop := w.heap[b]? = some (.cells (arr K l) T (0, 0))
theorem cK.below {w w' : World} {b : Nat} {l : List Int} (h : cK K T w b l) (hb : Below w.heap.size w w') : cK K T w' b l :=
 (hb.block b (Array.getElem?_eq_some_iff.1 h).1).trans h
theorem cK.keepB {w w' : World} {b B : Nat} {l : List Int} (h : cK K T w b l) (hlt : b < B) (hb : Below B w w') : cK K T w' b l := (hb.block b hlt).trans h
theorem cK.lt {w : World} {b : Nat} {l : List Int} (h : cK K T w b l) : b < w.heap.size := (Array.getElem?_eq_some_iff.1 h).1
theorem yU {l : List Int} {j : Nat} (hj : j < l.length) : (arr K l)[j]? = some (.int K (l.getD j 0)) := by
 simp [arr, List.getD_eq_getElem?_getD, List.getElem?_eq_getElem hj]
theorem cK.cell {w : World} {b j : Nat} {l : List Int} (h : cK K T w b l) (hj : j < l.length) : w.cell? ⟨b, j, none⟩ = some (.int K (l.getD j 0)) := (aj h j).trans (yU hj)
theorem cK.free {w : World} {b : Nat} {l : List Int} (h : cK K T w b l) (j : Nat) : w.frozen? ⟨b, j, none⟩ = false := aS h j
theorem MN {l : List Int} {j : Nat} {v : Int} : (arr K l).setIfInBounds j (.int K v) = arr K (l.set j v) := by
 apply Array.ext'
 simp [arr, List.map_set]
theorem cK.set {w : World} {b j : Nat} {l : List Int} {v : Int} (h : cK K T w b l) : cK K T (w.setCell ⟨b, j, none⟩ (.int K v)) b (l.set j v) := by
 unfold cK
 rw [heap_setCell_same w b j _ T _ h, MN]
theorem cK.set_ne {w : World} {b a j : Nat} {l : List Int} {v : Value} (h : cK K T w b l) (hne : b ≠ a) : cK K T (w.setCell ⟨a, j, none⟩ v) b l :=
 (heap_setCell_other w _ b v hne).trans h
theorem cK.setRow {w : World} {b : Nat} {l l' : List Int} (h : cK K T w b l) : cK K T (w.setRow b (arr K l')) b l' := setRow_heap w b _ _ T _ h
theorem cK.new (w : World) (l : List Int) : cK K T (w.alloc (.cells (arr K l) T)) w.heap.size l := heap_alloc_new _ _
theorem cK.old {w : World} {b : Nat} {l : List Int} (h : cK K T w b l) (o : Obj) : cK K T (w.alloc o) b l := (Below.heap_alloc w o b h.lt).trans h
theorem cK.drew {w : World} {b : Nat} {l : List Int} (h : cK K T w b l) (n : Nat) : cK K T (w.drewN n) b l := h.below (ay (Below.refl _ _) n)
theorem cK.sk {w : World} {b : Nat} {l : List Int} (h : cK K T w b l) : Sk K w (some ⟨b, 0, none⟩) l := fun j hj => ⟨b, 0, rfl, by rw [Nat.zero_add]; exact h.cell hj⟩
theorem dQ (l : List Int) : (arr K l).all (·.oneCell') = true := by simp [arr, Value.oneCell']
theorem aD {B b : Nat} {w0 w : World} {cs : Array Value} (h : Below B w0 w) (hb : B ≤ b) : Below B w0 (w.setRow b cs) :=
 h.trans ⟨rfl, rfl, rfl, by simp [World.setRow], fun k hk => setRow_other w b k cs (by omega)⟩
end Go.Proofs.YtbljkkpnpcgjfaaGreatDoor
namespace Go.Proofs.YtbljkkpnpcgjfaaGreatDoor
open Go.RowKit
theorem RU : ∀ n : Nat, n < 32 → 1 ≤ n → bits .and .u64 (IntKind.u64.wrap (-(n : Int))) 31 = 32 - (n : Int) := by decide
theorem kG (x : Int) : IntKind.u32.wrap x = x % 4294967296 := by simp [IntKind.wrap, IntKind.bits, IntKind.signed]
theorem Ld (x m s : Int) (n : Nat) (hs : Hid (bits .and .u64 (IntKind.u64.wrap m) 31 = s)) (hn : Hid (s = 32 - n)) (h0 : 0 ≤ s) (h1 : s ≤ 31) (w : World) :
  Calls Tryz.prog 169 #[.int .u32 x, .int .i64 m] w fun e w' => e = .returned (.int .u32 (iY x n)) ∧ w = w' := by
 have g1 : IntKind.u64.wrap (32 - s) = 32 - s := by simp [IntKind.wrap, IntKind.bits, IntKind.signed]; omega
 have g2 : 0 ≤ 32 - s := by omega
 have hs' := hs.out
 have HR : Hid (bits .or .u32 (x * 2 ^ s.toNat % 4294967296) (x / 2 ^ (32 - s).toNat) = iY x n) := aa (by
  have e1 : s.toNat = 32 - n := by have := hn.out; omega
  have e2 : (32 - s).toNat = n := by have := hn.out; omega
  rw [e1, e2, iY, yT, kG])
 clear hs hn
 go_in
 go_wp2
 go_ret
 exact ⟨by rw [HR.out]; rfl, rfl⟩
theorem iN (x N : Int) (n : Nat) (hN : N = n) (h1 : 1 ≤ n) (h2 : n < 32) (w : World) :
  Calls Tryz.prog 154 #[.int .u32 x, .int .i64 N] w fun e w' => e = .returned (.int .u32 (iY x n)) ∧ w = w' := by
 subst hN
 have HS := aa (RU n h2 h1)
 have hm' : wrap64 (-(n : Int)) = -(n : Int) := IntWalk.wrap64_in _ (by omega)
 go_in
 go_wp2_with fail
 refine (Ld x _ _ n HS (aa rfl) (by omega) (by omega) _).mono ?_
 rintro e w' ⟨rfl, rfl⟩
 go_wp2
 go_ret
 exact ⟨rfl, rfl⟩
theorem Ff (x N : Int) (h1 : 1 ≤ N) (h2 : N < 32) (w : World) :
  Calls Tryz.prog 154 #[.int .u32 x, .int .i64 N] w fun e w' => e = .returned (.int .u32 (iY x N.toNat)) ∧ w = w' :=
 iN x N N.toNat (by omega) (by omega) (by omega) w
end Go.Proofs.YtbljkkpnpcgjfaaGreatDoor
namespace Go.Proofs.YtbljkkpnpcgjfaaGreatDoor
open Go.RowKit rM
theorem Lu {p c : Int} (h0 : 0 ≤ p) (h1 : p < 16777216) (c0 : 0 ≤ c) (c1 : c < 256) : bits .or .u32 (p * 256) c = p * 256 + c := by
 obtain ⟨P, rfl⟩ := Int.eq_ofNat_of_zero_le h0
 obtain ⟨C, rfl⟩ := Int.eq_ofNat_of_zero_le c0
 have e1 : ((P : Int) * 256) = ((P * 256 : Nat) : Int) := by omega
 rw [e1, u32_or _ _ (by omega) (by omega) (by omega) (by omega)]
 have e2 : 2 ^ 8 * P + C = 2 ^ 8 * P ||| C := Nat.two_pow_add_eq_or_of_lt (by omega) P
 have e3 : P * 256 ||| C = P * 256 + C := by rw [show P * 256 = 2 ^ 8 * P by omega, ← e2]
 simp only [Int.toNat_natCast]
 rw [e3]
 omega
def part (b : List Int) (i : Nat) : Nat → Int
 | 0 => 0
 | m + 1 => part b i m * 256 + lU b (4 * i + m)
theorem QI (b : List Int) (i : Nat) : part b i 4 = zC b i := by simp [part, zC]
theorem Lr {b : List Int} (h : aH b = true) (i m : Nat) : 0 ≤ part b i m := by
 induction m with
 | zero => exact Int.le_refl _
 | succ m ih => have := (iD h (4 * i + m)).1; simp only [part, lU]; omega
theorem Ls {b : List Int} (h : aH b = true) (i m : Nat) (hm : m ≤ 3) : part b i m < 16777216 := by
 have h0 := iD h (4 * i)
 have h1 := iD h (4 * i + 1)
 have h2 := iD h (4 * i + 2)
 rcases (show m = 0 ∨ m = 1 ∨ m = 2 ∨ m = 3 by omega) with rfl | rfl | rfl | rfl
 · simp [part]
 · simp only [part, lU, Nat.add_zero]; omega
 · simp only [part, lU, Nat.add_zero]; omega
 · simp only [part, lU, Nat.add_zero]; omega
def aZ (n : Nat) : List Int := List.replicate n 0
theorem Nw : (#[.int .u32 0, .int .u32 0, .int .u32 0, .int .u32 0, .int .u32 0, .int .u32 0, .int .u32 0, .int .u32 0, .int .u32 0, .int .u32 0, .int .u32 0, .int .u32 0, .int .u32 0, .int .u32 0, .int .u32 0, .int .u32 0, .int .u32 0, .int .u32 0, .int .u32 0, .int .u32 0, .int .u32 0, .int .u32 0, .int .u32 0, .int .u32 0, .int .u32 0, .int .u32 0, .int .u32 0, .int .u32 0, .int .u32 0, .int .u32 0, .int .u32 0, .int .u32 0, .int .u32 0, .int .u32 0, .int .u32 0, .int .u32 0, .int .u32 0, .int .u32 0, .int .u32 0, .int .u32 0, .int .u32 0, .int .u32 0, .int .u32 0, .int .u32 0, .int .u32 0, .int .u32 0, .int .u32 0, .int .u32 0, .int .u32 0, .int .u32 0, .int .u32 0, .int .u32 0, .int .u32 0, .int .u32 0, .int .u32 0, .int .u32 0, .int .u32 0, .int .u32 0, .int .u32 0, .int .u32 0, .int .u32 0, .int .u32 0, .int .u32 0, .int .u32 0] : Array Value) = arr .u32 (aZ 64) := by rfl
def wz (l : List Int) : List Int := l ++ aZ (64 - l.length)
theorem BC {l : List Int} (h : l.length ≤ 64) : (wz l).length = 64 := by simp [wz, aZ]; omega
theorem GQ {l : List Int} {x : Int} (h : l.length < 64) : (wz l).set l.length x = wz (l ++ [x]) := by
 obtain ⟨m, hm⟩ : ∃ m, 64 - l.length = m + 1 := ⟨63 - l.length, by omega⟩
 have hm2 : 64 - (l ++ [x]).length = m := by rw [List.length_append, List.length_singleton]; omega
 rw [wz, wz, hm, hm2, aZ, List.replicate_succ, List.set_append_right _ _ (Nat.le_refl _), Nat.sub_self, List.set_cons_zero]
 simp [aZ]
theorem Qv {l : List Int} : (wz l).getD l.length 0 = 0 := by
 rw [wz, CE (Nat.le_refl _), Nat.sub_self, aZ, List.getD_eq_getElem?_getD, List.getElem?_replicate]
 split <;> rfl
theorem NI {l : List Int} {j : Nat} (h : j < l.length) : (wz l).getD j 0 = l.getD j 0 := CF h
theorem set_self {l : List Int} {k : Nat} {x : Int} (h : l.getD k 0 = x) : l.set k x = l := by
 by_cases hk : k < l.length
 ·
  rw [List.getD_eq_getElem?_getD, List.getElem?_eq_getElem hk] at h
  subst h
  exact List.set_getElem_self hk
 · exact List.set_eq_of_length_le (by omega)
theorem Ap {l : List Int} {k : Nat} {x : Int} (h : k < l.length) : (l.set k x).getD k 0 = x := by
 simp [List.getD_eq_getElem?_getD, h]
theorem GR (b : List Int) : wz (oP 48 (eu b 16)) = di b := by
 have h := lG b
 unfold di at h ⊢
 unfold wz
 rw [h]
 simp [aZ]
theorem Oh : (Tryz.prog.info? 191).map (·.size) = some 64 := by kernel_rfl
theorem lF (b : List Int) : (Tryz.prog.info? 191).map (·.size) = some (arr .u32 (di b)).size := Oh.trans (congrArg some (by rw [bD, lG]))
theorem zN (b : List Int) : (arr .u32 (aZ 64)).size = (arr .u32 (di b)).size := by rw [bD, bD, lG]; rfl
theorem E9 (b o cap : Nat) (blk : List Int) (hlen : Hid (blk.length = 64)) (hby : Hid (aH blk = true)) (w : World) (hs : Hid (Sk .u8 w (some ⟨b, o, none⟩) blk)) (hcap : 64 ≤ cap) (hcm : cap ≤ 9223372036854775807) :
  Calls Tryz.prog 153 #[.slice (some ⟨b, o, none⟩) 64 cap] w (Rt w (.agg (arr .u32 (di blk)))) := by
 obtain ⟨W, hW⟩ : ∃ W, (w.alloc (.cells #[.int .u32 0, .int .u32 0, .int .u32 0, .int .u32 0, .int .u32 0, .int .u32 0, .int .u32 0, .int .u32 0, .int .u32 0, .int .u32 0, .int .u32 0, .int .u32 0, .int .u32 0, .int .u32 0, .int .u32 0, .int .u32 0, .int .u32 0, .int .u32 0, .int .u32 0, .int .u32 0, .int .u32 0, .int .u32 0, .int .u32 0, .int .u32 0, .int .u32 0, .int .u32 0, .int .u32 0, .int .u32 0, .int .u32 0, .int .u32 0, .int .u32 0, .int .u32 0, .int .u32 0, .int .u32 0, .int .u32 0, .int .u32 0, .int .u32 0, .int .u32 0, .int .u32 0, .int .u32 0, .int .u32 0, .int .u32 0, .int .u32 0, .int .u32 0, .int .u32 0, .int .u32 0, .int .u32 0, .int .u32 0, .int .u32 0, .int .u32 0, .int .u32 0, .int .u32 0, .int .u32 0, .int .u32 0, .int .u32 0, .int .u32 0, .int .u32 0, .int .u32 0, .int .u32 0, .int .u32 0, .int .u32 0, .int .u32 0, .int .u32 0, .int .u32 0] 191)).alloc (.cells #[.int .u32 0, .int .u32 0, .int .u32 0, .int .u32 0, .int .u32 0, .int .u32 0, .int .u32 0, .int .u32 0, .int .u32 0, .int .u32 0, .int .u32 0, .int .u32 0, .int .u32 0, .int .u32 0, .int .u32 0, .int .u32 0, .int .u32 0, .int .u32 0, .int .u32 0, .int .u32 0, .int .u32 0, .int .u32 0, .int .u32 0, .int .u32 0, .int .u32 0, .int .u32 0, .int .u32 0, .int .u32 0, .int .u32 0, .int .u32 0, .int .u32 0, .int .u32 0, .int .u32 0, .int .u32 0, .int .u32 0, .int .u32 0, .int .u32 0, .int .u32 0, .int .u32 0, .int .u32 0, .int .u32 0, .int .u32 0, .int .u32 0, .int .u32 0, .int .u32 0, .int .u32 0, .int .u32 0, .int .u32 0, .int .u32 0, .int .u32 0, .int .u32 0, .int .u32 0, .int .u32 0, .int .u32 0, .int .u32 0, .int .u32 0, .int .u32 0, .int .u32 0, .int .u32 0, .int .u32 0, .int .u32 0, .int .u32 0, .int .u32 0, .int .u32 0] 191) = W := ⟨_, rfl⟩
 have dR : Hid (Below w.heap.size w W) := aa (by rw [← hW]; exact aB (Below.refl _ _))
 have HB0 : Hid (cK .u32 191 W (w.heap.size + 1) (wz (eu blk 0))) := aa (by
  rw [← hW, Nw]
  exact heap_alloc2_new _ _ _)
 have dY : Hid (cK .u32 191 W w.heap.size (aZ 64)) := aa (by
  rw [← hW, Nw]
  exact heap_alloc2_old _ _ _)
 have qj : Hid (W.heap.size = w.heap.size + 2) := aa (by rw [← hW]; simp)
 have HS := aa hs.out
 have HW := aa hW
 clear hW hs
 go_in
 go_wp2
 rw [HW.out]
 go_loopw [12] (fun i wr => ∃ k : Nat, k ≤ 16 ∧ i = .int .i64 k ∧ Hid (cK .u32 191 wr (w.heap.size + 1) (wz (eu blk k))) ∧ Hid (Below (w.heap.size + 1) W wr)) (fun i _ => 16 - (intOf i).toNat)
 case atStart => exact ⟨0, by omega, rfl, HB0, aa (Below.refl _ _)⟩
 case round =>
  obtain ⟨k, hk, rfl, HB, aF⟩ := hrel
  by_cases hlt : k < 16
  ·
   clear HW
   have Tq : Hid (cK .u32 191 wr (w.heap.size + 1) ((wz (eu blk k)).set k (part blk k 0))) := aa (by
    rw [set_self (by have := Qv (l := eu blk k); rwa [gy] at this)]
    exact HB.out)
   go_wp2
   go_loopw [23] (fun j u => ∃ m : Nat, m ≤ 4 ∧ j = .int .i64 m ∧ Hid (cK .u32 191 u (w.heap.size + 1) ((wz (eu blk k)).set k (part blk k m))) ∧ Hid (Below (w.heap.size + 1) W u)) (fun j _ => 4 - (intOf j).toNat)
   case atStart => exact ⟨0, by omega, rfl, Tq, aF⟩
   case round =>
    obtain ⟨m, hm, rfl, xI, nG⟩ := hrel
    by_cases hlm : m < 4
    ·
     have hc0 := xI.out.cell (j := k) (by rw [List.length_set, BC (by rw [gy]; omega)]; omega)
     rw [Ap (by rw [BC (by rw [gy]; omega)]; omega)] at hc0
     have hf0 := xI.out.free k
     have hc1 := (HS.out.below (dR.out.trans (nG.out.mono (Nat.le_succ _)))).cell (j := 4 * k + m) (by have := hlen.out; omega)
     obtain ⟨c0, c1⟩ := iD hby.out (4 * k + m)
     have hpn : part blk k (m + 1) = part blk k m * 256 + blk.getD (4 * k + m) 0 := rfl
     have p0 := Lr hby.out k m
     have p1 := Ls hby.out k m (by omega)
     obtain ⟨c, hcc⟩ : ∃ c, blk.getD (4 * k + m) 0 = c := ⟨_, rfl⟩
     rw [hcc] at hc1 c0 c1 hpn
     rw [← Nat.add_assoc] at hc1
     obtain ⟨p, hp⟩ : ∃ p, part blk k m = p := ⟨_, rfl⟩
     rw [hp] at hc0 p0 p1 hpn
     have hor := Lu p0 p1 c0 c1
     obtain ⟨q, hq⟩ : ∃ q, p * 256 + c = q := ⟨_, rfl⟩
     rw [hq] at hor hpn
     have HB2 : Hid (cK .u32 191 (wr.setCell ⟨w.heap.size + 1, k, none⟩ (.int .u32 q)) (w.heap.size + 1) ((wz (eu blk k)).set k (part blk k (m + 1)))) := aa (by
      rw [hpn]
      have h := xI.out.set (j := k) (v := q)
      rwa [List.set_set] at h)
     have vo : Hid (Below (w.heap.size + 1) W (wr.setCell ⟨w.heap.size + 1, k, none⟩ (.int .u32 q))) := aa (nG.out.setCell (Nat.le_refl _) _)
     clear hcc hp hq hpn xI nG
     go_wp2
     go_roundw
     case rel => exact ⟨m + 1, by omega, by go_num, HB2, vo⟩
     case measure => simp [intOf]; omega
    ·
     obtain rfl : m = 4 := by omega
     have HB2 : Hid (cK .u32 191 wr (w.heap.size + 1) (wz (eu blk (k + 1)))) := aa (by
      have h := xI.out
      have e := GQ (l := eu blk k) (x := zC blk k) (by rw [gy]; omega)
      rw [gy] at e
      rw [QI, e, ← zD] at h
      exact h)
     clear xI
     go_wp2
     go_roundw
     case rel => exact ⟨k + 1, by omega, by go_num, HB2, nG⟩
     case measure => simp [intOf]; omega
  ·
   obtain rfl : k = 16 := by omega
   clear HW hlt
   have WQ : Hid (cK .u32 191 wr (w.heap.size + 1) (wz (oP (16 - 16) (eu blk 16)))) := aa (by rw [show 16 - 16 = 0 from rfl, oP]; exact HB.out)
   clear HB
   go_wp2
   rw [show (((16 : Nat) : Int)) = 16 from rfl]
   go_loopw [7] (fun i u => ∃ t : Nat, 16 ≤ t ∧ t ≤ 64 ∧ i = .int .i64 t ∧ Hid (cK .u32 191 u (w.heap.size + 1) (wz (oP (t - 16) (eu blk 16)))) ∧ Hid (Below (w.heap.size + 1) W u)) (fun i _ => 64 - (intOf i).toNat)
   case atStart => exact ⟨16, by omega, by omega, rfl, WQ, aF⟩
   case round =>
    obtain ⟨t, ht0, ht, rfl, Kw, nG⟩ := hrel
    by_cases hlt : t < 64
    ·
     obtain ⟨L, hL⟩ : ∃ L, oP (t - 16) (eu blk 16) = L := ⟨_, rfl⟩
     have hLn : L.length = t := by rw [← hL, zF, gy]; omega
     have hwz : (wz L).length = 64 := BC (by omega)
     rw [hL] at Kw
     have Vx := Kw.out.cell (j := t - 15) (by omega)
     have h2 := Kw.out.cell (j := t - 2) (by omega)
     have h16 := Kw.out.cell (j := t - 16) (by omega)
     have h7 := Kw.out.cell (j := t - 7) (by omega)
     have ht0' := Kw.out.cell (j := t) (by omega)
     have hfr := Kw.out.free t
     rw [NI (by omega)] at Vx h2 h16 h7
     have hnx : oP (t + 1 - 16) (eu blk 16) = L ++ [add32 (add32 (add32 (L.getD (t - 16) 0) (TA (L.getD (t - 15) 0))) (L.getD (t - 7) 0)) (Tz (L.getD (t - 2) 0))] := by
      rw [show t + 1 - 16 = (t - 16) + 1 by omega, oP, hL, Nf, hLn]
     obtain ⟨P6, e15⟩ : ∃ x, L.getD (t - 15) 0 = x := ⟨_, rfl⟩
     obtain ⟨x2, e2⟩ : ∃ x, L.getD (t - 2) 0 = x := ⟨_, rfl⟩
     obtain ⟨WU, e16⟩ : ∃ x, L.getD (t - 16) 0 = x := ⟨_, rfl⟩
     obtain ⟨x7, e7⟩ : ∃ x, L.getD (t - 7) 0 = x := ⟨_, rfl⟩
     rw [e15] at Vx hnx
     rw [e2] at h2 hnx
     rw [e16] at h16 hnx
     rw [e7] at h7 hnx
     have lY := aa hnx
     have vB := aa hLn
     have i15 : ((t : Int) - 15).toNat = t - 15 := by omega
     have i2 : ((t : Int) - 2).toNat = t - 2 := by omega
     have i16 : ((t : Int) - 16).toNat = t - 16 := by omega
     have i7 : ((t : Int) - 7).toNat = t - 7 := by omega
     have j15 : (0 : Int) ≤ (t : Int) - 15 := by omega
     have j2 : (0 : Int) ≤ (t : Int) - 2 := by omega
     have j16 : (0 : Int) ≤ (t : Int) - 16 := by omega
     have j7 : (0 : Int) ≤ (t : Int) - 7 := by omega
     clear hnx e15 e2 e16 e7 hL hLn hwz
     go_wp2
     go_quiet (fail)
     have vo := aa (ay nG.out nq)
     have Tp := aa (Kw.out.drew nq)
     obtain ⟨w2, hw2⟩ : ∃ u, wr.drewN nq = u := ⟨_, rfl⟩
     rw [hw2] at vo Tp
     have HW2 := aa hw2
     have g16 : w2.cell? ⟨w.heap.size + 1, t - 16, none⟩ = some (.int .u32 WU) := by rw [← hw2]; simpa using h16
     have g7 : w2.cell? ⟨w.heap.size + 1, t - 7, none⟩ = some (.int .u32 x7) := by rw [← hw2]; simpa using h7
     have gt : w2.cell? ⟨w.heap.size + 1, t, none⟩ = some (.int .u32 ((wz L).getD t 0)) := by rw [← hw2]; simpa using ht0'
     have gf : w2.frozen? ⟨w.heap.size + 1, t, none⟩ = false := by rw [← hw2]; simpa using hfr
     clear hw2 Vx h2 h16 h7 ht0' hfr nG Kw
     go_wp2_with fail
     rw [HW2.out]
     refine (iN P6 7 7 rfl (by decide) (by decide) _).mono ?_
     rintro e w' ⟨rfl, rfl⟩
     go_wp2_with fail
     refine (iN P6 18 18 rfl (by decide) (by decide) _).mono ?_
     rintro e w' ⟨rfl, rfl⟩
     go_wp2_with fail
     refine (iN x2 17 17 rfl (by decide) (by decide) _).mono ?_
     rintro e w' ⟨rfl, rfl⟩
     go_wp2_with fail
     refine (iN x2 19 19 rfl (by decide) (by decide) _).mono ?_
     rintro e w' ⟨rfl, rfl⟩
     obtain ⟨r7, UO⟩ : ∃ r, iY P6 7 = r := ⟨_, rfl⟩
     obtain ⟨YW, Oq⟩ : ∃ r, iY P6 18 = r := ⟨_, rfl⟩
     obtain ⟨YX, Ot⟩ : ∃ r, iY x2 17 = r := ⟨_, rfl⟩
     obtain ⟨YV, Oo⟩ : ∃ r, iY x2 19 = r := ⟨_, rfl⟩
     rw [UO, Oq, Ot, Oo]
     obtain ⟨s0, hs0⟩ : ∃ r, bits .xor .u32 (bits .xor .u32 r7 YW) (P6 / 8) = r := ⟨_, rfl⟩
     obtain ⟨s1, hs1⟩ : ∃ r, bits .xor .u32 (bits .xor .u32 YX YV) (x2 / 1024) = r := ⟨_, rfl⟩
     have ES0 : Hid (TA P6 = s0) := aa (by rw [TA, UO, Oq, hs0])
     have ES1 : Hid (Tz x2 = s1) := aa (by rw [Tz, Ot, Oo, hs1])
     clear UO Oq Ot Oo
     go_wp2
     clear hs0 hs1
     obtain ⟨V, hV⟩ : ∃ V, (WU + s0 + x7 + s1) % 4294967296 = V := ⟨_, rfl⟩
     have HV := aa hV
     have HN : Hid (oP (t + 1 - 16) (eu blk 16) = L ++ [V]) := aa (by
      rw [lY.out, ES0.out, ES1.out, ← hV]
      simp only [add32, kG]
      congr 2
      omega)
     have HB3 : Hid (cK .u32 191 (w2.setCell ⟨w.heap.size + 1, t, none⟩ (.int .u32 V)).drew (w.heap.size + 1) (wz (oP (t + 1 - 16) (eu blk 16)))) := aa (by
      rw [HN.out]
      have h := Tp.out.set (j := t) (v := V)
      have e := GQ (l := L) (x := V) (by have := vB.out; omega)
      rw [vB.out] at e
      rw [e] at h
      exact h)
     have WG : Hid (Below (w.heap.size + 1) W (w2.setCell ⟨w.heap.size + 1, t, none⟩ (.int .u32 V)).drew) := aa (vo.out.setCell (Nat.le_refl _) _).drew
     clear hV
     go_region
     rw [HV.out]
     clear g16 g7 gt gf
     go_wp2
     go_roundw
     case rel => exact ⟨t + 1, by omega, by omega, by go_num, HB3, WG⟩
     case measure => simp [intOf]; omega
    ·
     have PU : Hid (cK .u32 191 wr (w.heap.size + 1) (di blk)) := aa (by
      have h := Kw.out
      rwa [show t - 16 = 48 by omega, GR] at h)
     have Sj : Hid (cK .u32 191 wr w.heap.size (aZ 64)) := aa (dY.out.keepB (Nat.lt_succ_self _) nG.out)
     have fH : Hid (Below w.heap.size w (wr.setRow w.heap.size (arr .u32 (di blk)))) := aa (aD (dR.out.trans (nG.out.mono (Nat.le_succ _))) (Nat.le_refl _))
     have HRR : Hid (cK .u32 191 (wr.setRow w.heap.size (arr .u32 (di blk))) w.heap.size (di blk)) := aa (Sj.out.setRow)
     clear Kw
     go_wp2_with (first
      | ((with_reducible show wpList _ _ _ (⟨some 81, _, _, _, _, _⟩ :: _) _ _); refine wpList_load_row rfl 191 _ rfl (w.heap.size + 1) rfl _ _ _ _ PU.out Tryz.underlying191 rfl (lF blk) ?_)
      | ((with_reducible show wpList _ _ _ (⟨none, _, _, _, _, _⟩ :: _) _ _); refine wpList_store_row rfl 191 _ _ rfl w.heap.size (arr .u32 (di blk)) rfl rfl _ _ Sj.out (lF blk) (zN blk) (dQ _) ?_))
     exact bodyPost_ret (v := .agg (arr .u32 (di blk))) (results_cell_row (p := 2) (ty := 191) rfl _ _ w.heap.size _ _ _ _ rfl HRR.out Tryz.underlying191 rfl (lF blk)) rfl ⟨rfl, fH.out⟩
def bX (w : World) : Prop := (∀ k, k < 64 → w.cell? ⟨3, k, none⟩ = some (.int .u32 (KL.getD k 0))) ∧ (∀ k, k < 8 → w.cell? ⟨1, k, none⟩ = some (.int .u32 (st0.list.getD k 0)))
theorem bX.below {w w' : World} (h : bX w) (hb : Below w.heap.size w w') : bX w' := ⟨fun k hk => cell_below (h.1 k hk) hb, fun k hk => cell_below (h.2 k hk) hb⟩
def qd (s v : List Int) (k : Nat) : List Int := (List.range 8).map fun j => if j < k then add32 (s.getD j 0) (v.getD j 0) else s.getD j 0
theorem qc (s v : List Int) (k : Nat) : (qd s v k).length = 8 := by simp [qd]
theorem J6 {s v : List Int} {k : Nat} (h : k < 8) : (qd s v k).getD k 0 = s.getD k 0 := by
 simp [qd, List.getD_eq_getElem?_getD, h]
theorem J5 {s v : List Int} {k : Nat} (h : k < 8) : (qd s v k).set k (add32 (s.getD k 0) (v.getD k 0)) = qd s v (k + 1) := by
 apply List.ext_getElem?
 intro i
 by_cases hi : i < 8
 ·
  by_cases e : k = i
  · subst e; simp [qd, List.getElem?_set, h]
  ·
   have e2 : (i < k + 1) ↔ (i < k) := by omega
   simp [qd, List.getElem?_set, hi, e, e2]
 · rw [List.getElem?_eq_none (by rw [List.length_set, qc]; omega), List.getElem?_eq_none (by rw [qc]; omega)]
theorem Gg {s v : List Int} (h : s.length = 8) : qd s v 0 = s := by
 apply List.ext_getElem?
 intro i
 by_cases hi : i < 8
 · simp [qd, hi, h]
 · rw [List.getElem?_eq_none (by rw [qc]; omega), List.getElem?_eq_none (by omega)]
theorem J7 (s v : St) : qd s.list v.list 8 = (O_ s v).list := rfl
theorem MO (xa xb xc xd xe xf xg xh : Int) : (#[.int .u32 xa, .int .u32 xb, .int .u32 xc, .int .u32 xd, .int .u32 xe, .int .u32 xf, .int .u32 xg, .int .u32 xh] : Array Value) = arr .u32 (St.mk xa xb xc xd xe xf xg xh).list := rfl
theorem Qs : (#[.int .u32 0, .int .u32 0, .int .u32 0, .int .u32 0, .int .u32 0, .int .u32 0, .int .u32 0, .int .u32 0] : Array Value) = arr .u32 (aZ 8) := rfl
theorem QO : (Tryz.prog.info? 160).map (·.size) = some 8 := by kernel_rfl
theorem iA (s : St) : (Tryz.prog.info? 160).map (·.size) = some (arr .u32 s.list).size := QO
theorem QT (xa xb xc xd xe xf xg xh : Int) : ∀ k : Nat, k < 8 → ∀ w, (Instr.index 160 (.agg #[.int .u32 xa, .int .u32 xb, .int .u32 xc, .int .u32 xd, .int .u32 xe, .int .u32 xf, .int .u32 xg, .int .u32 xh]) (.int .i64 (k : Int))).run Tryz.prog w = .ok (.int .u32 ((St.mk xa xb xc xd xe xf xg xh).list.getD k 0)) w
 | 0, _ => fun w => by kernel_rfl
 | 1, _ => fun w => by kernel_rfl
 | 2, _ => fun w => by kernel_rfl
 | 3, _ => fun w => by kernel_rfl
 | 4, _ => fun w => by kernel_rfl
 | 5, _ => fun w => by kernel_rfl
 | 6, _ => fun w => by kernel_rfl
 | 7, _ => fun w => by kernel_rfl
 | k + 8, h => absurd h (by omega)
theorem RS (e f g : Int) : bits .xor .u32 (bits .and .u32 e f) (bits .and .u32 (bits .xor .u32 (if IntKind.u32.signed = true then -1 else IntKind.u32.max) e) g) = TR e f g := rfl
theorem NS (e : Int) : bits .xor .u32 (bits .xor .u32 (iY e 6) (iY e 11)) (iY e 25) = TB e := rfl
def Qb (e f g h k w : Int) : Int := ((h + TB e + TR e f g + k) % 4294967296 + w) % 4294967296
theorem Qz (e f g h k w : Int) : ((h + TB e + TR e f g + k) % 4294967296 + w) % 4294967296 = Qb e f g h k w := rfl
def UE (a b c : Int) : Int := (WY a + Xa a b c) % 4294967296
theorem N7 (a b c d e f g h k w : Int) : TC ⟨a, b, c, d, e, f, g, h⟩ k w = ⟨(Qb e f g h k w + UE a b c) % 4294967296, a, b, c, (d + Qb e f g h k w) % 4294967296, e, f, g⟩ := by
 have hx : Le ⟨a, b, c, d, e, f, g, h⟩ k w = Qb e f g h k w := by
  simp only [Le, Qb, add32, kG]
  omega
 simp only [TC, hx, QA, UE, add32, kG]
theorem Lj {P : Program} {f : FuncId} {args : Array Value} {w : World} {n : Nat} {v : Value}
  (h : Calls P f args (w.drewN n) fun e w' => e = .returned v ∧ w.drewN n = w') : Calls P f args (w.drewN n) fun e w'' => e = .returned v ∧ ∃ m, w'' = w.drewN m :=
 h.mono fun _ _ ⟨he, hm⟩ => ⟨he, n, hm.symm⟩
theorem LK (s : St) (b o cap : Nat) (blk : List Int) (hlen : Hid (blk.length = 64)) (hby : Hid (aH blk = true)) (w : World) (hs : Hid (Sk .u8 w (some ⟨b, o, none⟩) blk)) (hcap : 64 ≤ cap) (hcm : cap ≤ 9223372036854775807) (hv : Hid (bX w)) :
  Calls Tryz.prog 131 #[.agg (arr .u32 s.list), .slice (some ⟨b, o, none⟩) 64 cap] w (Rt w (.agg (arr .u32 (Ce s blk).list))) := by
 obtain ⟨xa, xb, xc, xd, xe, xf, xg, xh⟩ := s
 rw [← MO]
 obtain ⟨W, hW⟩ : ∃ W, (w.alloc (.cells #[.int .u32 xa, .int .u32 xb, .int .u32 xc, .int .u32 xd, .int .u32 xe, .int .u32 xf, .int .u32 xg, .int .u32 xh] 160)).alloc (.cells #[.int .u32 0, .int .u32 0, .int .u32 0, .int .u32 0, .int .u32 0, .int .u32 0, .int .u32 0, .int .u32 0] 160) = W := ⟨_, rfl⟩
 have dR : Hid (Below w.heap.size w W) := aa (by rw [← hW]; exact aB (Below.refl _ _))
 have HB0 : Hid (cK .u32 160 W w.heap.size (St.mk xa xb xc xd xe xf xg xh).list) := aa (by
  rw [← hW, MO]
  exact heap_alloc2_old _ _ _)
 have HZ0 : Hid (cK .u32 160 W (w.heap.size + 1) (aZ 8)) := aa (by
  rw [← hW, Qs]
  exact heap_alloc2_new _ _ _)
 have HS := aa (hs.out.below dR.out)
 have HV := aa (hv.out.below dR.out)
 have HW := aa hW
 have qj : Hid (w.heap.size + 2 = W.heap.size) := aa (by rw [← hW]; simp)
 clear hW hs hv
 go_in
 go_wp2_with fail
 rw [HW.out]
 refine (E9 b o cap blk hlen hby _ HS hcap hcm).mono ?_
 rintro e w1 ⟨rfl, hb1⟩
 have HB1 := aa (HB0.out.below hb1)
 have HZ1 := aa (HZ0.out.below hb1)
 have gT := aa (HV.out.below hb1)
 have aan : Hid (w.heap.size + 2 ≤ w1.heap.size) := aa (by have := hb1.size; have := qj.out; omega)
 have zB := aa (af dR.out hb1)
 clear hb1 HW
 go_wp2_with ((with_reducible show wpList _ _ _ (⟨none, _, _, _, _, _⟩ :: _) _ _); refine wpList_store_row rfl 191 _ _ rfl w1.heap.size (arr .u32 (di blk)) rfl rfl _ _ (heap_alloc_new _ _) (lF blk) (zN blk) (dQ _) ?_)
 rw [World.setRow_alloc_new]
 have Bl := aa (af zB.out (ai w1 (.cells (arr .u32 (di blk)) 191)))
 have HB2 := aa (HB1.out.below (ai w1 (.cells (arr .u32 (di blk)) 191)))
 have HZ2 := aa (HZ1.out.below (ai w1 (.cells (arr .u32 (di blk)) 191)))
 have ko := aa (gT.out.below (ai w1 (.cells (arr .u32 (di blk)) 191)))
 have HW2 : Hid (cK .u32 191 (w1.alloc (.cells (arr .u32 (di blk)) 191)) w1.heap.size (di blk)) := aa (cK.new _ _)
 obtain ⟨W2, hW2⟩ : ∃ u, w1.alloc (.cells (arr .u32 (di blk)) 191) = u := ⟨_, rfl⟩
 have aam : Hid (w1.heap.size < W2.heap.size) := aa (by rw [← hW2]; simp)
 rw [hW2] at Bl HB2 HZ2 ko HW2 ⊢
 clear hW2 HB1 HZ1 gT zB HB0 HZ0 HV HS
 obtain ⟨g0, g1, g2, g3, g4, g5, g6, g7⟩ : W2.cell? ⟨w.heap.size, 0, none⟩ = some (.int .u32 xa) ∧ W2.cell? ⟨w.heap.size, 1, none⟩ = some (.int .u32 xb) ∧ W2.cell? ⟨w.heap.size, 2, none⟩ = some (.int .u32 xc) ∧ W2.cell? ⟨w.heap.size, 3, none⟩ = some (.int .u32 xd) ∧ W2.cell? ⟨w.heap.size, 4, none⟩ = some (.int .u32 xe) ∧ W2.cell? ⟨w.heap.size, 5, none⟩ = some (.int .u32 xf) ∧ W2.cell? ⟨w.heap.size, 6, none⟩ = some (.int .u32 xg) ∧ W2.cell? ⟨w.heap.size, 7, none⟩ = some (.int .u32 xh) :=
  ⟨HB2.out.cell (j := 0) (show 0 < 8 by decide), HB2.out.cell (j := 1) (show 1 < 8 by decide), HB2.out.cell (j := 2) (show 2 < 8 by decide), HB2.out.cell (j := 3) (show 3 < 8 by decide), HB2.out.cell (j := 4) (show 4 < 8 by decide), HB2.out.cell (j := 5) (show 5 < 8 by decide), HB2.out.cell (j := 6) (show 6 < 8 by decide), HB2.out.cell (j := 7) (show 7 < 8 by decide)⟩
 obtain ⟨ws, hws⟩ : ∃ l, di blk = l := ⟨_, rfl⟩
 have Ya : Kp (di blk = ws) := ⟨hws⟩
 have Yb : Hid (ws.length = 64) := aa (by rw [← hws, lG])
 rw [hws] at HW2
 rw [hws]
 clear hws
 go_wp2
 go_quiet (fail)
 have Uq := aa (ay (Below.refl W2.heap.size W2) nq)
 clear g0 g1 g2 g3 g4 g5 g6 g7
 go_wp2
 go_loopw [6, 7, 8, 9, 10, 11, 12, 13, 37] (fun a b c d e f g h i u => ∃ (k : Nat) (ya yb yc yd ye yf yg yh : Int), k ≤ 64 ∧ i = .int .i64 k ∧ a = .int .u32 ya ∧ b = .int .u32 yb ∧ c = .int .u32 yc ∧ d = .int .u32 yd ∧ e = .int .u32 ye ∧ f = .int .u32 yf ∧ g = .int .u32 yg ∧ h = .int .u32 yh ∧ Hid (BJ ws ⟨xa, xb, xc, xd, xe, xf, xg, xh⟩ k = ⟨ya, yb, yc, yd, ye, yf, yg, yh⟩) ∧ Hid (Below W2.heap.size W2 u)) (fun _ _ _ _ _ _ _ _ i _ => 64 - (intOf i).toNat)
 case atStart => exact ⟨0, xa, xb, xc, xd, xe, xf, xg, xh, by omega, rfl, rfl, rfl, rfl, rfl, rfl, rfl, rfl, rfl, aa rfl, Uq⟩
 case round =>
  obtain ⟨k, ya, yb, yc, yd, ye, yf, yg, yh, hk, rfl, rfl, rfl, rfl, rfl, rfl, rfl, rfl, rfl, HR, nG⟩ := hrel
  by_cases hlt : k < 64
  ·
   have hk0 := (ko.out.below nG.out).1 k hlt
   have hk1 := (HW2.out.below nG.out).cell (j := k) (by have := Yb.out; omega)
   have hnx : BJ ws ⟨xa, xb, xc, xd, xe, xf, xg, xh⟩ (k + 1) = TC ⟨ya, yb, yc, yd, ye, yf, yg, yh⟩ (KL.getD k 0) (ws.getD k 0) := by rw [BJ, HR.out]
   obtain ⟨kc, XV⟩ : ∃ x, KL.getD k 0 = x := ⟨_, rfl⟩
   obtain ⟨wc, XU⟩ : ∃ x, ws.getD k 0 = x := ⟨_, rfl⟩
   rw [XV] at hk0 hnx
   rw [XU] at hk1 hnx
   have lY := aa hnx
   clear hnx XV XU
   go_wp2_with fail
   go_quiet ((go_at_call 154; exact Lj (Ff _ _ (by decide) (by decide) _)))
   rw [RS, NS, Qz]
   obtain ⟨X, hX⟩ : ∃ X, Qb ye yf yg yh kc wc = X := ⟨_, rfl⟩
   rw [hX]
   have HX := aa hX
   have vo := aa (ay nG.out nq)
   obtain ⟨w3, hw3⟩ : ∃ u, wr.drewN nq = u := ⟨_, rfl⟩
   rw [hw3] at vo ⊢
   clear hX hw3 hk0 hk1 nG
   go_wp2_with fail
   refine (iN ya 2 2 rfl (by decide) (by decide) _).mono ?_
   rintro e w' ⟨rfl, rfl⟩
   go_wp2_with fail
   refine (iN ya 13 13 rfl (by decide) (by decide) _).mono ?_
   rintro e w' ⟨rfl, rfl⟩
   go_wp2_with fail
   refine (iN ya 22 22 rfl (by decide) (by decide) _).mono ?_
   rintro e w' ⟨rfl, rfl⟩
   obtain ⟨r2, hr2⟩ : ∃ r, iY ya 2 = r := ⟨_, rfl⟩
   obtain ⟨YY, Ou⟩ : ∃ r, iY ya 13 = r := ⟨_, rfl⟩
   obtain ⟨YU, Om⟩ : ∃ r, iY ya 22 = r := ⟨_, rfl⟩
   rw [hr2, Ou, Om]
   obtain ⟨Y, hY⟩ : ∃ Y, UE ya yb yc = Y := ⟨_, rfl⟩
   have HY : Kp ((bits .xor .u32 (bits .xor .u32 r2 YY) YU + bits .xor .u32 (bits .xor .u32 (bits .and .u32 ya yb) (bits .and .u32 ya yc)) (bits .and .u32 yb yc)) % 4294967296 = Y) := ⟨by rw [← hY, ← hr2, ← Ou, ← Om]; rfl⟩
   have Er := aa hY
   have HR2 : Hid (BJ ws ⟨xa, xb, xc, xd, xe, xf, xg, xh⟩ (k + 1) = ⟨(X + Y) % 4294967296, ya, yb, yc, (yd + X) % 4294967296, ye, yf, yg⟩) := aa (by
    rw [lY.out, N7, HX.out, Er.out])
   clear hr2 Ou Om hY lY
   go_wp2_with fail
   go_roundw
   case rel => exact ⟨k + 1, _, _, _, _, _, _, _, _, by omega, by go_num, rfl, rfl, rfl, rfl, rfl, rfl, rfl, rfl, by rw [HY.out]; exact HR2, vo⟩
   case measure => simp [intOf]; omega
  ·
   have Qk : Kp (BJ (di blk) ⟨xa, xb, xc, xd, xe, xf, xg, xh⟩ 64 = ⟨ya, yb, yc, yd, ye, yf, yg, yh⟩) := ⟨by
    have h := HR.out
    rwa [show k = 64 by omega, ← Ya.out] at h⟩
   have HB3 : Hid (cK .u32 160 wr w.heap.size (qd (St.mk xa xb xc xd xe xf xg xh).list (St.mk ya yb yc yd ye yf yg yh).list 0)) := aa (by
    rw [Gg rfl]
    exact HB2.out.below nG.out)
   have HZ3 := aa (HZ2.out.below nG.out)
   have WJ := aa (af Bl.out nG.out)
   clear HR nG HB2 HZ2 Bl HW2 ko Yb Ya Uq
   go_wp2
   go_loopw [109] (fun i u => ∃ m : Nat, m ≤ 8 ∧ i = .int .i64 m ∧ Hid (cK .u32 160 u w.heap.size (qd (St.mk xa xb xc xd xe xf xg xh).list (St.mk ya yb yc yd ye yf yg yh).list m)) ∧ Hid (cK .u32 160 u (w.heap.size + 1) (aZ 8)) ∧ Hid (Below w.heap.size w u)) (fun i _ => 8 - (intOf i).toNat)
   case atStart => exact ⟨0, by omega, rfl, HB3, HZ3, WJ⟩
   case round =>
    obtain ⟨m, hm, rfl, xI, TV, nG⟩ := hrel
    by_cases hlm : m < 8
    ·
     have hi := QT ya yb yc yd ye yf yg yh m hlm
     have hc := xI.out.cell (j := m) (by rw [qc]; exact hlm)
     have hf := xI.out.free m
     rw [J6 hlm] at hc
     obtain ⟨s0, e0⟩ : ∃ x, (St.mk xa xb xc xd xe xf xg xh).list.getD m 0 = x := ⟨_, rfl⟩
     obtain ⟨v0, e1⟩ : ∃ x, (St.mk ya yb yc yd ye yf yg yh).list.getD m 0 = x := ⟨_, rfl⟩
     have hst := J5 (s := (St.mk xa xb xc xd xe xf xg xh).list) (v := (St.mk ya yb yc yd ye yf yg yh).list) hlm
     rw [e0, e1, add32, kG] at hst
     rw [e0] at hc
     rw [e1] at hi
     have gI : Hid (cK .u32 160 (wr.setCell ⟨w.heap.size, m, none⟩ (.int .u32 ((s0 + v0) % 4294967296))) w.heap.size (qd (St.mk xa xb xc xd xe xf xg xh).list (St.mk ya yb yc yd ye yf yg yh).list (m + 1))) := aa (by
      rw [← hst]
      exact xI.out.set)
     have Nz : Hid (cK .u32 160 (wr.setCell ⟨w.heap.size, m, none⟩ (.int .u32 ((s0 + v0) % 4294967296))) (w.heap.size + 1) (aZ 8)) := aa (TV.out.set_ne (by omega))
     have mh : Hid (Below w.heap.size w (wr.setCell ⟨w.heap.size, m, none⟩ (.int .u32 ((s0 + v0) % 4294967296)))) := aa (nG.out.setCell (Nat.le_refl _) _)
     clear hst e0 e1 xI TV nG
     go_wp2
     go_roundw
     case rel => exact ⟨m + 1, by omega, by go_num, gI, Nz, mh⟩
     case measure => simp [intOf]; omega
    ·
     obtain ⟨T, hT⟩ : ∃ T, O_ ⟨xa, xb, xc, xd, xe, xf, xg, xh⟩ ⟨ya, yb, yc, yd, ye, yf, yg, yh⟩ = T := ⟨_, rfl⟩
     have PU : Hid (cK .u32 160 wr w.heap.size T.list) := aa (by
      have h := xI.out
      rwa [show m = 8 by omega, J7, hT] at h)
     have HT : Kp (Ce ⟨xa, xb, xc, xd, xe, xf, xg, xh⟩ blk = T) := ⟨by rw [Ce, Qk.out, hT]⟩
     have HRR : Hid (cK .u32 160 (wr.setRow (w.heap.size + 1) (arr .u32 T.list)) (w.heap.size + 1) T.list) := aa TV.out.setRow
     have fH : Hid (Below w.heap.size w (wr.setRow (w.heap.size + 1) (arr .u32 T.list))) := aa (aD nG.out (Nat.le_succ _))
     clear hT Qk xI
     go_wp2_with (first
      | ((with_reducible show wpList _ _ _ (⟨some 120, _, _, _, _, _⟩ :: _) _ _); refine wpList_load_row rfl 160 _ rfl w.heap.size rfl _ _ _ _ PU.out Tryz.underlying160 rfl (iA T) ?_)
      | ((with_reducible show wpList _ _ _ (⟨none, _, _, _, _, _⟩ :: _) _ _); refine wpList_store_row rfl 160 _ _ rfl (w.heap.size + 1) (arr .u32 T.list) rfl rfl _ _ TV.out (iA T) rfl (dQ _) ?_))
     rw [HT.out]
     exact bodyPost_ret (v := .agg (arr .u32 T.list)) (results_cell_row (p := 4) (ty := 160) rfl _ _ (w.heap.size + 1) _ _ _ _ rfl HRR.out Tryz.underlying160 rfl (iA T)) rfl ⟨rfl, fH.out⟩
end Go.Proofs.YtbljkkpnpcgjfaaGreatDoor
namespace Go.Proofs.YtbljkkpnpcgjfaaGreatDoor
open Go.ChangeShapes Go.WideShapes Go.ChangeAt Go.RowKit rM
theorem Jn : Tryz.prog.globalNamed "specie/digest.constants" = some 3 := by kernel_rfl
theorem CJ : (Tryz.prog.globals[3]?).map (·.type) = some 191 := by kernel_rfl
theorem Jl : Tryz.prog.globalNamed "specie/digest.start" = some 1 := by kernel_rfl
theorem CG : (Tryz.prog.globals[1]?).map (·.type) = some 160 := by kernel_rfl
theorem C8 : Tryz.prog.cellsOf 191 = 64 := by kernel_rfl
theorem CY : Tryz.prog.cellsOf 160 = 8 := by kernel_rfl
theorem A8 : Tryz.prog.cellsOf 159 = 1 := by kernel_rfl
def IP : Obj → Obj
 | .cells _ t frozen => .cells (KL.map fun n => Value.int .u32 n).toArray t frozen
 | o => o
def IM : Obj → Obj
 | .cells _ t frozen => .cells (st0.list.map fun n => Value.int .u32 n).toArray t frozen
 | o => o
end Go.Proofs.YtbljkkpnpcgjfaaGreatDoor
namespace Go.Proofs.YtbljkkpnpcgjfaaGreatDoor
open Go
section
variable {P : Program} {ops : Array Oper} {Q : Exit → Act → World → Prop} {md : Region.Mode} {S : World → Prop} {E : List Nat}
def jQ (P : Program) (md : Region.Mode) (ops : Array Oper) (Q : Exit → Act → World → Prop) (S : World → Prop) (E : List Nat) : Nat → Array Bool → Act → World → Prop
 | 0, listed, a, w => Region.ready md ops listed = [] ∧ Q .normal a w
 | fuel + 1, listed, a, w =>
  (Region.ready md ops listed = [] → Q .normal a w) ∧
  ∀ i ∈ Region.ready md ops listed, wpOp P ops Q i (fun a' w' => (i ∉ E → S w') ∧ jQ P md ops Q S E fuel (listed.setIfInBounds i true) a' w') a w
theorem sZ : ∀ (fuel : Nat) (listed : Array Bool) (a : Act) (w : World), jQ P md ops Q S E fuel listed a w → wpAny P md ops Q fuel listed a w
 | 0, _, _, _, h => h
 | fuel + 1, _, _, _, h => ⟨h.1, fun i hi => wpOp_mono (fun a' w' h' => sZ fuel _ a' w' h'.2) (h.2 i hi)⟩
def uQ (md : Region.Mode) (ops : Array Oper) (i : Nat) : List Nat :=
 (List.range ops.size).foldl (fun C x => if ((ops[x]?).map (·.after.any fun e => Region.binds md e && (e.on == i || C.contains e.on))).getD false then x :: C else C) []
def nS (md : Region.Mode) (ops : Array Oper) (listed : Array Bool) (i : Nat) (E : List Nat) : Bool :=
 (E.all fun s => (uQ md ops i).contains s) && (uQ md ops i).all fun x => !listed.getD x true && ((ops[x]?).map (·.after.any fun e => Region.binds md e && (e.on == i || (uQ md ops i).contains e.on))).getD false
def Late (md : Region.Mode) (ops : Array Oper) (C : List Nat) (listed : Array Bool) (i : Nat) : Prop :=
 ∀ x ∈ C, listed.getD x true = false ∧ ∃ o, ops[x]? = some o ∧ ∃ e ∈ o.after, Region.binds md e = true ∧ (e.on = i ∨ e.on ∈ C)
theorem uz {listed : Array Bool} {i : Nat} (h : nS md ops listed i E = true) : (∀ s ∈ E, s ∈ uQ md ops i) ∧ Late md ops (uQ md ops i) listed i := by
 unfold nS at h
 rw [Bool.and_eq_true] at h
 refine ⟨fun s hs => by simpa using List.all_eq_true.1 h.1 s hs, fun x hx => ?_⟩
 have h2 := List.all_eq_true.1 h.2 x hx
 rw [Bool.and_eq_true] at h2
 refine ⟨by simpa using h2.1, ?_⟩
 have h3 := h2.2
 cases ho : ops[x]? with
 | none => rw [ho] at h3; simp at h3
 | some o =>
  rw [ho] at h3
  simp only [Option.map_some, Option.getD_some] at h3
  obtain ⟨e, he, hb⟩ := Array.any_eq_true'.1 h3
  simp only [Bool.and_eq_true, Bool.or_eq_true, beq_iff_eq] at hb
  exact ⟨o, rfl, e, he, hb.1, hb.2.imp id (by simp)⟩
theorem Late.not_ready {C : List Nat} {listed : Array Bool} {i j : Nat} (h : Late md ops C listed i) (hi : listed.getD i true = false) (hj : j ∈ Region.ready md ops listed) : j ∉ C := fun hc => by
 obtain ⟨_, o, ho, e, he, hb, h4⟩ := h j hc
 obtain ⟨_, o', ho', hall⟩ := mem_ready.1 hj
 rw [ho] at ho'
 cases ho'
 have h5 := hall e he hb
 have h6 : listed.getD e.on true = false := by
  rcases h4 with h4 | h4
  · rw [h4]; exact hi
  · exact (h _ h4).1
 rcases Nat.lt_or_ge e.on listed.size with h' | h'
 · simp [h'] at h5 h6; rw [h6] at h5; cases h5
 · simp [Array.getElem?_eq_none h'] at h5
theorem Late.step {C : List Nat} {listed : Array Bool} {i j : Nat} (h : Late md ops C listed i) (hj : j ∉ C) : Late md ops C (listed.setIfInBounds j true) i := fun x hx => by
 obtain ⟨h1, h2⟩ := h x hx
 have hne : j ≠ x := fun e => hj (by rw [e]; exact hx)
 exact ⟨by rw [getD_set_ne true hne]; exact h1, h2⟩
theorem EN {i : Nat} {oi : Oper} {v : Value} {C : List Nat} (hs : ∀ s ∈ E, s ∈ C) (hi : ops[i]? = some oi) (hsel : ∀ (j : Nat) (o : Oper) cs b, ops[j]? = some o → o.op ≠ .select cs b)
  (hQ : ∀ c a w, Q (.panic c) (a.put oi.dst v) w → Q (.panic c) a w) :
  ∀ (fuel : Nat) (listed : Array Bool) (a : Act) (w : World),
   (∀ j oj, ops[j]? = some oj → j ≠ i → listed.getD j true = false → (∀ e ∈ oj.after, Region.binds md e = true → e.on ≠ i) → oi.apart ops oj = true) →
   Late md ops C listed i → i ∈ Region.ready md ops listed → YieldsIf P ops S oi v a → S w →
   jQ P md ops Q S E fuel (listed.setIfInBounds i true) (a.put oi.dst v) w → jQ P md ops Q S E (fuel + 1) listed a w := by
 intro fuel
 induction fuel with
 | zero =>
  intro listed a w _ _ hr hy hS H
  refine ⟨fun h => (by rw [h] at hr; cases hr), fun j hj => ?_⟩
  by_cases hji : j = i
  · subst hji; exact hy.wpOp hi hS ⟨fun _ => hS, H⟩
  ·
   have := ready_mono hj hji
   rw [H.1] at this
   cases this
 | succ fuel ih =>
  intro listed a w hfree Nk hr hy hS H
  refine ⟨fun h => (by rw [h] at hr; cases hr), fun j hj => ?_⟩
  by_cases hji : j = i
  · subst hji; exact hy.wpOp hi hS ⟨fun _ => hS, H⟩
  ·
   have h1 := H.2 j (ready_mono hj hji)
   have U0 := (mem_ready.1 hr).1
   have Xp := Nk.not_ready U0 hj
   have hjs : j ∉ E := fun e => Xp (hs j e)
   obtain ⟨hjun, oj, hoj, hall⟩ := mem_ready.1 hj
   have hnot : ∀ e ∈ oj.after, Region.binds md e = true → e.on ≠ i := fun e he hb heq => by
    have h1 := hall e he hb
    have h0 := (mem_ready.1 hr).1
    rw [heq] at h1
    rcases Nat.lt_or_ge i listed.size with h' | h'
    · simp [h'] at h0 h1; rw [h0] at h1; cases h1
    · simp [Array.getElem?_eq_none h'] at h1
   have h2 := wpOp_putIf hoj (hfree j oj hoj hji hjun hnot) (fun cs b => hsel i oi cs b hi) (fun cs b => hsel j oj cs b hoj) hQ hy h1
   have hfree' : ∀ k ok, ops[k]? = some ok → k ≠ i → (listed.setIfInBounds j true).getD k true = false →
     (∀ e ∈ ok.after, Region.binds md e = true → e.on ≠ i) → oi.apart ops ok = true := fun k ok hk hki hun hno => by
    refine hfree k ok hk hki ?_ hno
    by_cases hjk : j = k
    · subst hjk; exact hjun
    · rw [getD_set_ne true hjk] at hun; exact hun
   refine wpOp_mono (fun a' w' h3 => ⟨fun _ => h3.2.1 hjs, ih (listed.setIfInBounds j true) a' w' hfree' (Nk.step Xp) (ready_mono hr (Ne.symm hji)) h3.1 (h3.2.1 hjs) ?_⟩) h2
   rw [Array.setIfInBounds_comm _ _ hji]
   exact h3.2.2
theorem iL {i : Nat} {oi : Oper} {v : Value} {fuel : Nat} {listed : Array Bool} {a : Act} {w : World} (hi : ops[i]? = some oi)
  (hs : Region.noSelect ops = true) (hf : Region.free md ops listed i = true) (hr : (Region.ready md ops listed).contains i = true) (hl : nS md ops listed i E = true)
  (hQ : ∀ c a w, Q (.panic c) (a.put oi.dst v) w → Q (.panic c) a w) (hy : YieldsIf P ops S oi v a) (hS : S w)
  (h : jQ P md ops Q S E fuel (listed.setIfInBounds i true) (a.put oi.dst v) w) : jQ P md ops Q S E (fuel + 1) listed a w :=
 EN (uz hl).1 hi (Region.noSelect_spec hs) hQ fuel listed a w (Region.free_spec hi hf) (uz hl).2 (by simpa using hr) hy hS h
theorem KY {i : Nat} {o : Oper} {fuel : Nat} {listed : Array Bool} {a : Act} {w : World} (hr : Region.ready md ops listed = [i]) (ho : ops[i]? = some o)
  (h : ∀ K' : Act → World → Prop, Shut (∀ a w, S w → (S w → jQ P md ops Q S E fuel (listed.setIfInBounds i true) a w) → K' a w) → if Region.wanted o (yielded ops a.tmps) = true then Oper.wp P o a w K' Q else K' (a.put o.dst undef) w) :
  jQ P md ops Q S E (fuel + 1) listed a w :=
 ⟨fun h0 => absurd (hr ▸ h0) (by simp), fun j hj => by
  rw [hr] at hj
  obtain rfl : j = i := by simpa using hj
  exact wpOp_step ho (fun K' hK => h K' (fun a w hS hW => hK a w ⟨fun _ => hS, hW hS⟩))⟩
theorem dI {α : Type _} {xs : List α} {i : Nat} (h : i < xs.toArray.size) : xs.toArray[i] = xs[i]'(by simpa using h) := rfl
theorem dH {α : Type _} (a : α) (l : List α) (h : 0 < (a :: l).length) : getElem (a :: l) 0 h = a := rfl
theorem dG {α : Type _} (a : α) (l : List α) (i : Nat) (h : i + 1 < (a :: l).length) : getElem (a :: l) (i+1) h = getElem l i (Nat.lt_of_succ_lt_succ h) := rfl
theorem dF {α : Type _} (l : List α) (i : Nat) (a : α) : l.toArray.setIfInBounds i a = (l.set i a).toArray := List.setIfInBounds_toArray l i a
theorem dD {α : Type _} {x : α} {xs : List α} {a : α} : (x :: xs).set 0 a = a :: xs := rfl
theorem dB {α : Type _} {x : α} {xs : List α} {i : Nat} {a : α} : (x :: xs).set (i + 1) a = x :: xs.set i a := rfl
theorem tkV (i : Nat) {oi : Oper} {v : Value} {fuel : Nat} {listed : Array Bool} {a : Act} {w : World} (h : jQ P md ops Q S E fuel (listed.setIfInBounds i true) (a.put oi.dst v) w) (hi : ops[i]? = some oi := by rfl)
  (hs : Region.noSelect ops = true := by kernel_rfl) (hf : Region.free md ops listed i = true := by kernel_rfl) (hr : (Region.ready md ops listed).contains i = true := by kernel_rfl) (hl : nS md ops listed i E = true := by kernel_rfl)
  (hQ : ∀ c a w, Q (.panic c) (a.put oi.dst v) w → Q (.panic c) a w := by exact fun _ _ _ h => h) (hw : Region.wanted oi (yielded ops a.tmps) = true := by rfl)
  (hy : ∀ w, S w → (execOp a.eval oi).run P w = .ok (.value v) w := by intro wS hSw; (try dsimp only at hSw); go_simp <;> with_reducible rfl) (hS : S w := by assumption) : jQ P md ops Q S E (fuel + 1) listed a w :=
 iL hi hs hf hr hl hQ (Or.inl ⟨hw, hy⟩) hS h
theorem tkU (i : Nat) {oi : Oper} {fuel : Nat} {listed : Array Bool} {a : Act} {w : World} (h : jQ P md ops Q S E fuel (listed.setIfInBounds i true) (a.put oi.dst undef) w) (hi : ops[i]? = some oi := by rfl)
  (hs : Region.noSelect ops = true := by kernel_rfl) (hf : Region.free md ops listed i = true := by kernel_rfl) (hr : (Region.ready md ops listed).contains i = true := by kernel_rfl) (hl : nS md ops listed i E = true := by kernel_rfl)
  (hQ : ∀ c a w, Q (.panic c) (a.put oi.dst undef) w → Q (.panic c) a w := by exact fun _ _ _ h => h) (hw : Region.wanted oi (yielded ops a.tmps) = false := by rfl) (hS : S w := by assumption) : jQ P md ops Q S E (fuel + 1) listed a w :=
 iL hi hs hf hr hl hQ (Or.inr ⟨hw, rfl⟩) hS h
theorem GU {i : Nat} {o : Oper} {fuel : Nat} {listed : Array Bool} {a : Act} {w : World} (hr : Region.ready md ops listed = [i]) (hE : i ∈ E) (ho : ops[i]? = some o)
  (h : ∀ K' : Act → World → Prop, Shut (∀ a w, jQ P md ops Q S E fuel (listed.setIfInBounds i true) a w → K' a w) → if Region.wanted o (yielded ops a.tmps) = true then Oper.wp P o a w K' Q else K' (a.put o.dst undef) w) :
  jQ P md ops Q S E (fuel + 1) listed a w :=
 ⟨fun h0 => absurd (hr ▸ h0) (by simp), fun j hj => by
  rw [hr] at hj
  obtain rfl : j = i := by simpa using hj
  exact wpOp_step ho (fun K' hK => h K' (fun a w hW => hK a w ⟨fun h => absurd hE h, hW⟩))⟩
theorem GV {listed : Array Bool} {a : Act} {w : World} (hr : Region.ready md ops listed = []) (h : Q .normal a w) : ∀ fuel, jQ P md ops Q S E fuel listed a w
 | 0 => ⟨hr, h⟩
 | _ + 1 => ⟨fun _ => h, by rw [hr]; simp⟩
theorem dZ {id : Nat} {a : Act} {w : World} (hm : P.follows .mixedOrders = true) (hS : S w.drew)
  (h : S w.drew → jQ P .any ops Q S E ops.size (Array.replicate ops.size false) a w.drew) : (Code.region id ops true).wp P Q a w :=
 wp_region_any hm (sZ _ _ _ _ (h hS))
end
end Go.Proofs.YtbljkkpnpcgjfaaGreatDoor
namespace Go.Proofs.YtbljkkpnpcgjfaaGreatDoor
open Go.RowKit rM
theorem nK {b c u : World} (h : Hid (Below b.heap.size b c)) (h2 : Hid (Below c.heap.size c u)) : Hid (Below b.heap.size b u) := aa (af h.out h2.out)
theorem cZ {b c u : World} (h : Hid (Below b.heap.size b c)) (h2 : Below c.heap.size c u) : Hid (Below b.heap.size b u) := aa (af h.out h2)
theorem bb2 {a b u u2 : World} (h : Hid (Below a.heap.size a u ∧ Below b.heap.size b u)) (q : Below u.heap.size u u2) : Hid (Below a.heap.size a u2 ∧ Below b.heap.size b u2) := aa ⟨af h.out.1 q, af h.out.2 q⟩
theorem bb3 {a b c u u2 : World} (h : Hid (Below a.heap.size a u ∧ Below b.heap.size b u ∧ Below c.heap.size c u)) (q : Below u.heap.size u u2) : Hid (Below a.heap.size a u2 ∧ Below b.heap.size b u2 ∧ Below c.heap.size c u2) := aa ⟨af h.out.1 q, af h.out.2.1 q, af h.out.2.2 q⟩
theorem bb4 {a b c d u u2 : World} (h : Hid (Below a.heap.size a u ∧ Below b.heap.size b u ∧ Below c.heap.size c u ∧ Below d.heap.size d u)) (q : Below u.heap.size u u2) : Hid (Below a.heap.size a u2 ∧ Below b.heap.size b u2 ∧ Below c.heap.size c u2 ∧ Below d.heap.size d u2) := aa ⟨af h.out.1 q, af h.out.2.1 q, af h.out.2.2.1 q, af h.out.2.2.2 q⟩
theorem Z9 {P : Program} {f : Nat} {args : Array Value} {b w : World} {E0 : Ending} {Q : Ending → World → Prop} (hB : Hid (Below b.heap.size b w)) (h : Calls P f args w fun e w' => e = E0 ∧ Below w.heap.size w w') (k : ∀ w', Hid (Below b.heap.size b w') → Q E0 w') : Calls P f args w Q :=
 h.mono (fun e w' he => by obtain ⟨rfl, hb⟩ := he; exact k w' (cZ hB hb))
theorem JM {P : Program} {f : Nat} {args : Array Value} {b w : World} {E0 : Ending} {Q : Ending → World → Prop} {C : World → Prop} (kC : Hid (∀ u, Hid (Below b.heap.size b u) → C u)) (hB : Hid (Below b.heap.size b w)) (h : Calls P f args w fun e w' => e = E0 ∧ Below w.heap.size w w') (k : ∀ w', Hid (Below b.heap.size b w') → C w' → Q E0 w') : Calls P f args w Q :=
 Z9 hB h (fun w' h' => k w' h' (kC.out _ h'))
theorem dS (b : World) : Hid (Below b.heap.size b b) := aa (Below.refl _ _)
theorem vH {w w0 : World} (φ : World → Prop) (hb : Hid (Below w.heap.size w w0)) (h : Hid (φ w)) (st : ∀ {u}, φ w → Below w.heap.size w u → φ u) : Hid (∀ u : World, Hid (Below w0.heap.size w0 u) → Hid (φ u)) :=
 aa (fun u hu => aa (st h.out (af hb.out hu.out)))
theorem mkS {w w0 : World} {A : Option Addr} {xs : List Int} (hb : Hid (Below w.heap.size w w0)) (h : Hid (Sl w A xs)) : Hid (∀ u : World, Hid (Below w0.heap.size w0 u) → Hid (Sl u A xs)) := vH (fun u => Sl u A xs) hb h (·.below)
theorem mkV {w w0 : World} (hb : Hid (Below w.heap.size w w0)) (h : Hid (Vars w)) : Hid (∀ u : World, Hid (Below w0.heap.size w0 u) → Hid (Vars u)) := vH (fun u => Vars u) hb h (·.below)
theorem Y5 {w w0 : World} (hb : Hid (Below w.heap.size w w0)) (h : Hid (bX w)) : Hid (∀ u : World, Hid (Below w0.heap.size w0 u) → Hid (bX u)) := vH (fun u => bX u) hb h (·.below)
theorem Y4 {w0 : World} {p : Addr} {v : Value} (h : w0.cell? p = some v) : Hid (∀ u : World, Hid (Below w0.heap.size w0 u) → u.cell? p = some v) := aa (fun u hu => cell_below h hu.out)
theorem gN {w w0 u : World} (h : Hid (Below w.heap.size w w0)) (h2 : Hid (Below w0.heap.size w0 u)) : Below w.heap.size w u := af h.out h2.out
def BO (u : World) (b : Nat) (o : Obj) : Prop := ∃ c T, o = .cells c T ∧ ∀ (j : Nat) v, c[j]? = some v → Own u ⟨b, j, none⟩ v
theorem BO.new (w : World) (c : Array Value) (T : TypeId) : BO (w.alloc (.cells c T)) w.heap.size (.cells c T) := ⟨c, T, rfl, fun _ _ h => lV rfl h⟩
theorem BO.below {u u2 : World} {b : Nat} {o : Obj} (h : BO u b o) (hb : Below u.heap.size u u2) : BO u2 b o := by
 obtain ⟨c, T, e, h⟩ := h
 exact ⟨c, T, e, fun j v hj => (h j v hj).below hb⟩
theorem BO.get {u : World} {b : Nat} {c : Array Value} {T : TypeId} (h : BO u b (.cells c T)) (j : Nat) {v : Value} (hj : c[j]? = some v) : Own u ⟨b, j, none⟩ v := by
 obtain ⟨c', T', e, h⟩ := h
 cases e
 exact h j v hj
theorem bq0 {c : Array Value} {T : TypeId} (u : World) (b : Nat) (h : BO u b (.cells c T)) : True := trivial
theorem Nv {a0 : Value} {r : List Value} {T : TypeId} (u : World) (b : Nat) (h : BO u b (.cells (a0 :: r).toArray T)) : u.cell? ⟨b, 0, none⟩ = some a0 := (h.get 0 (by simp)).1
theorem TS {a0 a1 : Value} {r : List Value} {T : TypeId} (u : World) (b : Nat) (h : BO u b (.cells (a0 :: a1 :: r).toArray T)) : u.cell? ⟨b, 0, none⟩ = some a0 ∧ u.cell? ⟨b, 1, none⟩ = some a1 := ⟨(h.get 0 (by simp)).1, (h.get 1 (by simp)).1⟩
theorem Bt {a0 a1 a2 : Value} {r : List Value} {T : TypeId} (u : World) (b : Nat) (h : BO u b (.cells (a0 :: a1 :: a2 :: r).toArray T)) : u.cell? ⟨b, 0, none⟩ = some a0 ∧ u.cell? ⟨b, 1, none⟩ = some a1 ∧ u.cell? ⟨b, 2, none⟩ = some a2 := ⟨(h.get 0 (by simp)).1, (h.get 1 (by simp)).1, (h.get 2 (by simp)).1⟩
theorem qQ {a0 a1 a2 a3 : Value} {r : List Value} {T : TypeId} (u : World) (b : Nat) (h : BO u b (.cells (a0 :: a1 :: a2 :: a3 :: r).toArray T)) : u.cell? ⟨b, 0, none⟩ = some a0 ∧ u.cell? ⟨b, 1, none⟩ = some a1 ∧ u.cell? ⟨b, 2, none⟩ = some a2 ∧ u.cell? ⟨b, 3, none⟩ = some a3 := ⟨(h.get 0 (by simp)).1, (h.get 1 (by simp)).1, (h.get 2 (by simp)).1, (h.get 3 (by simp)).1⟩
theorem Br {a0 a1 a2 a3 a4 : Value} {r : List Value} {T : TypeId} (u : World) (b : Nat) (h : BO u b (.cells (a0 :: a1 :: a2 :: a3 :: a4 :: r).toArray T)) : u.cell? ⟨b, 0, none⟩ = some a0 ∧ u.cell? ⟨b, 1, none⟩ = some a1 ∧ u.cell? ⟨b, 2, none⟩ = some a2 ∧ u.cell? ⟨b, 3, none⟩ = some a3 ∧ u.cell? ⟨b, 4, none⟩ = some a4 := ⟨(h.get 0 (by simp)).1, (h.get 1 (by simp)).1, (h.get 2 (by simp)).1, (h.get 3 (by simp)).1, (h.get 4 (by simp)).1⟩
theorem Gx {a0 a1 : Value} {r : List Value} {T : TypeId} (u : World) (b : Nat) (R : Prop) (h : BO u b (.cells (a0 :: a1 :: r).toArray T)) (g : R) : u.cell? ⟨b, 0, none⟩ = some a0 ∧ u.cell? ⟨b, 1, none⟩ = some a1 ∧ R := ⟨(h.get 0 (by simp)).1, (h.get 1 (by simp)).1, g⟩
theorem vw {a0 a1 a2 : Value} {r : List Value} {T : TypeId} (u : World) (b : Nat) (R : Prop) (h : BO u b (.cells (a0 :: a1 :: a2 :: r).toArray T)) (g : R) : u.cell? ⟨b, 0, none⟩ = some a0 ∧ u.cell? ⟨b, 1, none⟩ = some a1 ∧ u.cell? ⟨b, 2, none⟩ = some a2 ∧ R := ⟨(h.get 0 (by simp)).1, (h.get 1 (by simp)).1, (h.get 2 (by simp)).1, g⟩
theorem KN {a0 a1 a2 a3 : Value} {r : List Value} {T : TypeId} (u : World) (b : Nat) (R : Prop) (h : BO u b (.cells (a0 :: a1 :: a2 :: a3 :: r).toArray T)) (g : R) : u.cell? ⟨b, 0, none⟩ = some a0 ∧ u.cell? ⟨b, 1, none⟩ = some a1 ∧ u.cell? ⟨b, 2, none⟩ = some a2 ∧ u.cell? ⟨b, 3, none⟩ = some a3 ∧ R := ⟨(h.get 0 (by simp)).1, (h.get 1 (by simp)).1, (h.get 2 (by simp)).1, (h.get 3 (by simp)).1, g⟩
theorem XZ {u : World} {b : Nat} {a0 : Value} {r : List Value} {T : TypeId} (h : BO u b (.cells (a0 :: r).toArray T)) : Own u ⟨b, 0, none⟩ a0 := h.get 0 (by simp)
theorem st1 {c0 : Array Value} {T0 : TypeId} {C0 : World → Nat → Prop} (o0 : Obj) (h0 : ∀ u b, BO u b (.cells c0 T0) → C0 u b) (w : World) (q0 : o0 = .cells c0 T0 := by rfl) : ∃ w0, Hid ((w.alloc o0) = w0) ∧ Hid (Below w.heap.size w w0) ∧ Hid (∀ u : World, Hid (Below w0.heap.size w0 u) → C0 u (w.heap.size)) := by
 subst q0
 have p0 : BO ((w.alloc (.cells c0 T0))) (w.heap.size) (.cells c0 T0) := BO.new w c0 T0
 exact ⟨_, aa rfl, aa (ai _ _), aa (fun u h => h0 _ _ (p0.below h.out))⟩
theorem st2 {c0 c1 : Array Value} {T0 T1 : TypeId} {C0 : World → Nat → Prop → Prop} {C1 : World → Nat → Prop} (o0 : Obj) (h0 : ∀ u b R, BO u b (.cells c0 T0) → R → C0 u b R) (o1 : Obj) (h1 : ∀ u b, BO u b (.cells c1 T1) → C1 u b) (w : World) (q0 : o0 = .cells c0 T0 := by rfl) (q1 : o1 = .cells c1 T1 := by rfl) : ∃ w0, Hid (((w.alloc o0).alloc o1) = w0) ∧ Hid (Below w.heap.size w w0) ∧ Hid (∀ u : World, Hid (Below w0.heap.size w0 u) → C0 u (w.heap.size) (C1 u (w.heap.size + 1))) := by
 subst q0 q1
 have p0 : BO (((w.alloc (.cells c0 T0)).alloc (.cells c1 T1))) (w.heap.size) (.cells c0 T0) := BO.below (BO.new w c0 T0) (ai _ _)
 have p1 : BO (((w.alloc (.cells c0 T0)).alloc (.cells c1 T1))) (w.heap.size + 1) (.cells c1 T1) := (show (w.alloc (.cells c0 T0)).heap.size = w.heap.size + 1 by simp) ▸ BO.new (w.alloc (.cells c0 T0)) c1 T1
 exact ⟨_, aa rfl, aa (af (ai _ _) (ai _ _)), aa (fun u h => h0 _ _ _ (p0.below h.out) (h1 _ _ (p1.below h.out)))⟩
theorem xQ {c0 c1 c2 : Array Value} {T0 T1 T2 : TypeId} {C0 : World → Nat → Prop → Prop} {C1 : World → Nat → Prop → Prop} {C2 : World → Nat → Prop} (o0 : Obj) (h0 : ∀ u b R, BO u b (.cells c0 T0) → R → C0 u b R) (o1 : Obj) (h1 : ∀ u b R, BO u b (.cells c1 T1) → R → C1 u b R) (o2 : Obj) (h2 : ∀ u b, BO u b (.cells c2 T2) → C2 u b) (w : World) (q0 : o0 = .cells c0 T0 := by rfl) (q1 : o1 = .cells c1 T1 := by rfl) (q2 : o2 = .cells c2 T2 := by rfl) : ∃ w0, Hid ((((w.alloc o0).alloc o1).alloc o2) = w0) ∧ Hid (Below w.heap.size w w0) ∧ Hid (∀ u : World, Hid (Below w0.heap.size w0 u) → C0 u (w.heap.size) (C1 u (w.heap.size + 1) (C2 u (w.heap.size + 2)))) := by
 subst q0 q1 q2
 have p0 : BO ((((w.alloc (.cells c0 T0)).alloc (.cells c1 T1)).alloc (.cells c2 T2))) (w.heap.size) (.cells c0 T0) := BO.below (BO.below (BO.new w c0 T0) (ai _ _)) (ai _ _)
 have p1 : BO ((((w.alloc (.cells c0 T0)).alloc (.cells c1 T1)).alloc (.cells c2 T2))) (w.heap.size + 1) (.cells c1 T1) := BO.below ((show (w.alloc (.cells c0 T0)).heap.size = w.heap.size + 1 by simp) ▸ BO.new (w.alloc (.cells c0 T0)) c1 T1) (ai _ _)
 have p2 : BO ((((w.alloc (.cells c0 T0)).alloc (.cells c1 T1)).alloc (.cells c2 T2))) (w.heap.size + 2) (.cells c2 T2) := (show ((w.alloc (.cells c0 T0)).alloc (.cells c1 T1)).heap.size = w.heap.size + 2 by simp) ▸ BO.new ((w.alloc (.cells c0 T0)).alloc (.cells c1 T1)) c2 T2
 exact ⟨_, aa rfl, aa (af (af (ai _ _) (ai _ _)) (ai _ _)), aa (fun u h => h0 _ _ _ (p0.below h.out) (h1 _ _ _ (p1.below h.out) (h2 _ _ (p2.below h.out))))⟩
theorem su {c : Array Value} {T : TypeId} {C : World → Nat → Prop} (o : Obj) (e : ∀ u b, BO u b (.cells c T) → C u b) (w : World) (q : o = .cells c T := by rfl) : ∃ w2, w.alloc o = w2 ∧ Hid (Below w.heap.size w w2) ∧ Hid (w2.heap.size = w.heap.size + 1) ∧ Hid (w2.heap[w.heap.size]? = some o) ∧ Hid (∀ u : World, Hid (Below w2.heap.size w2 u) → C u w.heap.size) := by
 subst q
 exact ⟨_, rfl, aa (ai _ _), aa (by simp), aa (heap_alloc_new _ _), aa (fun u h => e _ _ ((BO.new w c T).below h.out))⟩
theorem qq : (∀ {α : Type} (xs : List α) (i : Nat) (h : i < xs.toArray.size), xs.toArray[i] = xs[i]'(by simpa using h)) ∧ (∀ {α : Type} (a : α) (l : List α) (h : 0 < (a :: l).length), getElem (a :: l) 0 h = a) ∧
  (∀ {α : Type} (a : α) (l : List α) (i : Nat) (h : i + 1 < (a :: l).length), getElem (a :: l) (i+1) h = getElem l i (Nat.lt_of_succ_lt_succ h)) ∧
  (∀ (a : Act) (d : Tmp) (v : Value), a.put (some d) v = { a with tmps := a.tmps.setIfInBounds d v }) ∧ (∀ (a : Act) (v : Value), a.put none v = a) ∧
  (∀ {α : Type} (l : List α) (i : Nat) (a : α), l.toArray.setIfInBounds i a = (l.set i a).toArray) ∧ (∀ {α : Type} (x : α) (xs : List α) (a : α), (x :: xs).set 0 a = a :: xs) ∧ (∀ {α : Type} (x : α) (xs : List α) (i : Nat) (a : α), (x :: xs).set (i + 1) a = x :: xs.set i a) ∧
  (∀ a b : Value, cond true a b = a) ∧ (∀ a b : Value, cond false a b = b) :=
 ⟨fun _ _ _ => rfl, fun _ _ _ => rfl, fun _ _ _ _ => rfl, fun _ _ _ => rfl, fun _ _ => rfl, fun l i a => List.setIfInBounds_toArray l i a, fun _ _ _ => rfl, fun _ _ _ _ => rfl, fun _ _ => rfl, fun _ _ => rfl⟩
section
variable {P : Program} {ops : Array Oper} {Q : Exit → Act → World → Prop} {md : Region.Mode} {S : World → Prop} {E : List Nat}
theorem aQ (i : Nat) {oi : Oper} {v : Value} {fuel : Nat} {listed l2 : Array Bool} {a a2 : Act} {w : World} (h : jQ P md ops Q S E fuel l2 a2 w) (hi : ops[i]? = some oi := by rfl)
  (hs : Region.noSelect ops = true := by kernel_rfl) (hf : Region.free md ops listed i = true := by kernel_rfl) (hr : (Region.ready md ops listed).contains i = true := by kernel_rfl) (hl : nS md ops listed i E = true := by kernel_rfl)
  (hQ : ∀ c a w, Q (.panic c) (a.put oi.dst v) w → Q (.panic c) a w := by exact fun _ _ _ h => h) (hw : Region.wanted oi (yielded ops a.tmps) = true := by rfl)
  (hy : ∀ w, S w → (execOp a.eval oi).run P w = .ok (.value v) w := by intro wS hSw; have zS := hO.out wS hSw; go_simp <;> with_reducible rfl) (hS : S w := by assumption) (hn : listed.setIfInBounds i true = l2 ∧ a.put oi.dst v = a2 := by refine ⟨?_, ?_⟩ <;> (try simp only [qq]) <;> rfl) : jQ P md ops Q S E (fuel + 1) listed a w :=
 iL hi hs hf hr hl hQ (Or.inl ⟨hw, hy⟩) hS (hn.1 ▸ hn.2 ▸ h)
theorem eZ (i : Nat) {oi : Oper} {v : Value} {fuel : Nat} {listed l2 : Array Bool} {a a2 : Act} {w : World} (h : jQ P md ops Q S E fuel l2 a2 w) (hi : ops[i]? = some oi := by rfl)
  (hs : Region.noSelect ops = true := by kernel_rfl) (hf : Region.free md ops listed i = true := by kernel_rfl) (hr : (Region.ready md ops listed).contains i = true := by kernel_rfl) (hl : nS md ops listed i E = true := by kernel_rfl)
  (hQ : ∀ c a w, Q (.panic c) (a.put oi.dst v) w → Q (.panic c) a w := by exact fun _ _ _ h => h) (hw : Region.wanted oi (yielded ops a.tmps) = true := by rfl)
  (hy : ∀ w, S w → (execOp a.eval oi).run P w = .ok (.value v) w := by intro wS hSw; (try dsimp only at hSw); go_simp <;> with_reducible rfl) (hS : S w := by assumption) (hn : listed.setIfInBounds i true = l2 ∧ a.put oi.dst v = a2 := by refine ⟨?_, ?_⟩ <;> (try simp only [qq]) <;> rfl) : jQ P md ops Q S E (fuel + 1) listed a w :=
 iL hi hs hf hr hl hQ (Or.inl ⟨hw, hy⟩) hS (hn.1 ▸ hn.2 ▸ h)
theorem UD (i : Nat) {oi : Oper} (v : Value) {fuel : Nat} {listed l2 : Array Bool} {a a2 : Act} {w : World} (hi : ops[i]? = some oi) (hy : ∀ w, S w → (execOp a.eval oi).run P w = .ok (.value v) w) (h : jQ P md ops Q S E fuel l2 a2 w)
  (hs : Region.noSelect ops = true := by kernel_rfl) (hf : Region.free md ops listed i = true := by kernel_rfl) (hr : (Region.ready md ops listed).contains i = true := by kernel_rfl) (hl : nS md ops listed i E = true := by kernel_rfl)
  (hQ : ∀ c a w, Q (.panic c) (a.put oi.dst v) w → Q (.panic c) a w := by exact fun _ _ _ h => h) (hw : Region.wanted oi (yielded ops a.tmps) = true := by rfl) (hS : S w := by assumption) (hn : listed.setIfInBounds i true = l2 ∧ a.put oi.dst v = a2 := by refine ⟨?_, ?_⟩ <;> (try simp only [qq]) <;> rfl) : jQ P md ops Q S E (fuel + 1) listed a w :=
 iL hi hs hf hr hl hQ (Or.inl ⟨hw, hy⟩) hS (hn.1 ▸ hn.2 ▸ h)
theorem kH (i : Nat) {oi : Oper} {fuel : Nat} {listed l2 : Array Bool} {a a2 : Act} {w : World} (h : jQ P md ops Q S E fuel l2 a2 w) (hi : ops[i]? = some oi := by rfl)
  (hs : Region.noSelect ops = true := by kernel_rfl) (hf : Region.free md ops listed i = true := by kernel_rfl) (hr : (Region.ready md ops listed).contains i = true := by kernel_rfl) (hl : nS md ops listed i E = true := by kernel_rfl)
  (hQ : ∀ c a w, Q (.panic c) (a.put oi.dst undef) w → Q (.panic c) a w := by exact fun _ _ _ h => h) (hw : Region.wanted oi (yielded ops a.tmps) = false := by rfl) (hS : S w := by assumption) (hn : listed.setIfInBounds i true = l2 ∧ a.put oi.dst undef = a2 := by refine ⟨?_, ?_⟩ <;> (try simp only [qq]) <;> rfl) : jQ P md ops Q S E (fuel + 1) listed a w :=
 iL hi hs hf hr hl hQ (Or.inr ⟨hw, rfl⟩) hS (hn.1 ▸ hn.2 ▸ h)
theorem dO (i : Nat) {o : Oper} {fuel : Nat} {listed : Array Bool} {a : Act} {w : World}
  (h : ∀ K' : Act → World → Prop, Shut (∀ a w, S w → (S w → jQ P md ops Q S E fuel (listed.setIfInBounds i true) a w) → K' a w) → if Region.wanted o (yielded ops a.tmps) = true then Oper.wp P o a w K' Q else K' (a.put o.dst undef) w)
  (hr : Region.ready md ops listed = [i] := by kernel_rfl) (ho : ops[i]? = some o := by rfl) : jQ P md ops Q S E (fuel + 1) listed a w := KY hr ho h
def Gt (md : Region.Mode) (ops : Array Oper) (E : List Nat) (l : Array Bool) (i : Nat) : Bool := Region.noSelect ops && (Region.free md ops l i && ((Region.ready md ops l).contains i && nS md ops l i E))
theorem DU {i : Nat} {o : Oper} {v : Value} {fuel : Nat} {l l2 : Array Bool} {a a2 : Act} {w : World} (g : ops[i]? = some o) (c : Gt md ops E l i = true) (hw : Region.wanted o (yielded ops a.tmps) = true) (y : ∀ w, S w → (execOp a.eval o).run P w = .ok (.value v) w) (hS : S w) (n : l.setIfInBounds i true = l2 ∧ a.put o.dst v = a2)
    (q : ∀ d v c a w, Q (.panic c) (Act.put a d v) w → Q (.panic c) a w) (h : jQ P md ops Q S E fuel l2 a2 w) : jQ P md ops Q S E (fuel + 1) l a w := by
  simp only [Gt, Bool.and_eq_true] at c
  obtain ⟨rfl, rfl⟩ := n
  exact iL g c.1 c.2.1 c.2.2.1 c.2.2.2 (q _ _) (Or.inl ⟨hw, y⟩) hS h
theorem DV {i : Nat} {o : Oper} {fuel : Nat} {l l2 : Array Bool} {a a2 : Act} {w : World} (g : ops[i]? = some o) (c : Gt md ops E l i = true) (hw : Region.wanted o (yielded ops a.tmps) = false) (hS : S w) (n : l.setIfInBounds i true = l2 ∧ a.put o.dst undef = a2)
    (q : ∀ d v c a w, Q (.panic c) (Act.put a d v) w → Q (.panic c) a w) (h : jQ P md ops Q S E fuel l2 a2 w) : jQ P md ops Q S E (fuel + 1) l a w := by
  simp only [Gt, Bool.and_eq_true] at c
  obtain ⟨rfl, rfl⟩ := n
  exact iL g c.1 c.2.1 c.2.2.1 c.2.2.2 (q _ _) (Or.inr ⟨hw, rfl⟩) hS h
theorem gz (i0 i1 i2 i3 : Nat) {o0 o1 o2 o3 : Oper} {fuel : Nat} {l0 l1 l2 l3 l4 : Array Bool} {a0 a1 a2 a3 a4 : Act} {w : World} (h : jQ P md ops Q S E fuel l4 a4 w)
    (g0 : ops[i0]? = some o0 := by rfl) (c0 : Gt md ops E l0 i0 = true := by kernel_rfl) (w0 : Region.wanted o0 (yielded ops a0.tmps) = false := by rfl) (n0 : l0.setIfInBounds i0 true = l1 ∧ a0.put o0.dst undef = a1 := by refine ⟨?_, ?_⟩ <;> (try simp only [qq]) <;> rfl)
    (g1 : ops[i1]? = some o1 := by rfl) (c1 : Gt md ops E l1 i1 = true := by kernel_rfl) (w1 : Region.wanted o1 (yielded ops a1.tmps) = false := by rfl) (n1 : l1.setIfInBounds i1 true = l2 ∧ a1.put o1.dst undef = a2 := by refine ⟨?_, ?_⟩ <;> (try simp only [qq]) <;> rfl)
    (g2 : ops[i2]? = some o2 := by rfl) (c2 : Gt md ops E l2 i2 = true := by kernel_rfl) (w2 : Region.wanted o2 (yielded ops a2.tmps) = false := by rfl) (n2 : l2.setIfInBounds i2 true = l3 ∧ a2.put o2.dst undef = a3 := by refine ⟨?_, ?_⟩ <;> (try simp only [qq]) <;> rfl)
    (g3 : ops[i3]? = some o3 := by rfl) (c3 : Gt md ops E l3 i3 = true := by kernel_rfl) (w3 : Region.wanted o3 (yielded ops a3.tmps) = false := by rfl) (n3 : l3.setIfInBounds i3 true = l4 ∧ a3.put o3.dst undef = a4 := by refine ⟨?_, ?_⟩ <;> (try simp only [qq]) <;> rfl)
    (S0 : S w := by assumption) (q : ∀ d v c a w, Q (.panic c) (Act.put a d v) w → Q (.panic c) a w := by first | exact fun _ _ _ _ _ h => h | (intro d v c a w h; cases d <;> exact h)) : jQ P md ops Q S E (fuel + 4) l0 a0 w := DV g0 c0 w0 S0 n0 q (DV g1 c1 w1 S0 n1 q (DV g2 c2 w2 S0 n2 q (DV g3 c3 w3 S0 n3 q h)))
theorem aX (i0 i1 i2 i3 : Nat) {o0 o1 o2 o3 : Oper} {v0 v1 v2 v3 : Value} {fuel : Nat} {l0 l1 l2 l3 l4 : Array Bool} {a0 a1 a2 a3 a4 : Act} {w : World} (h : jQ P md ops Q S E fuel l4 a4 w)
    (g0 : ops[i0]? = some o0 := by rfl) (c0 : Gt md ops E l0 i0 = true := by kernel_rfl) (w0 : Region.wanted o0 (yielded ops a0.tmps) = true := by rfl) (y0 : ∀ w, S w → (execOp a0.eval o0).run P w = .ok (.value v0) w := by intro wS hSw; have zS := hO.out wS hSw; go_simp <;> with_reducible rfl) (n0 : l0.setIfInBounds i0 true = l1 ∧ a0.put o0.dst v0 = a1 := by refine ⟨?_, ?_⟩ <;> (try simp only [qq]) <;> rfl)
    (g1 : ops[i1]? = some o1 := by rfl) (c1 : Gt md ops E l1 i1 = true := by kernel_rfl) (w1 : Region.wanted o1 (yielded ops a1.tmps) = true := by rfl) (y1 : ∀ w, S w → (execOp a1.eval o1).run P w = .ok (.value v1) w := by intro wS hSw; have zS := hO.out wS hSw; go_simp <;> with_reducible rfl) (n1 : l1.setIfInBounds i1 true = l2 ∧ a1.put o1.dst v1 = a2 := by refine ⟨?_, ?_⟩ <;> (try simp only [qq]) <;> rfl)
    (g2 : ops[i2]? = some o2 := by rfl) (c2 : Gt md ops E l2 i2 = true := by kernel_rfl) (w2 : Region.wanted o2 (yielded ops a2.tmps) = true := by rfl) (y2 : ∀ w, S w → (execOp a2.eval o2).run P w = .ok (.value v2) w := by intro wS hSw; have zS := hO.out wS hSw; go_simp <;> with_reducible rfl) (n2 : l2.setIfInBounds i2 true = l3 ∧ a2.put o2.dst v2 = a3 := by refine ⟨?_, ?_⟩ <;> (try simp only [qq]) <;> rfl)
    (g3 : ops[i3]? = some o3 := by rfl) (c3 : Gt md ops E l3 i3 = true := by kernel_rfl) (w3 : Region.wanted o3 (yielded ops a3.tmps) = true := by rfl) (y3 : ∀ w, S w → (execOp a3.eval o3).run P w = .ok (.value v3) w := by intro wS hSw; have zS := hO.out wS hSw; go_simp <;> with_reducible rfl) (n3 : l3.setIfInBounds i3 true = l4 ∧ a3.put o3.dst v3 = a4 := by refine ⟨?_, ?_⟩ <;> (try simp only [qq]) <;> rfl)
    (S0 : S w := by assumption) (q : ∀ d v c a w, Q (.panic c) (Act.put a d v) w → Q (.panic c) a w := by first | exact fun _ _ _ _ _ h => h | (intro d v c a w h; cases d <;> exact h)) : jQ P md ops Q S E (fuel + 4) l0 a0 w := DU g0 c0 w0 y0 S0 n0 q (DU g1 c1 w1 y1 S0 n1 q (DU g2 c2 w2 y2 S0 n2 q (DU g3 c3 w3 y3 S0 n3 q h)))
theorem mo (i : Nat) {o : Oper} {fuel : Nat} {listed : Array Bool} {a : Act} {w : World}
  (h : ∀ K' : Act → World → Prop, Shut (∀ a w, jQ P md ops Q S E fuel (listed.setIfInBounds i true) a w → K' a w) → if Region.wanted o (yielded ops a.tmps) = true then Oper.wp P o a w K' Q else K' (a.put o.dst undef) w)
  (hr : Region.ready md ops listed = [i] := by kernel_rfl) (hE : i ∈ E := by simp) (ho : ops[i]? = some o := by rfl) : jQ P md ops Q S E (fuel + 1) listed a w := GU hr hE ho h
theorem jf {fuel : Nat} {listed : Array Bool} {a : Act} {w : World} (h : Q .normal a w) (hr : Region.ready md ops listed = [] := by kernel_rfl) : jQ P md ops Q S E fuel listed a w := GV hr h fuel
theorem BK {id : Nat} {a : Act} {w : World} (B : World → Prop) (E : List Nat) (hS : Hid (B w.drew)) (h : Hid (B w.drew) → jQ P .any ops Q (fun u => Hid (B u)) E ops.size (Array.replicate ops.size false) a w.drew)
  (hm : P.follows .mixedOrders = true := by kernel_rfl) : (Code.region id ops true).wp P Q a w := dZ hm hS h
theorem je {id : Nat} {a : Act} {w b : World} (E : List Nat) (hS : Hid (Below b.heap.size b w)) (h : Hid (Below b.heap.size b w.drew) → jQ P .any ops Q (fun u => Hid (Below b.heap.size b u)) E ops.size (Array.replicate ops.size false) a w.drew)
  (hm : P.follows .mixedOrders = true := by kernel_rfl) : (Code.region id ops true).wp P Q a w := dZ hm (cZ hS (Below.refl _ _).drew) h
end
theorem yD (P Q G x : Int) (b : Bool) (hb : Hid (a_ P Q x = b)) (h1 : P < 2305843009213693952) (FV : 0 ≤ Q) (hQ : Q < 9223372036854775808) (w : World) :
  Calls Tryz.prog 125 #[gv P Q G, .int .i64 x] w (Rt w (.bool b)) := by
 by_cases hx : x < 1
 ·
  obtain rfl : b = false := by rw [← hb.out]; simp [a_]; omega
  go_in
  go_wp2
  go_ret
  exact ⟨rfl, ai _ _⟩
 ·
  by_cases hx2 : P ≤ x
  ·
   obtain rfl : b = false := by rw [← hb.out]; simp [a_]; omega
   go_in
   go_wp2
   go_ret
   exact ⟨rfl, ai _ _⟩
  ·
   have d1 : decide (x < 1) = false := by simp; omega
   have d2 : decide (P ≤ x) = false := by simp; omega
   obtain ⟨y, hy⟩ : ∃ y, pw x Q P = y := ⟨_, rfl⟩
   have g9 : ((y : Int) == 1) = b := by
    rw [← hb.out, ← hy, a_, Bool.eq_iff_iff]
    simp only [beq_iff_eq, decide_eq_true_eq]
    exact ⟨fun h => ⟨by omega, by omega, h⟩, fun h => h.2.2⟩
   have HX := aa hy
   clear hy hb
   go_in
   go_wp2_with fail
   refine (tY x Q P (by omega) h1 (by omega) (by omega) FV hQ _).mono ?_
   rintro e w' ⟨rfl, n3, rfl⟩
   rw [HX.out]
   go_wp2
   go_ret
   exact ⟨rfl, bV _ _ _⟩
def cu (Q x : Int) : Bool := decide (0 ≤ x) && decide (x < Q)
theorem Hy (P Q G : Int) (a : Nat) (h1 : P < 2305843009213693952) (FV : 0 ≤ Q) (hQ : Q < 9223372036854775808) (W : World) (hx : Hid (eO W a P Q G)) :
  Says 124 #[.pointer (some ⟨a, 0, none⟩)] (fun x => !a_ P Q x) W := fun x w1 hb => by
 show Calls Tryz.prog 124 #[.int .i64 x, .pointer (some ⟨a, 0, none⟩)] w1 fun e w' => e = .returned (.bool (!a_ P Q x)) ∧ Below w1.heap.size w1 w'
 obtain ⟨c0, c1, c2⟩ := hx.out.below hb
 obtain ⟨r, hr⟩ : ∃ r, a_ P Q x = r := ⟨_, rfl⟩
 have HR := aa hr
 rw [hr]
 clear hr hb
 go_in
 go_wp2_with fail
 refine (yD P Q G x r HR h1 FV hQ _).mono ?_
 rintro e w2 ⟨rfl, hb0⟩
 go_wp2
 go_ret
 exact ⟨rfl, hb0⟩
theorem Hw (P Q G : Int) (a : Nat) (W : World) (hx : Hid (eO W a P Q G)) :
  Says 127 #[.pointer (some ⟨a, 0, none⟩)] (fun x => !cu Q x) W := fun x w1 hb => by
 show Calls Tryz.prog 127 #[.int .i64 x, .pointer (some ⟨a, 0, none⟩)] w1 fun e w' => e = .returned (.bool (!cu Q x)) ∧ Below w1.heap.size w1 w'
 obtain ⟨c0, c1, c2⟩ := hx.out.below hb
 by_cases h0 : x < 0
 ·
  have e : cu Q x = false := by simp [cu]; omega
  rw [e]
  have d0 : decide (x < 0) = true := by simp; omega
  clear hb e
  go_in
  go_wp2
  go_ret
  exact ⟨rfl, Below.refl _ _⟩
 ·
  have d0 : decide (x < 0) = false := by simp; omega
  obtain ⟨t, ht⟩ : ∃ t, decide (Q ≤ x) = t := ⟨_, rfl⟩
  have e : cu Q x = !t := by
   rw [← ht, cu, decide_eq_true (show (0 : Int) ≤ x by omega), Bool.true_and, ← decide_not]
   exact decide_eq_decide.2 (by omega)
  rw [e, Bool.not_not]
  clear hb e
  go_in
  go_wp2
  go_ret
  exact ⟨by first | rfl | rw [ht], Below.refl _ _⟩
theorem jZ {f : Int → Bool} {xs : List Int} : (xs.any fun x => !f x) = !(xs.all f) := by
 induction xs with
 | nil => rfl
 | cons x xs ih => rw [List.any_cons, List.all_cons, ih, Bool.not_and]
theorem gX (P Q G : Int) (A : Option Addr) (xs : List Int) (n c : Nat) (r : Bool) (hr : Hid (xs.all (a_ P Q) = r)) (hn : Hid (xs.length = n)) (hbig : Hid (n < 1000000)) (h1 : P < 2305843009213693952) (FV : 0 ≤ Q) (hQ : Q < 9223372036854775808) (w : World) (hs : Hid (Sl w A xs)) :
  Calls Tryz.prog 93 #[gv P Q G, .slice A n c] w (Rt w (.bool r)) := by
 have HX0 := aa (az w P Q G)
 have sD := aa (hs.out.below (ai w (aN P Q G)))
 have Kk := aa (Hy P Q G w.heap.size h1 FV hQ _ HX0)
 have HP : Hid ((xs.any fun x => !a_ P Q x) = !r) := aa (by rw [jZ, hr.out])
 clear hs
 go_in
 go_wp2_with fail
 refine (OZ (.pointer (some ⟨w.heap.size, 0, none⟩)) (fun x => !a_ P Q x) (!r) A xs n c HP hn hbig _ sD Kk).mono ?_
 rintro e w1 ⟨rfl, hb0⟩
 have hb1 := af (ai _ _) hb0
 clear hb0
 go_wp2
 go_ret
 exact ⟨by simp, hb1⟩
theorem bG (P Q G : Int) (A : Option Addr) (xs : List Int) (n c : Nat) (r : Bool) (hr : Hid (xs.all (cu Q) = r)) (hn : Hid (xs.length = n)) (hbig : Hid (n < 1000000)) (w : World) (hs : Hid (Sl w A xs)) :
  Calls Tryz.prog 97 #[gv P Q G, .slice A n c] w (Rt w (.bool r)) := by
 have HX0 := aa (az w P Q G)
 have sD := aa (hs.out.below (ai w (aN P Q G)))
 have Kk := aa (Hw P Q G w.heap.size _ HX0)
 have HP : Hid ((xs.any fun x => !cu Q x) = !r) := aa (by rw [jZ, hr.out])
 clear hs
 go_in
 go_wp2_with fail
 refine (OY (.pointer (some ⟨w.heap.size, 0, none⟩)) (fun x => !cu Q x) (!r) A xs n c HP hn hbig _ sD Kk).mono ?_
 rintro e w1 ⟨rfl, hb0⟩
 have hb1 := af (ai _ _) hb0
 clear hb0
 go_wp2
 go_ret
 exact ⟨by simp, hb1⟩
structure Row where
 p : Option Addr
 n : Nat
 c : Nat
 xs : List Int
abbrev Row.val (r : Row) : Value := .slice r.p r.n r.c
abbrev aG : Row := ⟨none, 0, 0, []⟩
def l5 (w : World) (r : Row) : Prop := r.xs.length = r.n ∧ Sl w r.p r.xs
theorem l5.below {w w' : World} {r : Row} (h : l5 w r) (hb : Below w.heap.size w w') : l5 w' r := ⟨h.1, h.2.below hb⟩
def Rw (w : World) (A : Option Addr) (rs : List Row) : Prop := ∀ k, k < rs.length → (∃ b o, A = some ⟨b, o, none⟩ ∧ w.cell? ⟨b, o + k, none⟩ = some (rs.getD k aG).val) ∧ l5 w (rs.getD k aG)
theorem Rw.below {w w' : World} {A : Option Addr} {rs : List Row} (h : Rw w A rs) (hb : Below w.heap.size w w') : Rw w' A rs := fun k hk => by
 obtain ⟨⟨b, o, h1, h2⟩, h3⟩ := h k hk
 exact ⟨⟨b, o, h1, (hb.cell (World.block_lt_of_cell? _ _ h2)).trans h2⟩, h3.below hb⟩
def xz (g : FuncId) (caps : Array Value) (p : Row → Bool) (W : World) : Prop :=
 ∀ (r : Row) (w1 : World), Below W.heap.size W w1 → l5 w1 r → Calls Tryz.prog g (#[r.val] ++ caps) w1 fun e w' => e = .returned (.bool (p r)) ∧ Below w1.heap.size w1 w'
theorem xw {f : Row → Bool} {xs : List Row} {k : Nat} (hk : k < xs.length) (h : f (xs.getD k aG) = false) : (xs.drop k).any f = (xs.drop (k + 1)).any f := by
 rw [List.drop_eq_getElem_cons hk, List.any_cons]
 rw [List.getD_eq_getElem?_getD, List.getElem?_eq_getElem hk] at h
 simp at h
 rw [h, Bool.false_or]
theorem Bc {f : Row → Bool} {xs : List Row} {k : Nat} (hk : k < xs.length) (h : f (xs.getD k aG) = true) : (xs.drop k).any f = true := by
 rw [List.drop_eq_getElem_cons hk, List.any_cons]
 rw [List.getD_eq_getElem?_getD, List.getElem?_eq_getElem hk] at h
 simp at h
 rw [h, Bool.true_or]
def Ep (p : Row → Bool) (xs : List Row) (w : World) (e : Ending) (w' : World) : Prop := ∃ i : Int, e = .returned (.int .i64 i) ∧ decide (0 ≤ i) = xs.any p ∧ Below w.heap.size w w'
theorem LW (c0 : Value) (c1 : Value) (p : Row → Bool) (A : Option Addr) (xs : List Row) (n c : Nat) (hn : Hid (xs.length = n)) (hbig : Hid (n < 1000000)) (w : World) (hs : Hid (Rw w A xs)) (hp : Hid (xz 95 #[c0, c1] p w)) :
  Calls Tryz.prog 126 #[.slice A n c, .func (.func 95) #[] #[c0, c1]] w (Ep p xs w) := by
 have hn0 : n < 1000000 := hbig.out
 go_in
 go_wp2
 go_loopw [8] (fun i wr => ∃ k : Nat, k ≤ n ∧ i = .int .i64 k ∧ Hid (xs.any p = (xs.drop k).any p) ∧ Hid (Below w.heap.size w wr)) (fun i _ => n - (intOf i).toNat)
 case atStart => exact ⟨0, by omega, rfl, aa rfl, aa (Below.refl _ _)⟩
 case round =>
  obtain ⟨k, hk, rfl, HR, aF⟩ := hrel
  by_cases hlt : k < n
  ·
   have hkl : k < xs.length := by rw [hn.out]; exact hlt
   obtain ⟨⟨b, o, hA, hi⟩, hok⟩ := hs.out.below aF.out k hkl
   subst hA
   cases hpx : p (xs.getD k aG) with
   | false =>
    have HN : Hid (xs.any p = (xs.drop (k + 1)).any p) := aa (HR.out.trans (xw hkl hpx))
    obtain ⟨x, hx⟩ : ∃ x, xs.getD k aG = x := ⟨_, rfl⟩
    rw [hx] at hi hpx hok
    have HC := aa (hp.out x wr aF.out hok)
    have ql := aa hpx
    obtain ⟨xp, xn, xc, xl⟩ := x
    dsimp only [Row.val] at hi
    clear hx hkl hpx HR hok
    go_wp2_with fail
    refine HC.out.mono ?_
    rintro e w2 ⟨rfl, hb0⟩
    rw [ql.out]
    have HB2 := aa (af aF.out hb0)
    clear hb0
    go_wp2
    go_roundw
    case rel => exact ⟨k + 1, by omega, by go_num, HN, HB2⟩
    case measure => simp [intOf]; omega
   | true =>
    have HN : Hid (decide ((0 : Int) ≤ (k : Int)) = xs.any p) := aa (by rw [HR.out, Bc hkl hpx]; simp)
    obtain ⟨x, hx⟩ : ∃ x, xs.getD k aG = x := ⟨_, rfl⟩
    rw [hx] at hi hpx hok
    have HC := aa (hp.out x wr aF.out hok)
    have ql := aa hpx
    obtain ⟨xp, xn, xc, xl⟩ := x
    dsimp only [Row.val] at hi
    clear hx hkl hpx HR hok
    go_wp2_with fail
    refine HC.out.mono ?_
    rintro e w2 ⟨rfl, hb0⟩
    rw [ql.out]
    have HB2 := aa (af aF.out hb0)
    clear hb0
    go_wp2
    go_ret
    exact ⟨k, rfl, HN.out, HB2.out⟩
  ·
   obtain rfl : k = n := by omega
   have HN : Hid (decide ((0 : Int) ≤ (-1 : Int)) = xs.any p) := aa (by rw [HR.out, ← hn.out]; simp)
   clear HR hlt
   go_wp2
   go_ret
   exact ⟨-1, rfl, HN.out, aF.out⟩
theorem OV (c0 : Value) (c1 : Value) (p : Row → Bool) (r : Bool) (A : Option Addr) (xs : List Row) (n c : Nat) (hr : Hid (xs.any p = r)) (hn : Hid (xs.length = n)) (hbig : Hid (n < 1000000)) (w : World) (hs : Hid (Rw w A xs)) (hp : Hid (xz 95 #[c0, c1] p w)) :
  Calls Tryz.prog 94 #[.slice A n c, .func (.func 95) #[] #[c0, c1]] w (Rt w (.bool r)) := by
 go_in
 go_wp2_with fail
 refine (LW c0 c1 p A xs n c hn hbig _ hs hp).mono ?_
 rintro e w1 ⟨i, rfl, hi, hb1⟩
 have hd : decide ((0 : Int) ≤ i) = r := hi.trans hr.out
 clear hi
 go_wp2
 go_ret
 exact ⟨by first | rfl | (rw [← hd]) | simp [hd], hb1⟩
abbrev dm (Y : Option Addr) (yn yc : Nat) (B : Option Addr) (bn bc : Nat) : Value := .agg #[.slice Y yn yc, .slice B bn bc]
abbrev dW (Y : Option Addr) (yn yc : Nat) (B : Option Addr) (bn bc : Nat) : Obj := .cells #[.slice Y yn yc, .slice B bn bc] 27
def iQ (w : World) (a : Nat) (u v : Value) : Prop := w.cell? ⟨a, 0, none⟩ = some u ∧ w.cell? ⟨a, 1, none⟩ = some v
theorem iQ.below {w w' : World} {a : Nat} {u v : Value} (h : iQ w a u v) (hb : Below w.heap.size w w') : iQ w' a u v :=
 ⟨(hb.cell (World.block_lt_of_cell? _ _ h.1)).trans h.1, (hb.cell (World.block_lt_of_cell? _ _ h.2)).trans h.2⟩
theorem zQ (w : World) (T : TypeId) (u v : Value) : iQ (w.alloc (.cells #[u, v] T)) w.heap.size u v := ⟨World.cell?_alloc_at _ _ _ _ rfl, World.cell?_alloc_at _ _ _ _ rfl⟩
theorem aV (w : World) (o : Obj) (T : TypeId) (u v : Value) : iQ ((w.alloc o).alloc (.cells #[u, v] T)) (w.heap.size + 1) u v := by
 have e : (w.alloc o).heap.size = w.heap.size + 1 := by simp
 rw [← e]
 exact zQ _ _ _ _
theorem Rw.at {w : World} {b o : Nat} {rs : List Row} (h : Rw w (some ⟨b, o, none⟩) rs) {k : Nat} (hk : k < rs.length) : w.cell? ⟨b, o + k, none⟩ = some (rs.getD k aG).val := by
 obtain ⟨⟨b', o', h1, h2⟩, _⟩ := h k hk
 cases h1
 exact h2
theorem Rw.head {w : World} {b o : Nat} {rs : List Row} {p : Option Addr} {n c : Nat} {xs : List Int} (h : Rw w (some ⟨b, o, none⟩) rs) (hk : 0 < rs.length) (e : rs.getD 0 aG = ⟨p, n, c, xs⟩) : w.cell? ⟨b, o, none⟩ = some (.slice p n c) := by
 have h2 := h.at hk
 rw [e, Nat.add_zero] at h2
 exact h2
theorem Rw.some {w : World} {B : Option Addr} {rs : List Row} (h : Rw w B rs) (hk : 0 < rs.length) : ∃ b o, B = some ⟨b, o, none⟩ := by
 obtain ⟨⟨b, o, h1, _⟩, _⟩ := h 0 hk
 exact ⟨b, o, h1⟩
def jd (P Q : Int) (n : Nat) (r : Row) : Bool := decide (r.n = n) && r.xs.all (a_ P Q)
def aU (rows : List Row) : Nat := (rows.getD 0 aG).n
def aP (P Q G : Int) (ys : List Int) (rows : List Row) : Bool :=
 aJ P Q G && (decide (1 ≤ ys.length) && (decide (ys.length ≤ 8) && (decide (rows.length = ys.length) && (ys.all (a_ P Q) && (decide (1 ≤ aU rows) && (decide (aU rows ≤ 12) && rows.all (jd P Q (aU rows))))))))
theorem bJ (Y : Option Addr) (yn yc : Nat) (B : Option Addr) (rows : List Row) (bn bc n : Nat) (hbn : Hid (rows.length = bn)) (hpos : 0 < bn) (hn : Hid (aU rows = n)) (w : World) (hB : Hid (Rw w B rows)) :
  Calls Tryz.prog 96 #[dm Y yn yc B bn bc] w (Rt w (.int .i64 n)) := by
 obtain ⟨b, o, rfl⟩ := hB.out.some (by rw [hbn.out]; exact hpos)
 obtain ⟨R, hR⟩ : ∃ R, rows.getD 0 aG = R := ⟨_, rfl⟩
 obtain ⟨p, n0, k, xs⟩ := R
 obtain rfl : n0 = n := by rw [← hn.out, aU, hR]
 have hc := (hB.out.below (ai w (dW Y yn yc (some ⟨b, o, none⟩) bn bc))).head (by rw [hbn.out]; exact hpos) hR
 clear hR hB hn
 go_in
 go_wp2
 go_ret
 exact ⟨rfl, ai _ _⟩
theorem eB (Y : Option Addr) (yn yc : Nat) (B : Option Addr) (rows : List Row) (bn bc n : Nat) (hbn : Hid (rows.length = bn)) (hpos : 0 < bn) (hn : Hid (aU rows = n)) (w : World) (hB : Hid (Rw w B rows)) :
  Calls Tryz.prog 89 #[dm Y yn yc B bn bc] w (Rt w (.int .i64 n)) := by
 obtain ⟨b, o, rfl⟩ := hB.out.some (by rw [hbn.out]; exact hpos)
 obtain ⟨R, hR⟩ : ∃ R, rows.getD 0 aG = R := ⟨_, rfl⟩
 obtain ⟨p, n0, k, xs⟩ := R
 obtain rfl : n0 = n := by rw [← hn.out, aU, hR]
 have hc := (hB.out.below (ai w (dW Y yn yc (some ⟨b, o, none⟩) bn bc))).head (by rw [hbn.out]; exact hpos) hR
 clear hR hB hn
 go_in
 go_wp2
 go_ret
 exact ⟨rfl, ai _ _⟩
theorem Lc (P Q G : Int) (n a g : Nat) (h1 : P < 2305843009213693952) (FV : 0 ≤ Q) (hQ : Q < 9223372036854775808) (UW : n ≤ 12) (W : World) (hn : Hid (W.cell? ⟨a, 0, none⟩ = some (.int .i64 n))) (hx : Hid (eO W g P Q G)) :
  xz 95 #[.pointer (some ⟨a, 0, none⟩), .pointer (some ⟨g, 0, none⟩)] (fun r => !jd P Q n r) W := fun r w1 hb hok => by
 obtain ⟨p, m, c, xs⟩ := r
 show Calls Tryz.prog 95 #[.slice p m c, .pointer (some ⟨a, 0, none⟩), .pointer (some ⟨g, 0, none⟩)] w1 fun e w' => e = .returned (.bool (!jd P Q n ⟨p, m, c, xs⟩)) ∧ Below w1.heap.size w1 w'
 obtain ⟨c0, c1, c2⟩ := hx.out.below hb
 have ca := cell_below hn.out hb
 have hl : xs.length = m := hok.1
 have HS : Hid (Sl w1 p xs) := aa hok.2
 by_cases hm : m = n
 ·
  subst hm
  obtain ⟨r, hr⟩ : ∃ r, xs.all (a_ P Q) = r := ⟨_, rfl⟩
  have e : jd P Q m ⟨p, m, c, xs⟩ = r := by simp [jd, hr]
  rw [e]
  have HR := aa hr
  have HL := aa hl
  clear hr hb hok e hl
  go_in
  go_wp2_with fail
  refine (gX P Q G p xs m c r HR HL (aa (by omega)) h1 FV hQ _ HS).mono ?_
  rintro e w2 ⟨rfl, hb0⟩
  go_wp2
  go_ret
  exact ⟨rfl, hb0⟩
 ·
  have e : jd P Q n ⟨p, m, c, xs⟩ = false := by simp [jd, hm]
  rw [e]
  have hne : ((m : Int) != (n : Int)) = true := by simp; omega
  clear hb hok e hl
  go_in
  go_wp2
  go_ret
  exact ⟨rfl, Below.refl _ _⟩
theorem yV {f : Row → Bool} {xs : List Row} : (xs.any fun x => !f x) = !(xs.all f) := by
 induction xs with
 | nil => rfl
 | cons x xs ih => rw [List.any_cons, List.all_cons, ih, Bool.not_and]
theorem bH (P Q G : Int) (Y : Option Addr) (ys : List Int) (yn yc : Nat) (B : Option Addr) (rows : List Row) (bn bc : Nat) (r : Bool) (hr : Hid (aP P Q G ys rows = r)) (hyn : Hid (ys.length = yn)) (hbn : Hid (rows.length = bn)) (hQ : Q < 9223372036854775808) (w : World) (hv : Hid (Vars w)) (hY : Hid (Sl w Y ys)) (hB : Hid (Rw w B rows)) :
  Calls Tryz.prog 48 #[gv P Q G, dm Y yn yc B bn bc] w (Rt w (.bool r)) := by
 obtain ⟨w0, hW⟩ : ∃ W, (w.alloc (aN P Q G)).alloc (dW Y yn yc B bn bc) = W := ⟨_, rfl⟩
 have av : Hid (Below w.heap.size w w0) := aa (by rw [← hW]; exact aB (Below.refl _ _))
 have HX0 : Hid (eO w0 w.heap.size P Q G) := aa (by rw [← hW]; exact (az w P Q G).below (ai _ _))
 have dY : Hid (iQ w0 (w.heap.size + 1) (.slice Y yn yc) (.slice B bn bc)) := aa (by rw [← hW]; exact aV _ _ _ _ _)
 have gu : Hid (Sl w0 Y ys) := aa (hY.out.below av.out)
 have fA : Hid (Rw w0 B rows) := aa (hB.out.below av.out)
 have ig : Hid (Vars w0) := aa (hv.out.below av.out)
 have HW := aa hW
 clear hW hY hv
 have hr' := hr.out
 rw [aP, hyn.out, hbn.out] at hr'
 cases hval : aJ P Q G with
 | false =>
  obtain rfl : r = false := by rw [← hr', hval, Bool.false_and]
  have cB := aa hval
  clear hr hr' hval hB
  go_in
  go_wp2_with fail
  rw [HW.out]
  go_wp2_with fail
  refine (bK P Q G false cB hQ _ ig).mono ?_
  rintro e w1 ⟨rfl, hb0⟩
  have hb1 := af (av.out) hb0
  have gT := aa (ig.out.below hb0)
  have fT := aa (HX0.out.below hb0)
  have HR1 := aa (dY.out.below hb0)
  have mZ := aa (gu.out.below hb0)
  have fI := aa (fA.out.below hb0)
  clear hb0
  obtain ⟨c0, c1, c2⟩ := fT.out
  obtain ⟨d0, d1⟩ := HR1.out
  go_wp2
  go_ret
  exact ⟨rfl, hb1⟩
 | true =>
  obtain ⟨hp2, hp, hq3, wK⟩ := aM hval
  have cB := aa hval
  rw [hval, Bool.true_and] at hr'
  clear hval
  by_cases h1 : yn < 1
  ·
   obtain rfl : r = false := by rw [← hr', decide_eq_false (show ¬ 1 ≤ yn by omega)]; rfl
   have VE : decide ((yn : Int) < 1) = true := by simp; omega
   clear hr hr' hB
   go_in
   go_wp2_with fail
   rw [HW.out]
   go_wp2_with fail
   refine (bK P Q G true cB hQ _ ig).mono ?_
   rintro e w1 ⟨rfl, hb0⟩
   have hb1 := af (av.out) hb0
   have gT := aa (ig.out.below hb0)
   have fT := aa (HX0.out.below hb0)
   have HR1 := aa (dY.out.below hb0)
   have mZ := aa (gu.out.below hb0)
   have fI := aa (fA.out.below hb0)
   clear hb0
   obtain ⟨c0, c1, c2⟩ := fT.out
   obtain ⟨d0, d1⟩ := HR1.out
   go_wp2
   go_ret
   exact ⟨rfl, hb1⟩
  ·
   rw [decide_eq_true (show 1 ≤ yn by omega), Bool.true_and] at hr'
   have VE : decide ((yn : Int) < 1) = false := by simp; omega
   by_cases h2 : 8 < yn
   ·
    obtain rfl : r = false := by rw [← hr', decide_eq_false (show ¬ yn ≤ 8 by omega)]; rfl
    have VD : decide ((8 : Int) < (yn : Int)) = true := by simp; omega
    clear hr hr' hB
    go_in
    go_wp2_with fail
    rw [HW.out]
    go_wp2_with fail
    refine (bK P Q G true cB hQ _ ig).mono ?_
    rintro e w1 ⟨rfl, hb0⟩
    have hb1 := af (av.out) hb0
    have gT := aa (ig.out.below hb0)
    have fT := aa (HX0.out.below hb0)
    have HR1 := aa (dY.out.below hb0)
    have mZ := aa (gu.out.below hb0)
    have fI := aa (fA.out.below hb0)
    clear hb0
    obtain ⟨c0, c1, c2⟩ := fT.out
    obtain ⟨d0, d1⟩ := HR1.out
    go_wp2
    go_ret
    exact ⟨rfl, hb1⟩
   ·
    rw [decide_eq_true (show yn ≤ 8 by omega), Bool.true_and] at hr'
    have VD : decide ((8 : Int) < (yn : Int)) = false := by simp; omega
    by_cases h3 : ¬ bn = yn
    ·
     obtain rfl : r = false := by rw [← hr', decide_eq_false h3]; rfl
     have RQ : ((bn : Int) != (yn : Int)) = true := by simp; omega
     clear hr hr' hB
     go_in
     go_wp2_with fail
     rw [HW.out]
     go_wp2_with fail
     refine (bK P Q G true cB hQ _ ig).mono ?_
     rintro e w1 ⟨rfl, hb0⟩
     have hb1 := af (av.out) hb0
     have gT := aa (ig.out.below hb0)
     have fT := aa (HX0.out.below hb0)
     have HR1 := aa (dY.out.below hb0)
     have mZ := aa (gu.out.below hb0)
     have fI := aa (fA.out.below hb0)
     clear hb0
     obtain ⟨c0, c1, c2⟩ := fT.out
     obtain ⟨d0, d1⟩ := HR1.out
     go_wp2
     go_ret
     exact ⟨rfl, hb1⟩
    ·
     rw [decide_eq_true (show bn = yn by omega), Bool.true_and] at hr'
     have RQ : ((bn : Int) != (yn : Int)) = false := by simp; omega
     obtain rfl : bn = yn := by omega
     clear RQ h3
     cases h4 : ys.all (a_ P Q) with
     | false =>
      obtain rfl : r = false := by rw [← hr', h4]; rfl
      have HE := aa h4
      clear hr hr' hB h4
      go_in
      go_wp2_with fail
      rw [HW.out]
      go_wp2_with fail
      refine (bK P Q G true cB hQ _ ig).mono ?_
      rintro e w1 ⟨rfl, hb0⟩
      have hb1 := af (av.out) hb0
      have gT := aa (ig.out.below hb0)
      have fT := aa (HX0.out.below hb0)
      have HR1 := aa (dY.out.below hb0)
      have mZ := aa (gu.out.below hb0)
      have fI := aa (fA.out.below hb0)
      clear hb0
      obtain ⟨c0, c1, c2⟩ := fT.out
      obtain ⟨d0, d1⟩ := HR1.out
      go_wp2_with fail
      refine (gX P Q G Y ys bn yc false HE hyn (aa (by omega)) hp (by omega) hQ _ mZ).mono ?_
      rintro e w2 ⟨rfl, hb0⟩
      have hb2 := af hb1 hb0
      have ko := aa (gT.out.below hb0)
      have mD := aa (fT.out.below hb0)
      have HR2 := aa (HR1.out.below hb0)
      have Er := aa (mZ.out.below hb0)
      have nM := aa (fI.out.below hb0)
      clear c0 c1 c2 d0 d1 hb0
      obtain ⟨c0, c1, c2⟩ := mD.out
      obtain ⟨d0, d1⟩ := HR2.out
      go_wp2
      go_ret
      exact ⟨rfl, hb2⟩
     | true =>
      have HE := aa h4
      rw [h4, Bool.true_and] at hr'
      obtain ⟨b0, o0, rfl⟩ := hB.out.some (by rw [hbn.out]; omega)
      obtain ⟨R, hR⟩ : ∃ R, rows.getD 0 aG = R := ⟨_, rfl⟩
      obtain ⟨p0, n0, k0, x0⟩ := R
      have hN : aU rows = n0 := by rw [aU, hR]
      rw [hN] at hr'
      have hpos : 0 < rows.length := by rw [hbn.out]; omega
      have Xv : 0 < bn := by omega
      have VY := aa hR
      clear hR h4 hB hN
      by_cases h5 : n0 < 1
      ·
       obtain rfl : r = false := by rw [← hr', decide_eq_false (show ¬ 1 ≤ n0 by omega)]; rfl
       have d5 : decide ((n0 : Int) < 1) = true := by simp; omega
       clear hr hr'
       go_in
       go_wp2_with fail
       rw [HW.out]
       go_wp2_with fail
       refine (bK P Q G true cB hQ _ ig).mono ?_
       rintro e w1 ⟨rfl, hb0⟩
       have hb1 := af (av.out) hb0
       have gT := aa (ig.out.below hb0)
       have fT := aa (HX0.out.below hb0)
       have HR1 := aa (dY.out.below hb0)
       have mZ := aa (gu.out.below hb0)
       have fI := aa (fA.out.below hb0)
       clear hb0
       obtain ⟨c0, c1, c2⟩ := fT.out
       obtain ⟨d0, d1⟩ := HR1.out
       go_wp2_with fail
       refine (gX P Q G Y ys bn yc true HE hyn (aa (by omega)) hp (by omega) hQ _ mZ).mono ?_
       rintro e w2 ⟨rfl, hb0⟩
       have hb2 := af hb1 hb0
       have ko := aa (gT.out.below hb0)
       have mD := aa (fT.out.below hb0)
       have HR2 := aa (HR1.out.below hb0)
       have Er := aa (mZ.out.below hb0)
       have nM := aa (fI.out.below hb0)
       clear c0 c1 c2 d0 d1 hb0
       obtain ⟨c0, c1, c2⟩ := mD.out
       obtain ⟨d0, d1⟩ := HR2.out
       have hc0 := nM.out.head hpos VY.out
       have hq : Below w2.heap.size w2 (w2.alloc (.cells #[.int .i64 n0] 3)) := ai _ _
       have dw := af hb2 hq
       clear hq
       go_wp2
       go_ret
       exact ⟨rfl, dw⟩
      ·
       rw [decide_eq_true (show 1 ≤ n0 by omega), Bool.true_and] at hr'
       have d5 : decide ((n0 : Int) < 1) = false := by simp; omega
       by_cases h6 : 12 < n0
       ·
        obtain rfl : r = false := by rw [← hr', decide_eq_false (show ¬ n0 ≤ 12 by omega)]; rfl
        have d6 : decide ((12 : Int) < (n0 : Int)) = true := by simp; omega
        clear hr hr'
        go_in
        go_wp2_with fail
        rw [HW.out]
        go_wp2_with fail
        refine (bK P Q G true cB hQ _ ig).mono ?_
        rintro e w1 ⟨rfl, hb0⟩
        have hb1 := af (av.out) hb0
        have gT := aa (ig.out.below hb0)
        have fT := aa (HX0.out.below hb0)
        have HR1 := aa (dY.out.below hb0)
        have mZ := aa (gu.out.below hb0)
        have fI := aa (fA.out.below hb0)
        clear hb0
        obtain ⟨c0, c1, c2⟩ := fT.out
        obtain ⟨d0, d1⟩ := HR1.out
        go_wp2_with fail
        refine (gX P Q G Y ys bn yc true HE hyn (aa (by omega)) hp (by omega) hQ _ mZ).mono ?_
        rintro e w2 ⟨rfl, hb0⟩
        have hb2 := af hb1 hb0
        have ko := aa (gT.out.below hb0)
        have mD := aa (fT.out.below hb0)
        have HR2 := aa (HR1.out.below hb0)
        have Er := aa (mZ.out.below hb0)
        have nM := aa (fI.out.below hb0)
        clear c0 c1 c2 d0 d1 hb0
        obtain ⟨c0, c1, c2⟩ := mD.out
        obtain ⟨d0, d1⟩ := HR2.out
        have hc0 := nM.out.head hpos VY.out
        have hq : Below w2.heap.size w2 (w2.alloc (.cells #[.int .i64 n0] 3)) := ai _ _
        have dw := af hb2 hq
        clear hq
        go_wp2
        go_ret
        exact ⟨rfl, dw⟩
       ·
        rw [decide_eq_true (show n0 ≤ 12 by omega), Bool.true_and] at hr'
        have d6 : decide ((12 : Int) < (n0 : Int)) = false := by simp; omega
        have HP : Hid ((rows.any fun x => !jd P Q n0 x) = !r) := aa (by rw [yV, hr'])
        clear hr hr'
        go_in
        go_wp2_with fail
        rw [HW.out]
        go_wp2_with fail
        refine (bK P Q G true cB hQ _ ig).mono ?_
        rintro e w1 ⟨rfl, hb0⟩
        have hb1 := af (av.out) hb0
        have gT := aa (ig.out.below hb0)
        have fT := aa (HX0.out.below hb0)
        have HR1 := aa (dY.out.below hb0)
        have mZ := aa (gu.out.below hb0)
        have fI := aa (fA.out.below hb0)
        clear hb0
        obtain ⟨c0, c1, c2⟩ := fT.out
        obtain ⟨d0, d1⟩ := HR1.out
        go_wp2_with fail
        refine (gX P Q G Y ys bn yc true HE hyn (aa (by omega)) hp (by omega) hQ _ mZ).mono ?_
        rintro e w2 ⟨rfl, hb0⟩
        have hb2 := af hb1 hb0
        have ko := aa (gT.out.below hb0)
        have mD := aa (fT.out.below hb0)
        have HR2 := aa (HR1.out.below hb0)
        have Er := aa (mZ.out.below hb0)
        have nM := aa (fI.out.below hb0)
        clear c0 c1 c2 d0 d1 hb0
        obtain ⟨c0, c1, c2⟩ := mD.out
        obtain ⟨d0, d1⟩ := HR2.out
        have hc0 := nM.out.head hpos VY.out
        have hq : Below w2.heap.size w2 (w2.alloc (.cells #[.int .i64 n0] 3)) := ai _ _
        have hcn : (w2.alloc (.cells #[.int .i64 n0] 3)).cell? ⟨w2.heap.size, 0, none⟩ = some (.int .i64 n0) := World.cell?_alloc_at _ _ _ _ rfl
        have HXn := aa (mD.out.below hq)
        have HWn := aa (nM.out.below hq)
        have Vb := af hb2 hq
        have ZI := HR2.out.below hq
        obtain ⟨d2, d3⟩ := ZI
        have Kk := aa (Lc P Q G n0 w2.heap.size w.heap.size hp (by omega) hQ (by omega) _ (aa hcn) HXn)
        have Qq := aa (OV (.pointer (some ⟨w2.heap.size, 0, none⟩)) (.pointer (some ⟨w.heap.size, 0, none⟩)) (fun x => !jd P Q n0 x) (!r) (some ⟨b0, o0, none⟩) rows bn bc HP hbn (aa (by omega)) _ HWn Kk)
        clear hq
        go_wp2_with fail
        refine Qq.out.mono ?_
        rintro e w9 ⟨rfl, hb0⟩
        have dw := af Vb hb0
        clear hb0
        go_wp2
        go_ret
        exact ⟨by simp, dw⟩
theorem pow_eq (a e m v : Int) (hv : Hid (pw a e m = v)) (h1 : 1 ≤ m) (h2 : m < 2305843009213693952) (ha0 : 0 ≤ a) (ha : a < m) (he0 : 0 ≤ e) (he : e < 9223372036854775808) (w : World) :
  Calls Tryz.prog 79 #[.int .i64 a, .int .i64 e, .int .i64 m] w fun e' w' => e' = .returned (.tuple #[.int .i64 v, .int .i64 0]) ∧ ∃ n, w' = w.drewN n := by
 rw [← hv.out]; exact tY a e m h1 h2 ha0 ha he0 he w
theorem sI (a b m v : Int) (hv : Hid (a * b % m = v)) (h2 : m < 2305843009213693952) (ha0 : 0 ≤ a) (ha : a < m) (hb0 : 0 ≤ b) (hb : b < m) (w : World) :
  Calls Tryz.prog 84 #[.int .i64 a, .int .i64 b, .int .i64 m] w fun e w' => e = .returned (.tuple #[.int .i64 v, .int .i64 0]) ∧ ∃ n, w' = w.drewN n := by
 rw [← hv.out]; exact Dw a b m h2 ha0 ha hb0 hb w
def aO (P : Int) : Int → List Int → List Int → Int
 | acc, x :: xs, e :: es => aO P (acc * pw x e P % P) xs es
 | acc, _, _ => acc
theorem jA {P acc : Int} {k : Nat} {xs es : List Int} (hk : k < xs.length) (he : k < es.length) :
  aO P acc (xs.drop k) (es.drop k) = aO P (acc * pw (xs.getD k 0) (es.getD k 0) P % P) (xs.drop (k + 1)) (es.drop (k + 1)) := by
 rw [List.drop_eq_getElem_cons hk, List.drop_eq_getElem_cons he, aO, List.getD_eq_getElem?_getD, List.getElem?_eq_getElem hk, List.getD_eq_getElem?_getD, List.getElem?_eq_getElem he]
 rfl
theorem qY {P s V : Int} {xs es : List Int} (h : Hid (aO P s xs es = V)) : Hid (aO P s (xs.drop 0) (es.drop 0) = V) := aa (by
 rw [List.drop_zero, List.drop_zero]
 exact h.out)
theorem wE {P acc V : Int} {k : Nat} {xs es : List Int} (hn : xs.length = k) (h : Hid (aO P acc (xs.drop k) (es.drop k) = V)) : acc = V := by
 have h2 := h.out
 rw [← hn, List.drop_length] at h2
 exact h2
theorem lH {Q x : Int} (h : cu Q x = true) : 0 ≤ x := by simp [cu] at h; exact h.1
theorem qC {Q x : Int} (h : cu Q x = true) : x < Q := by simp [cu] at h; exact h.2
theorem yB (P Q G start : Int) (A : Option Addr) (xs : List Int) (n c : Nat) (E : Option Addr) (es : List Int) (m d : Nat) (V : Int) (hV : Hid (aO P start xs es = V)) (hn : Hid (xs.length = n)) (hm : Hid (es.length = m)) (hnm : n ≤ m) (hbig : m < 1000000)
  (hx : Hid (xs.all (a_ P Q) = true)) (he : Hid (es.all (cu Q) = true)) (hp2 : 2 ≤ P) (hp : P < 2305843009213693952) (hQ : Q < 9223372036854775808) (hs0 : 0 ≤ start) (hs1 : start < P) (w : World) (hA : Hid (Sl w A xs)) (hE : Hid (Sl w E es)) :
  Calls Tryz.prog 128 #[gv P Q G, .int .i64 start, .slice A n c, .slice E m d] w (Rt w (.int .i64 V)) := by
 have dR := aa (ai w (aN P Q G))
 have HX0 := aa (az w P Q G)
 have oL := aa (hA.out.below dR.out)
 have KU := aa (hE.out.below dR.out)
 obtain ⟨W, hW⟩ : ∃ W, w.alloc (aN P Q G) = W := ⟨_, rfl⟩
 rw [hW] at HX0 oL KU dR
 have HW := aa hW
 clear hW hA hE
 go_in
 go_wp2
 rw [HW.out]
 go_loopw [9, 17] (fun y i wr => ∃ (k : Nat) (acc : Int), k ≤ n ∧ y = .int .i64 acc ∧ i = .int .i64 k ∧ 0 ≤ acc ∧ acc < P ∧ Hid (aO P acc (xs.drop k) (es.drop k) = V) ∧ Hid (Below W.heap.size W wr)) (fun _ i _ => n - (intOf i).toNat)
 case atStart => exact ⟨0, start, by omega, rfl, rfl, by omega, by omega, qY hV, aa (Below.refl _ _)⟩
 case round =>
  obtain ⟨k, acc, hk, rfl, rfl, a0, a1, HJ, aF⟩ := hrel
  by_cases hlt : k < n
  ·
   have hkl : k < xs.length := by rw [hn.out]; exact hlt
   have hkm : k < m := by omega
   have hke : k < es.length := by rw [hm.out]; exact hkm
   obtain ⟨b, o, hA, hi0⟩ := oL.out.below aF.out k hkl
   obtain ⟨b2, o2, hE, hi1⟩ := KU.out.below aF.out k hke
   subst hA
   subst hE
   obtain ⟨c0, c1, c2⟩ := HX0.out.below aF.out
   have hm1 := eH hx.out hkl
   have hm2 := eH he.out hke
   have hst := jA (P := P) (acc := acc) hkl hke
   obtain ⟨x, Ni⟩ : ∃ x, xs.getD k 0 = x := ⟨_, rfl⟩
   obtain ⟨ex, hee⟩ : ∃ x, es.getD k 0 = x := ⟨_, rfl⟩
   rw [Ni] at hi0 hm1 hst
   rw [hee] at hi1 hm2 hst
   have x0 := d_ hm1
   have x1 := ek hm1
   have e0 := lH hm2
   have e1 := qC hm2
   obtain ⟨p, hp1⟩ : ∃ p, pw x ex P = p := ⟨_, rfl⟩
   obtain ⟨p0, p1⟩ : 0 ≤ p ∧ p < P := by rw [← hp1]; exact tX _ _ _ (by omega)
   rw [hp1] at hst
   obtain ⟨uW, hac⟩ : ∃ a, acc * p % P = a := ⟨_, rfl⟩
   rw [hac] at hst
   have q0 : 0 ≤ uW := by rw [← hac]; exact Int.emod_nonneg _ (by omega)
   have q1 : uW < P := by rw [← hac]; exact Int.emod_lt_of_pos _ (by omega)
   have HJ2 : Hid (aO P uW (xs.drop (k + 1)) (es.drop (k + 1)) = V) := aa (hst.symm.trans HJ.out)
   have lX := aa hp1
   have qx := aa hac
   clear hm1 hm2 hst Ni hee hp1 hac hkl hke HJ
   go_wp2
   go_quiet ((go_at_call 79; exact Calls.quiet_of (pow_eq x ex P p lX (by omega) hp (by omega) x1 e0 (by omega) _)))
   go_wp2_with fail
   refine (sI acc p P uW qx hp a0 a1 p0 p1 _).mono ?_
   rintro e w' ⟨rfl, n3, rfl⟩
   have HB2 : Hid (Below W.heap.size W (wr.drewN (nq + n3))) := aa (ay aF.out _)
   go_wp2
   go_roundw
   case rel => exact ⟨k + 1, uW, by omega, rfl, by go_num, q0, q1, HJ2, HB2⟩
   case measure => simp [intOf]; omega
  ·
   obtain rfl : k = n := by omega
   obtain rfl := wE hn.out HJ
   have dw := af dR.out aF.out
   clear HJ hlt
   go_wp2
   go_ret
   exact ⟨rfl, dw⟩
theorem dN.keep {w w' : World} {B : Nat} {v : Value} {xs : List Int} (h : dN w B v xs) (hb : Below w.heap.size w w') : dN w' B v xs := by
 obtain ⟨h1, h2⟩ := h
 refine ⟨h1, h2.imp id ?_⟩
 rintro ⟨g, cap, cur, rfl, hg, hh, rest⟩
 exact ⟨g, cap, cur, rfl, hg, (hb.block g (Array.getElem?_eq_some_iff.1 hh).1).trans hh, rest⟩
theorem dN.mono {w : World} {B B' : Nat} {v : Value} {xs : List Int} (h : dN w B v xs) (hb : B' ≤ B) : dN w B' v xs := by
 obtain ⟨h1, h2⟩ := h
 refine ⟨h1, h2.imp id ?_⟩
 rintro ⟨g, cap, cur, rfl, hg, rest⟩
 exact ⟨g, cap, cur, rfl, by omega, rest⟩
theorem xO {f : Row → Int} {rows : List Row} {k : Nat} (hk : k < rows.length) : (rows.take (k + 1)).map f = (rows.take k).map f ++ [f (rows.getD k aG)] := by
 rw [List.take_add_one, List.map_append, List.getElem?_eq_getElem hk, List.getD_eq_getElem?_getD, List.getElem?_eq_getElem hk]
 rfl
theorem zJ {f : Row → Int} {rows : List Row} {k : Nat} (hk : k ≤ rows.length) : ((rows.take k).map f).length = k := by
 rw [List.length_map, List.length_take]; omega
theorem lJ {f : Row → Bool} {xs : List Row} (h : xs.all f = true) {k : Nat} (hk : k < xs.length) : f (xs.getD k aG) = true := by
 rw [List.getD_eq_getElem?_getD, List.getElem?_eq_getElem hk]
 exact List.all_eq_true.1 h _ (List.getElem_mem hk)
def za (zs : List Int) (w : World) (e : Ending) (w' : World) : Prop := ∃ v, e = .returned v ∧ dN w' w.heap.size v zs ∧ Below w.heap.size w w'
theorem iF (P Q G : Int) (A : Option Addr) (rows : List Row) (n c : Nat) (E : Option Addr) (es : List Int) (m d : Nat) (hn : Hid (rows.length = n)) (hm : Hid (es.length = m)) (hbig : m < 1000000) (Xw : n < 1000000)
  (hx : Hid (rows.all (jd P Q m) = true)) (he : Hid (es.all (cu Q) = true)) (hp2 : 2 ≤ P) (hp : P < 2305843009213693952) (hQ : Q < 9223372036854775808) (w : World) (hA : Hid (Rw w A rows)) (hE : Hid (Sl w E es)) :
  Calls Tryz.prog 100 #[gv P Q G, .slice A n c, .slice E m d] w (za (rows.map fun r => aO P 1 r.xs es) w) := by
 obtain ⟨i0, hi, hz0, hz1, hz2⟩ := info_parts yF
 have dR := aa (ai w (aN P Q G))
 have HX0 := aa (az w P Q G)
 have oL := aa (hA.out.below dR.out)
 have KU := aa (hE.out.below dR.out)
 obtain ⟨W, hW⟩ : ∃ W, w.alloc (aN P Q G) = W := ⟨_, rfl⟩
 rw [hW] at HX0 oL KU dR
 have HW := aa hW
 clear hW hA hE
 go_in
 go_wp2
 rw [HW.out]
 go_loopw [7, 12] (fun v i wr => ∃ k : Nat, k ≤ n ∧ i = .int .i64 k ∧ Hid (dN wr W.heap.size v ((rows.take k).map fun r => aO P 1 r.xs es)) ∧ Hid (Below W.heap.size W wr)) (fun _ i _ => n - (intOf i).toNat)
 case atStart => exact ⟨0, by omega, rfl, aa (uj _ _), aa (Below.refl _ _)⟩
 case round =>
  obtain ⟨k, hk, rfl, HO, aF⟩ := hrel
  by_cases hlt : k < n
  ·
   have hkl : k < rows.length := by rw [hn.out]; exact hlt
   obtain ⟨⟨b, o, hA, hi0⟩, hok⟩ := oL.out.below aF.out k hkl
   subst hA
   obtain ⟨c0, c1, c2⟩ := HX0.out.below aF.out
   have HEr := aa (KU.out.below aF.out)
   have hrb := lJ hx.out hkl
   have iW := aa (xO (f := fun r => aO P 1 r.xs es) hkl)
   obtain ⟨R, hR⟩ : ∃ R, rows.getD k aG = R := ⟨_, rfl⟩
   rw [hR] at hi0 hrb hok iW
   obtain ⟨p, rn, rc, xs⟩ := R
   simp only [jd, Bool.and_eq_true, decide_eq_true_eq] at hrb
   obtain ⟨rfl, hmx⟩ := hrb
   have HL := aa hok.1
   have HS := aa hok.2
   have Wj := aa hmx
   obtain ⟨V, hV⟩ : ∃ V, aO P 1 xs es = V := ⟨_, rfl⟩
   have NA := aa hV
   have VS : Hid ((rows.take (k + 1)).map (fun r => aO P 1 r.xs es) = (rows.take k).map (fun r => aO P 1 r.xs es) ++ [V]) := aa (by rw [iW.out, ← hV])
   have Es := aa (zJ (f := fun r => aO P 1 r.xs es) (Nat.le_of_lt hkl))
   dsimp only [Row.val] at hi0
   clear hR hok hmx hV hkl iW
   go_wp2_with fail
   refine (yB P Q G 1 p xs rn rc E es rn d V NA HL hm (Nat.le_refl _) hbig Wj he hp2 hp hQ (by omega) (by omega) _ HS HEr).mono ?_
   rintro e w2 ⟨rfl, hb0⟩
   have u_ := aa (HO.out.keep hb0)
   have HB1 := aa (af aF.out hb0)
   have hown : w2.ownsRow W.heap.size 3 1 u7 k (((rows.take k).map fun r => aO P 1 r.xs es).map (Value.int .i64)) := by
    have h3 := u_.out
    unfold dN at h3
    rwa [Es.out] at h3
   have hbs := HB1.out.size
   clear hb0 c0 c1 c2 hi0 HO
   go_wp2_with (at_builtin; refine wpList_append_own _ rfl _ _ 24 rfl W.heap.size 3 i0 (.int .i64 0) 1 8 Tryz.underlying24 hi hz0 hz1 hz2 rfl (by decide) _ _ _ rfl (hown.alloc _) ⟨w2.heap.size, 0, none⟩ 1 1 [.int .i64 V] rfl rfl (cell_one_new _ _ _) (ints_oneCell .i64 [V]) (by unfold maxLen; omega) (by omega) (by simp; omega) ?_; intro v' w3 hown1 hgrow1 _)
   have sH : Hid (dN w3 W.heap.size v' ((rows.take (k + 1)).map fun r => aO P 1 r.xs es)) := aa (by
    rw [VS.out]
    exact dN.app Es.out.symm hown1)
   have HB2 : Hid (Below W.heap.size W w3) := aa (u_.out.below HB1.out hbs hgrow1)
   clear hown hown1 hgrow1
   go_roundw
   case rel => exact ⟨k + 1, by omega, by go_num, sH, HB2⟩
   case measure => simp [intOf]; omega
  ·
   obtain rfl : k = n := by omega
   have HF : Hid (dN wr W.heap.size u7 (rows.map fun r => aO P 1 r.xs es)) := aa (by
    have h3 := HO.out
    rwa [← hn.out, List.take_length] at h3)
   have dw := af dR.out aF.out
   have hsz := dR.out.size
   clear HO hlt
   go_wp2
   go_ret
   exact ⟨_, rfl, HF.out.mono hsz, dw⟩
theorem ak {P Q G : Int} {ys : List Int} {rows : List Row} (h : aP P Q G ys rows = true) :
  aJ P Q G = true ∧ 1 ≤ ys.length ∧ ys.length ≤ 8 ∧ rows.length = ys.length ∧ ys.all (a_ P Q) = true ∧ 1 ≤ aU rows ∧ aU rows ≤ 12 ∧ rows.all (jd P Q (aU rows)) = true := by
 simp only [aP, Bool.and_eq_true, decide_eq_true_eq] at h
 exact h
def p9 (P Q G : Int) (ys : List Int) (rows : List Row) (ls os : List Int) : Int :=
 if aP P Q G ys rows = true then (if ls.length = aU rows then (if ls.all (cu Q) = true then (if os.all (cu Q) = true then 0 else 2) else 2) else 1) else 1
theorem NP (w : World) : Sl w none [] := fun k hk => absurd hk (by simp)
theorem FI (P Q G : Int) (Y : Option Addr) (ys : List Int) (yn yc : Nat) (B : Option Addr) (rows : List Row) (bn bc : Nat) (L : Option Addr) (ls : List Int) (ln lc : Nat) (O : Option Addr) (os : List Int) (on oc : Nat) (hyn : Hid (ys.length = yn)) (hbn : Hid (rows.length = bn)) (hln : Hid (ls.length = ln)) (hlb : ln < 1000000) (hon : Hid (os.length = on)) (eP : on < 1000000) (cB : Hid (aP P Q G ys rows = false)) (hQ : Q < 9223372036854775808) (w : World) (hv : Hid (Vars w)) (hY : Hid (Sl w Y ys)) (hB : Hid (Rw w B rows)) (hL : Hid (Sl w L ls)) (hO : Hid (Sl w O os)) :
  Calls Tryz.prog 54 #[gv P Q G, dm Y yn yc B bn bc, .slice L ln lc, .slice O on oc] w (Rt w (.int .i64 1)) := by
 obtain ⟨w0, hW⟩ : ∃ W, (w.alloc (aN P Q G)).alloc (dW Y yn yc B bn bc) = W := ⟨_, rfl⟩
 have av : Hid (Below w.heap.size w w0) := aa (by rw [← hW]; exact aB (Below.refl _ _))
 have HX0 : Hid (eO w0 w.heap.size P Q G) := aa (by rw [← hW]; exact (az w P Q G).below (ai _ _))
 have dY : Hid (iQ w0 (w.heap.size + 1) (.slice Y yn yc) (.slice B bn bc)) := aa (by rw [← hW]; exact aV _ _ _ _ _)
 have gu : Hid (Sl w0 Y ys) := aa (hY.out.below av.out)
 have fA : Hid (Rw w0 B rows) := aa (hB.out.below av.out)
 have sU : Hid (Sl w0 L ls) := aa (hL.out.below av.out)
 have Gn : Hid (Sl w0 O os) := aa (hO.out.below av.out)
 have ig : Hid (Vars w0) := aa (hv.out.below av.out)
 have HW := aa hW
 clear hW hY hB hL hO hv
 go_in
 go_wp2_with fail
 rw [HW.out]
 go_wp2_with fail
 refine (bH P Q G Y ys yn yc B rows bn bc false cB hyn hbn hQ _ ig gu fA).mono ?_
 rintro e w1 ⟨rfl, hb0⟩
 have hb1 := af (av.out) hb0
 have gT := aa (ig.out.below hb0)
 have fT := aa (HX0.out.below hb0)
 have HR1 := aa (dY.out.below hb0)
 have mZ := aa (gu.out.below hb0)
 have fI := aa (fA.out.below hb0)
 have KS := aa (sU.out.below hb0)
 have u_ := aa (Gn.out.below hb0)
 clear hb0
 obtain ⟨c0, c1, c2⟩ := fT.out
 obtain ⟨d0, d1⟩ := HR1.out
 go_wp2
 go_ret
 exact ⟨rfl, hb1⟩
theorem FH (P Q G : Int) (Y : Option Addr) (ys : List Int) (yn yc : Nat) (B : Option Addr) (rows : List Row) (bn bc : Nat) (L : Option Addr) (ls : List Int) (ln lc : Nat) (O : Option Addr) (os : List Int) (on oc : Nat) (hyn : Hid (ys.length = yn)) (hbn : Hid (rows.length = bn)) (hln : Hid (ls.length = ln)) (hlb : ln < 1000000) (hon : Hid (os.length = on)) (eP : on < 1000000) (cB : Hid (aP P Q G ys rows = true)) (hlen : ls.length ≠ aU rows) (hQ : Q < 9223372036854775808) (w : World) (hv : Hid (Vars w)) (hY : Hid (Sl w Y ys)) (hB : Hid (Rw w B rows)) (hL : Hid (Sl w L ls)) (hO : Hid (Sl w O os)) :
  Calls Tryz.prog 54 #[gv P Q G, dm Y yn yc B bn bc, .slice L ln lc, .slice O on oc] w (Rt w (.int .i64 1)) := by
 obtain ⟨w0, hW⟩ : ∃ W, (w.alloc (aN P Q G)).alloc (dW Y yn yc B bn bc) = W := ⟨_, rfl⟩
 have av : Hid (Below w.heap.size w w0) := aa (by rw [← hW]; exact aB (Below.refl _ _))
 have HX0 : Hid (eO w0 w.heap.size P Q G) := aa (by rw [← hW]; exact (az w P Q G).below (ai _ _))
 have dY : Hid (iQ w0 (w.heap.size + 1) (.slice Y yn yc) (.slice B bn bc)) := aa (by rw [← hW]; exact aV _ _ _ _ _)
 have gu : Hid (Sl w0 Y ys) := aa (hY.out.below av.out)
 have fA : Hid (Rw w0 B rows) := aa (hB.out.below av.out)
 have sU : Hid (Sl w0 L ls) := aa (hL.out.below av.out)
 have Gn : Hid (Sl w0 O os) := aa (hO.out.below av.out)
 have ig : Hid (Vars w0) := aa (hv.out.below av.out)
 have HW := aa hW
 clear hW hY hB hL hO hv
 obtain ⟨v1, v2, v3, v4, v5, v6, v7, v8⟩ := ak cB.out
 have hbp : 0 < bn := by rw [← hbn.out]; omega
 obtain ⟨n0, hn0⟩ : ∃ n, aU rows = n := ⟨_, rfl⟩
 have HN := aa hn0
 clear v1 v2 v3 v4 v5 v6 v7 v8
 have hne : ((ln : Int) != (n0 : Int)) = true := by rw [← hln.out, ← hn0]; simp; omega
 clear hn0
 go_in
 go_wp2_with fail
 rw [HW.out]
 go_wp2_with fail
 refine (bH P Q G Y ys yn yc B rows bn bc true cB hyn hbn hQ _ ig gu fA).mono ?_
 rintro e w1 ⟨rfl, hb0⟩
 have hb1 := af (av.out) hb0
 have gT := aa (ig.out.below hb0)
 have fT := aa (HX0.out.below hb0)
 have HR1 := aa (dY.out.below hb0)
 have mZ := aa (gu.out.below hb0)
 have fI := aa (fA.out.below hb0)
 have KS := aa (sU.out.below hb0)
 have u_ := aa (Gn.out.below hb0)
 clear hb0
 obtain ⟨c0, c1, c2⟩ := fT.out
 obtain ⟨d0, d1⟩ := HR1.out
 go_wp2_with fail
 refine (bJ Y yn yc B rows bn bc n0 hbn hbp HN _ fI).mono ?_
 rintro e w2 ⟨rfl, hb0⟩
 have hb2 := af hb1 hb0
 have ko := aa (gT.out.below hb0)
 have mD := aa (fT.out.below hb0)
 have HR2 := aa (HR1.out.below hb0)
 have Er := aa (mZ.out.below hb0)
 have nM := aa (fI.out.below hb0)
 have HL2 := aa (KS.out.below hb0)
 have sH := aa (u_.out.below hb0)
 clear c0 c1 c2 d0 d1 hb0
 obtain ⟨c0, c1, c2⟩ := mD.out
 obtain ⟨d0, d1⟩ := HR2.out
 go_wp2
 go_ret
 exact ⟨rfl, hb2⟩
theorem FE (P Q G : Int) (Y : Option Addr) (ys : List Int) (yn yc : Nat) (B : Option Addr) (rows : List Row) (bn bc : Nat) (L : Option Addr) (ls : List Int) (ln lc : Nat) (O : Option Addr) (os : List Int) (on oc : Nat) (hyn : Hid (ys.length = yn)) (hbn : Hid (rows.length = bn)) (hln : Hid (ls.length = ln)) (hlb : ln < 1000000) (hon : Hid (os.length = on)) (eP : on < 1000000) (cB : Hid (aP P Q G ys rows = true)) (hlen : ls.length = aU rows) (Hl : Hid (ls.all (cu Q) = false)) (hQ : Q < 9223372036854775808) (w : World) (hv : Hid (Vars w)) (hY : Hid (Sl w Y ys)) (hB : Hid (Rw w B rows)) (hL : Hid (Sl w L ls)) (hO : Hid (Sl w O os)) :
  Calls Tryz.prog 54 #[gv P Q G, dm Y yn yc B bn bc, .slice L ln lc, .slice O on oc] w (Rt w (.int .i64 2)) := by
 obtain ⟨w0, hW⟩ : ∃ W, (w.alloc (aN P Q G)).alloc (dW Y yn yc B bn bc) = W := ⟨_, rfl⟩
 have av : Hid (Below w.heap.size w w0) := aa (by rw [← hW]; exact aB (Below.refl _ _))
 have HX0 : Hid (eO w0 w.heap.size P Q G) := aa (by rw [← hW]; exact (az w P Q G).below (ai _ _))
 have dY : Hid (iQ w0 (w.heap.size + 1) (.slice Y yn yc) (.slice B bn bc)) := aa (by rw [← hW]; exact aV _ _ _ _ _)
 have gu : Hid (Sl w0 Y ys) := aa (hY.out.below av.out)
 have fA : Hid (Rw w0 B rows) := aa (hB.out.below av.out)
 have sU : Hid (Sl w0 L ls) := aa (hL.out.below av.out)
 have Gn : Hid (Sl w0 O os) := aa (hO.out.below av.out)
 have ig : Hid (Vars w0) := aa (hv.out.below av.out)
 have HW := aa hW
 clear hW hY hB hL hO hv
 obtain ⟨v1, v2, v3, v4, v5, v6, v7, v8⟩ := ak cB.out
 have hbp : 0 < bn := by rw [← hbn.out]; omega
 obtain ⟨n0, hn0⟩ : ∃ n, aU rows = n := ⟨_, rfl⟩
 have HN := aa hn0
 clear v1 v2 v3 v4 v5 v6 v7 v8
 have hne : ((ln : Int) != (n0 : Int)) = false := by rw [← hln.out, ← hn0]; simp; omega
 clear hn0
 go_in
 go_wp2_with fail
 rw [HW.out]
 go_wp2_with fail
 refine (bH P Q G Y ys yn yc B rows bn bc true cB hyn hbn hQ _ ig gu fA).mono ?_
 rintro e w1 ⟨rfl, hb0⟩
 have hb1 := af (av.out) hb0
 have gT := aa (ig.out.below hb0)
 have fT := aa (HX0.out.below hb0)
 have HR1 := aa (dY.out.below hb0)
 have mZ := aa (gu.out.below hb0)
 have fI := aa (fA.out.below hb0)
 have KS := aa (sU.out.below hb0)
 have u_ := aa (Gn.out.below hb0)
 clear hb0
 obtain ⟨c0, c1, c2⟩ := fT.out
 obtain ⟨d0, d1⟩ := HR1.out
 go_wp2_with fail
 refine (bJ Y yn yc B rows bn bc n0 hbn hbp HN _ fI).mono ?_
 rintro e w2 ⟨rfl, hb0⟩
 have hb2 := af hb1 hb0
 have ko := aa (gT.out.below hb0)
 have mD := aa (fT.out.below hb0)
 have HR2 := aa (HR1.out.below hb0)
 have Er := aa (mZ.out.below hb0)
 have nM := aa (fI.out.below hb0)
 have HL2 := aa (KS.out.below hb0)
 have sH := aa (u_.out.below hb0)
 clear c0 c1 c2 d0 d1 hb0
 obtain ⟨c0, c1, c2⟩ := mD.out
 obtain ⟨d0, d1⟩ := HR2.out
 go_wp2_with fail
 refine (bG P Q G L ls ln lc false Hl hln (aa hlb) _ HL2).mono ?_
 rintro e w3 ⟨rfl, hb0⟩
 have hb3 := af hb2 hb0
 have sw := aa (ko.out.below hb0)
 have m_ := aa (mD.out.below hb0)
 have HR3 := aa (HR2.out.below hb0)
 have Dh := aa (Er.out.below hb0)
 have MQ := aa (nM.out.below hb0)
 have PI := aa (HL2.out.below hb0)
 have qW := aa (sH.out.below hb0)
 clear c0 c1 c2 d0 d1 hb0
 obtain ⟨c0, c1, c2⟩ := m_.out
 obtain ⟨d0, d1⟩ := HR3.out
 go_wp2
 go_ret
 exact ⟨rfl, hb3⟩
theorem FD (P Q G : Int) (Y : Option Addr) (ys : List Int) (yn yc : Nat) (B : Option Addr) (rows : List Row) (bn bc : Nat) (L : Option Addr) (ls : List Int) (ln lc : Nat) (O : Option Addr) (os : List Int) (on oc : Nat) (hyn : Hid (ys.length = yn)) (hbn : Hid (rows.length = bn)) (hln : Hid (ls.length = ln)) (hlb : ln < 1000000) (hon : Hid (os.length = on)) (eP : on < 1000000) (cB : Hid (aP P Q G ys rows = true)) (hlen : ls.length = aU rows) (Hl : Hid (ls.all (cu Q) = true)) (Ho : Hid (os.all (cu Q) = false)) (hQ : Q < 9223372036854775808) (w : World) (hv : Hid (Vars w)) (hY : Hid (Sl w Y ys)) (hB : Hid (Rw w B rows)) (hL : Hid (Sl w L ls)) (hO : Hid (Sl w O os)) :
  Calls Tryz.prog 54 #[gv P Q G, dm Y yn yc B bn bc, .slice L ln lc, .slice O on oc] w (Rt w (.int .i64 2)) := by
 obtain ⟨w0, hW⟩ : ∃ W, (w.alloc (aN P Q G)).alloc (dW Y yn yc B bn bc) = W := ⟨_, rfl⟩
 have av : Hid (Below w.heap.size w w0) := aa (by rw [← hW]; exact aB (Below.refl _ _))
 have HX0 : Hid (eO w0 w.heap.size P Q G) := aa (by rw [← hW]; exact (az w P Q G).below (ai _ _))
 have dY : Hid (iQ w0 (w.heap.size + 1) (.slice Y yn yc) (.slice B bn bc)) := aa (by rw [← hW]; exact aV _ _ _ _ _)
 have gu : Hid (Sl w0 Y ys) := aa (hY.out.below av.out)
 have fA : Hid (Rw w0 B rows) := aa (hB.out.below av.out)
 have sU : Hid (Sl w0 L ls) := aa (hL.out.below av.out)
 have Gn : Hid (Sl w0 O os) := aa (hO.out.below av.out)
 have ig : Hid (Vars w0) := aa (hv.out.below av.out)
 have HW := aa hW
 clear hW hY hB hL hO hv
 obtain ⟨v1, v2, v3, v4, v5, v6, v7, v8⟩ := ak cB.out
 have hbp : 0 < bn := by rw [← hbn.out]; omega
 obtain ⟨n0, hn0⟩ : ∃ n, aU rows = n := ⟨_, rfl⟩
 have HN := aa hn0
 clear v1 v2 v3 v4 v5 v6 v7 v8
 have hne : ((ln : Int) != (n0 : Int)) = false := by rw [← hln.out, ← hn0]; simp; omega
 clear hn0
 go_in
 go_wp2_with fail
 rw [HW.out]
 go_wp2_with fail
 refine (bH P Q G Y ys yn yc B rows bn bc true cB hyn hbn hQ _ ig gu fA).mono ?_
 rintro e w1 ⟨rfl, hb0⟩
 have hb1 := af (av.out) hb0
 have gT := aa (ig.out.below hb0)
 have fT := aa (HX0.out.below hb0)
 have HR1 := aa (dY.out.below hb0)
 have mZ := aa (gu.out.below hb0)
 have fI := aa (fA.out.below hb0)
 have KS := aa (sU.out.below hb0)
 have u_ := aa (Gn.out.below hb0)
 clear hb0
 obtain ⟨c0, c1, c2⟩ := fT.out
 obtain ⟨d0, d1⟩ := HR1.out
 go_wp2_with fail
 refine (bJ Y yn yc B rows bn bc n0 hbn hbp HN _ fI).mono ?_
 rintro e w2 ⟨rfl, hb0⟩
 have hb2 := af hb1 hb0
 have ko := aa (gT.out.below hb0)
 have mD := aa (fT.out.below hb0)
 have HR2 := aa (HR1.out.below hb0)
 have Er := aa (mZ.out.below hb0)
 have nM := aa (fI.out.below hb0)
 have HL2 := aa (KS.out.below hb0)
 have sH := aa (u_.out.below hb0)
 clear c0 c1 c2 d0 d1 hb0
 obtain ⟨c0, c1, c2⟩ := mD.out
 obtain ⟨d0, d1⟩ := HR2.out
 go_wp2_with fail
 refine (bG P Q G L ls ln lc true Hl hln (aa hlb) _ HL2).mono ?_
 rintro e w3 ⟨rfl, hb0⟩
 have hb3 := af hb2 hb0
 have sw := aa (ko.out.below hb0)
 have m_ := aa (mD.out.below hb0)
 have HR3 := aa (HR2.out.below hb0)
 have Dh := aa (Er.out.below hb0)
 have MQ := aa (nM.out.below hb0)
 have PI := aa (HL2.out.below hb0)
 have qW := aa (sH.out.below hb0)
 clear c0 c1 c2 d0 d1 hb0
 obtain ⟨c0, c1, c2⟩ := m_.out
 obtain ⟨d0, d1⟩ := HR3.out
 go_wp2_with fail
 refine (bG P Q G O os on oc false Ho hon (aa eP) _ qW).mono ?_
 rintro e w4 ⟨rfl, hb0⟩
 have hb4 := af hb3 hb0
 have ze := aa (sw.out.below hb0)
 have Ki := aa (m_.out.below hb0)
 have HR4 := aa (HR3.out.below hb0)
 have HY4 := aa (Dh.out.below hb0)
 have VM := aa (MQ.out.below hb0)
 have Ui := aa (PI.out.below hb0)
 have sG := aa (qW.out.below hb0)
 clear c0 c1 c2 d0 d1 hb0
 obtain ⟨c0, c1, c2⟩ := Ki.out
 obtain ⟨d0, d1⟩ := HR4.out
 go_wp2
 go_ret
 exact ⟨rfl, hb4⟩
theorem IL (P Q G : Int) (Y : Option Addr) (ys : List Int) (yn yc : Nat) (B : Option Addr) (rows : List Row) (bn bc : Nat) (L : Option Addr) (ls : List Int) (ln lc : Nat) (O : Option Addr) (os : List Int) (on oc : Nat) (hyn : Hid (ys.length = yn)) (hbn : Hid (rows.length = bn)) (hln : Hid (ls.length = ln)) (hlb : ln < 1000000) (hon : Hid (os.length = on)) (eP : on < 1000000) (cB : Hid (aP P Q G ys rows = true)) (hlen : ls.length = aU rows) (Hl : Hid (ls.all (cu Q) = true)) (Ho : Hid (os.all (cu Q) = true)) (hQ : Q < 9223372036854775808) (w : World) (hv : Hid (Vars w)) (hY : Hid (Sl w Y ys)) (hB : Hid (Rw w B rows)) (hL : Hid (Sl w L ls)) (hO : Hid (Sl w O os)) :
  Calls Tryz.prog 54 #[gv P Q G, dm Y yn yc B bn bc, .slice L ln lc, .slice O on oc] w (Rt w (.int .i64 0)) := by
 obtain ⟨w0, hW⟩ : ∃ W, (w.alloc (aN P Q G)).alloc (dW Y yn yc B bn bc) = W := ⟨_, rfl⟩
 have av : Hid (Below w.heap.size w w0) := aa (by rw [← hW]; exact aB (Below.refl _ _))
 have HX0 : Hid (eO w0 w.heap.size P Q G) := aa (by rw [← hW]; exact (az w P Q G).below (ai _ _))
 have dY : Hid (iQ w0 (w.heap.size + 1) (.slice Y yn yc) (.slice B bn bc)) := aa (by rw [← hW]; exact aV _ _ _ _ _)
 have gu : Hid (Sl w0 Y ys) := aa (hY.out.below av.out)
 have fA : Hid (Rw w0 B rows) := aa (hB.out.below av.out)
 have sU : Hid (Sl w0 L ls) := aa (hL.out.below av.out)
 have Gn : Hid (Sl w0 O os) := aa (hO.out.below av.out)
 have ig : Hid (Vars w0) := aa (hv.out.below av.out)
 have HW := aa hW
 clear hW hY hB hL hO hv
 obtain ⟨v1, v2, v3, v4, v5, v6, v7, v8⟩ := ak cB.out
 have hbp : 0 < bn := by rw [← hbn.out]; omega
 obtain ⟨n0, hn0⟩ : ∃ n, aU rows = n := ⟨_, rfl⟩
 have HN := aa hn0
 clear v1 v2 v3 v4 v5 v6 v7 v8
 have hne : ((ln : Int) != (n0 : Int)) = false := by rw [← hln.out, ← hn0]; simp; omega
 clear hn0
 go_in
 go_wp2_with fail
 rw [HW.out]
 go_wp2_with fail
 refine (bH P Q G Y ys yn yc B rows bn bc true cB hyn hbn hQ _ ig gu fA).mono ?_
 rintro e w1 ⟨rfl, hb0⟩
 have hb1 := af (av.out) hb0
 have gT := aa (ig.out.below hb0)
 have fT := aa (HX0.out.below hb0)
 have HR1 := aa (dY.out.below hb0)
 have mZ := aa (gu.out.below hb0)
 have fI := aa (fA.out.below hb0)
 have KS := aa (sU.out.below hb0)
 have u_ := aa (Gn.out.below hb0)
 clear hb0
 obtain ⟨c0, c1, c2⟩ := fT.out
 obtain ⟨d0, d1⟩ := HR1.out
 go_wp2_with fail
 refine (bJ Y yn yc B rows bn bc n0 hbn hbp HN _ fI).mono ?_
 rintro e w2 ⟨rfl, hb0⟩
 have hb2 := af hb1 hb0
 have ko := aa (gT.out.below hb0)
 have mD := aa (fT.out.below hb0)
 have HR2 := aa (HR1.out.below hb0)
 have Er := aa (mZ.out.below hb0)
 have nM := aa (fI.out.below hb0)
 have HL2 := aa (KS.out.below hb0)
 have sH := aa (u_.out.below hb0)
 clear c0 c1 c2 d0 d1 hb0
 obtain ⟨c0, c1, c2⟩ := mD.out
 obtain ⟨d0, d1⟩ := HR2.out
 go_wp2_with fail
 refine (bG P Q G L ls ln lc true Hl hln (aa hlb) _ HL2).mono ?_
 rintro e w3 ⟨rfl, hb0⟩
 have hb3 := af hb2 hb0
 have sw := aa (ko.out.below hb0)
 have m_ := aa (mD.out.below hb0)
 have HR3 := aa (HR2.out.below hb0)
 have Dh := aa (Er.out.below hb0)
 have MQ := aa (nM.out.below hb0)
 have PI := aa (HL2.out.below hb0)
 have qW := aa (sH.out.below hb0)
 clear c0 c1 c2 d0 d1 hb0
 obtain ⟨c0, c1, c2⟩ := m_.out
 obtain ⟨d0, d1⟩ := HR3.out
 go_wp2_with fail
 refine (bG P Q G O os on oc true Ho hon (aa eP) _ qW).mono ?_
 rintro e w4 ⟨rfl, hb0⟩
 have hb4 := af hb3 hb0
 have ze := aa (sw.out.below hb0)
 have Ki := aa (m_.out.below hb0)
 have HR4 := aa (HR3.out.below hb0)
 have HY4 := aa (Dh.out.below hb0)
 have VM := aa (MQ.out.below hb0)
 have Ui := aa (PI.out.below hb0)
 have sG := aa (qW.out.below hb0)
 clear c0 c1 c2 d0 d1 hb0
 obtain ⟨c0, c1, c2⟩ := Ki.out
 obtain ⟨d0, d1⟩ := HR4.out
 go_wp2
 go_ret
 exact ⟨rfl, hb4⟩
theorem og (P Q G : Int) (Y : Option Addr) (ys : List Int) (yn yc : Nat) (B : Option Addr) (rows : List Row) (bn bc : Nat) (L : Option Addr) (ls : List Int) (ln lc : Nat) (O : Option Addr) (os : List Int) (on oc : Nat) (r : Int) (hr : Hid (p9 P Q G ys rows ls os = r)) (hyn : Hid (ys.length = yn)) (hbn : Hid (rows.length = bn)) (hln : Hid (ls.length = ln)) (hlb : ln < 1000000) (hon : Hid (os.length = on)) (eP : on < 1000000) (hQ : Q < 9223372036854775808) (w : World) (hv : Hid (Vars w)) (hY : Hid (Sl w Y ys)) (hB : Hid (Rw w B rows)) (hL : Hid (Sl w L ls)) (hO : Hid (Sl w O os)) :
  Calls Tryz.prog 54 #[gv P Q G, dm Y yn yc B bn bc, .slice L ln lc, .slice O on oc] w (Rt w (.int .i64 r)) := by
 have hr' := hr.out
 unfold p9 at hr'
 cases h1 : aP P Q G ys rows with
 | false =>
  rw [h1] at hr'
  obtain rfl : r = 1 := hr'.symm
  exact FI P Q G Y ys yn yc B rows bn bc L ls ln lc O os on oc hyn hbn hln hlb hon eP (aa h1) hQ w hv hY hB hL hO
 | true =>
  rw [h1, if_pos rfl] at hr'
  by_cases h2 : ls.length = aU rows
  ·
   rw [if_pos h2] at hr'
   cases h3 : ls.all (cu Q) with
   | false =>
    rw [h3] at hr'
    obtain rfl : r = 2 := hr'.symm
    exact FE P Q G Y ys yn yc B rows bn bc L ls ln lc O os on oc hyn hbn hln hlb hon eP (aa h1) h2 (aa h3) hQ w hv hY hB hL hO
   | true =>
    rw [h3, if_pos rfl] at hr'
    cases h4 : os.all (cu Q) with
    | false =>
     rw [h4] at hr'
     obtain rfl : r = 2 := hr'.symm
     exact FD P Q G Y ys yn yc B rows bn bc L ls ln lc O os on oc hyn hbn hln hlb hon eP (aa h1) h2 (aa h3) (aa h4) hQ w hv hY hB hL hO
    | true =>
     rw [h4, if_pos rfl] at hr'
     obtain rfl : r = 0 := hr'.symm
     exact IL P Q G Y ys yn yc B rows bn bc L ls ln lc O os on oc hyn hbn hln hlb hon eP (aa h1) h2 (aa h3) (aa h4) hQ w hv hY hB hL hO
  ·
   rw [if_neg h2] at hr'
   obtain rfl : r = 1 := hr'.symm
   exact FH P Q G Y ys yn yc B rows bn bc L ls ln lc O os on oc hyn hbn hln hlb hon eP (aa h1) h2 hQ w hv hY hB hL hO
theorem yO {P Q G : Int} {ys : List Int} {rows : List Row} {ls os : List Int} (h : p9 P Q G ys rows ls os = 0) : aP P Q G ys rows = true ∧ ls.length = aU rows ∧ ls.all (cu Q) = true ∧ os.all (cu Q) = true := by
 unfold p9 at h
 split at h
 ·
  split at h
  ·
   split at h
   ·
    split at h
    · exact ⟨by assumption, by assumption, by assumption, by assumption⟩
    · omega
   · omega
  · omega
 · omega
def Kh (zs : List Int) (w : World) (e : Ending) (w' : World) : Prop := ∃ v, e = .returned (.tuple #[v, .int .i64 0]) ∧ dN w' w.heap.size v zs ∧ Below w.heap.size w w'
theorem Ck (P Q G : Int) (Y : Option Addr) (ys : List Int) (yn yc : Nat) (B : Option Addr) (rows : List Row) (bn bc : Nat) (L : Option Addr) (ls : List Int) (ln lc : Nat) (hr : Hid (p9 P Q G ys rows ls [] = 0)) (hyn : Hid (ys.length = yn)) (hbn : Hid (rows.length = bn)) (hln : Hid (ls.length = ln)) (hlb : ln < 1000000) (hQ : Q < 9223372036854775808) (w : World) (hv : Hid (Vars w)) (hY : Hid (Sl w Y ys)) (hB : Hid (Rw w B rows)) (hL : Hid (Sl w L ls)) :
  Calls Tryz.prog 68 #[gv P Q G, dm Y yn yc B bn bc, .slice L ln lc] w (Kh (rows.map fun r => aO P 1 r.xs ls) w) := by
 obtain ⟨w0, hW⟩ : ∃ W, (w.alloc (aN P Q G)).alloc (dW Y yn yc B bn bc) = W := ⟨_, rfl⟩
 have av : Hid (Below w.heap.size w w0) := aa (by rw [← hW]; exact aB (Below.refl _ _))
 have HX0 : Hid (eO w0 w.heap.size P Q G) := aa (by rw [← hW]; exact (az w P Q G).below (ai _ _))
 have dY : Hid (iQ w0 (w.heap.size + 1) (.slice Y yn yc) (.slice B bn bc)) := aa (by rw [← hW]; exact aV _ _ _ _ _)
 have gu : Hid (Sl w0 Y ys) := aa (hY.out.below av.out)
 have fA : Hid (Rw w0 B rows) := aa (hB.out.below av.out)
 have sU : Hid (Sl w0 L ls) := aa (hL.out.below av.out)
 have ig : Hid (Vars w0) := aa (hv.out.below av.out)
 have HW := aa hW
 have hsz := av.out.size
 clear hW hY hB hL hv
 obtain ⟨k1, k2, k3, k4⟩ := yO hr.out
 obtain ⟨v1, v2, v3, v4, v5, v6, v7, v8⟩ := ak k1
 obtain ⟨hp2, hp, hq3, wK⟩ := aM v1
 rw [← k2, hln.out] at v8
 have vT := aa v8
 have Ug := aa k3
 have hbb : bn < 1000000 := by rw [← hbn.out]; omega
 clear k1 k2 k3 k4 v1 v2 v3 v4 v5 v6 v7 v8
 go_in
 go_wp2_with fail
 rw [HW.out]
 go_wp2_with fail
 refine (og P Q G Y ys yn yc B rows bn bc L ls ln lc none [] 0 0 0 hr hyn hbn hln hlb (aa rfl) (by omega) hQ _ ig gu fA sU (aa (NP _))).mono ?_
 rintro e w1 ⟨rfl, hb0⟩
 have hb1 := af (av.out) hb0
 have gT := aa (ig.out.below hb0)
 have fT := aa (HX0.out.below hb0)
 have HR1 := aa (dY.out.below hb0)
 have mZ := aa (gu.out.below hb0)
 have fI := aa (fA.out.below hb0)
 have KS := aa (sU.out.below hb0)
 clear hb0
 obtain ⟨c0, c1, c2⟩ := fT.out
 obtain ⟨d0, d1⟩ := HR1.out
 go_wp2_with fail
 refine (iF P Q G B rows bn bc L ls ln lc hbn hln hlb hbb vT Ug hp2 hp hQ _ fI KS).mono ?_
 rintro e w2 ⟨v, rfl, ho, hb0⟩
 have HOW := aa (ho.mono (by have := hb1.size; omega : w.heap.size ≤ w1.heap.size))
 have dw := af hb1 hb0
 clear ho hb0
 go_wp2
 go_ret2
 exact ⟨_, rfl, HOW.out, dw⟩
def lI (Q c : Int) (ks xs : List Int) (n : Nat) : List Int := (List.range n).map fun i => (ks.getD i 0 + c * xs.getD i 0 % Q) % Q
theorem jS (Q c : Int) (ks xs : List Int) (n : Nat) : (lI Q c ks xs n).length = n := by simp [lI]
theorem Fe (Q c : Int) (ks xs : List Int) (n : Nat) : lI Q c ks xs (n + 1) = lI Q c ks xs n ++ [(ks.getD n 0 + c * xs.getD n 0 % Q) % Q] := by
 simp [lI, List.range_succ]
theorem dL {w : World} {b : Nat} {xs : List Int} (h : Cells w b xs) : Sl w (some ⟨b, 0, none⟩) xs := fun k hk => ⟨b, 0, rfl, by rw [Nat.zero_add]; exact h k hk⟩
theorem DD {Q c : Int} (h0 : 0 ≤ c) (h1 : c < Q) : [c].all (cu Q) = true := by simp [cu]; omega
theorem z_ (P Q G : Int) (K : Option Addr) (ks : List Int) (kn kc : Nat) (c : Int) (X : Option Addr) (xs : List Int) (xc : Nat) (hg : Hid (aJ P Q G = true)) (hkn : Hid (ks.length = kn)) (mq : Hid (xs.length = kn)) (h1 : 1 ≤ kn) (h2 : kn ≤ 12)
  (hk : Hid (ks.all (cu Q) = true)) (hx : Hid (xs.all (cu Q) = true)) (hc0 : 0 ≤ c) (hc1 : c < Q) (hQ : Q < 9223372036854775808) (w : World) (hv : Hid (Vars w)) (hK : Hid (Sl w K ks)) (hX : Hid (Sl w X xs)) :
  Calls Tryz.prog 77 #[gv P Q G, .slice K kn kc, .int .i64 c, .slice X kn xc] w (Kh (lI Q c ks xs kn) w) := by
 obtain ⟨i0, hi, hz0, hz1, hz2⟩ := info_parts yF
 obtain ⟨hp2, hp, hq3, wK⟩ := aM hg.out
 have ig := aa (hv.out.below (ai w (aN P Q G)))
 have HX0 := aa (az w P Q G)
 have HK0 := aa (hK.out.below (ai w (aN P Q G)))
 have sD := aa (hX.out.below (ai w (aN P Q G)))
 have d1 : decide ((kn : Int) < 1) = false := by simp; omega
 have d2 : decide ((12 : Int) < (kn : Int)) = false := by simp; omega
 clear hv hK hX
 go_in
 go_wp2_with fail
 refine (bK P Q G true hg hQ _ ig).mono ?_
 rintro e w1 ⟨rfl, hb0⟩
 have hb1 := af (ai _ _) hb0
 have gT := aa (ig.out.below hb0)
 have fT := aa (HX0.out.below hb0)
 have Gp := aa (HK0.out.below hb0)
 have MX := aa (sD.out.below hb0)
 clear hb0
 obtain ⟨c0, c1, c2⟩ := fT.out
 go_wp2_with fail
 refine (bG P Q G K ks kn kc true hk hkn (aa (by omega)) _ Gp).mono ?_
 rintro e w2 ⟨rfl, hb0⟩
 have hb2 := af hb1 hb0
 have ko := aa (gT.out.below hb0)
 have mD := aa (fT.out.below hb0)
 have GG := aa (Gp.out.below hb0)
 have HS2 := aa (MX.out.below hb0)
 clear c0 c1 c2 hb0
 obtain ⟨c0, c1, c2⟩ := mD.out
 go_wp2_with fail
 refine (bG P Q G X xs kn xc true hx mq (aa (by omega)) _ HS2).mono ?_
 rintro e w3 ⟨rfl, hb0⟩
 have hb3 := af hb2 hb0
 have sw := aa (ko.out.below hb0)
 have m_ := aa (mD.out.below hb0)
 have KT := aa (GG.out.below hb0)
 have zf := aa (HS2.out.below hb0)
 clear c0 c1 c2 hb0
 obtain ⟨c0, c1, c2⟩ := m_.out
 have hq := ai w3 (.cells #[.int .i64 c] 3)
 have HO := aa (dL (jI w3 3 c))
 have HXa := aa (m_.out.below hq)
 have HKa := aa (KT.out.below hq)
 have HSa := aa (zf.out.below hq)
 have hba := af hb3 hq
 have HBO := aa (DD hc0 hc1)
 clear hq
 go_wp2_with fail
 refine (bG P Q G (some ⟨w3.heap.size, 0, none⟩) [c] 1 1 true HBO (aa rfl) (aa (by omega)) _ HO).mono ?_
 rintro e W ⟨rfl, hb0⟩
 have hbW := af hba hb0
 have Di := aa (HXa.out.below hb0)
 have Yw := aa (HKa.out.below hb0)
 have Pp := aa (HSa.out.below hb0)
 clear hb0 c0 c1 c2
 go_wp2
 go_loopw [10, 55] (fun v i wr => ∃ k : Nat, k ≤ kn ∧ i = .int .i64 k ∧ Hid (dN wr W.heap.size v (lI Q c ks xs k)) ∧ Hid (Below W.heap.size W wr)) (fun _ i _ => kn - (intOf i).toNat)
 case atStart => exact ⟨0, by omega, rfl, aa (uj _ _), aa (Below.refl _ _)⟩
 case round =>
  obtain ⟨k, hkk, rfl, HOr, aF⟩ := hrel
  by_cases hlt : k < kn
  ·
   have hkl : k < ks.length := by rw [hkn.out]; exact hlt
   have hxl : k < xs.length := by rw [mq.out]; exact hlt
   obtain ⟨b1, o1, hK, hi0⟩ := Yw.out.below aF.out k hkl
   obtain ⟨b2, o2, hX, hi1⟩ := Pp.out.below aF.out k hxl
   subst hK
   subst hX
   obtain ⟨c0, c1, c2⟩ := Di.out.below aF.out
   have hm1 := eH hk.out hkl
   have hm2 := eH hx.out hxl
   have hst := Fe Q c ks xs k
   obtain ⟨x, Ni⟩ : ∃ x, ks.getD k 0 = x := ⟨_, rfl⟩
   obtain ⟨y, QU⟩ : ∃ x, xs.getD k 0 = x := ⟨_, rfl⟩
   rw [Ni] at hi0 hm1 hst
   rw [QU] at hi1 hm2 hst
   have x0 := lH hm1
   have x1 := qC hm1
   have y0 := lH hm2
   have y1 := qC hm2
   obtain ⟨p, hp1⟩ : ∃ p, c * y % Q = p := ⟨_, rfl⟩
   have p0 : 0 ≤ p := by rw [← hp1]; exact Int.emod_nonneg _ (by omega)
   have p1 : p < Q := by rw [← hp1]; exact Int.emod_lt_of_pos _ (by omega)
   rw [hp1] at hst
   obtain ⟨t, ht⟩ : ∃ t, (x + p) % Q = t := ⟨_, rfl⟩
   rw [ht] at hst
   have D5 : (x + p).tmod Q = t := by rw [Int.tmod_eq_emod_of_nonneg (by omega), ht]
   have t0 : 0 ≤ t := by rw [← ht]; exact Int.emod_nonneg _ (by omega)
   have t1 : t < Q := by rw [← ht]; exact Int.emod_lt_of_pos _ (by omega)
   have hwt : IntKind.i64.wrap t = t := IntWalk.i64_in _ (by omega)
   have hQn : ¬ (Q = 0) := by omega
   have hQz : ((Q : Int) == 0) = false := by simp; omega
   have hsum : IntKind.i64.wrap (x + p) = x + p := IntWalk.i64_in _ (by omega)
   have Xi : wrap64 (x + p) = x + p := IntWalk.wrap64_in _ (by omega)
   have HST := aa hst
   have lX := aa hp1
   have Es := aa (jS Q c ks xs k)
   clear hm1 hm2 hst Ni QU hp1 hkl hxl
   go_wp2
   go_quiet ((go_at_call 84; exact Calls.quiet_of (sI c y Q p lX (by omega) hc0 hc1 y0 y1 _)))
   have u_ := aa (HOr.out.keep (ay (Below.refl wr.heap.size wr) nq))
   have HB1 : Hid (Below W.heap.size W (wr.drewN nq)) := aa (ay aF.out _)
   obtain ⟨wq, hwq⟩ : ∃ x, wr.drewN nq = x := ⟨_, rfl⟩
   have Yl : Hid (Below wr.heap.size wr wq) := aa (by rw [← hwq]; exact ay (Below.refl _ _) _)
   rw [hwq] at u_ HB1 ⊢
   clear hwq
   have Zo := cell_below hi0 Yl.out
   have c1q := cell_below c1 Yl.out
   go_wp2
   have hown : wq.ownsRow W.heap.size 3 1 u10 k ((lI Q c ks xs k).map (Value.int .i64)) := by
    have h3 := u_.out
    unfold dN at h3
    rwa [Es.out] at h3
   have hbs := HB1.out.size
   have lb : b1 < W.heap.size := by
    obtain ⟨bb, oo, e1, e2⟩ := Yw.out k (by rw [hkn.out]; exact hlt)
    cases e1
    exact World.block_lt_of_cell? _ _ e2
   have lg : w.heap.size < W.heap.size := World.block_lt_of_cell? _ _ Di.out.2.1
   have ag : u10.ownBlock ≠ some b1 := fun e => by have := (World.ownsRow.lt hown _ e).1; omega
   have ah : u10.ownBlock ≠ some w.heap.size := fun e => by have := (World.ownsRow.lt hown _ e).1; omega
   go_region_held3 (fun w' => w'.cell? ⟨b1, o1 + k, none⟩ = some (.int .i64 x) ∧ w'.cell? ⟨w.heap.size, 1, none⟩ = some (.int .i64 Q))
    (first | go_keep | (go_split_ands; refine ⟨?_, ?_⟩ <;> (first | (rw [hgrow.cell_far _ (by simp; omega) (Ne.symm ag)]; assumption) | (rw [hgrow.cell_far _ (by simp; omega) (Ne.symm ah)]; assumption))))
    ((refine step_append_lies _ (by rfl) _ _ _ (by rfl) W.heap.size 3 i0 _ 1 8 Tryz.underlying24 hi hz0 hz1 hz2 rfl (by omega) u10 k ((lI Q c ks xs k).map (Value.int .i64)) (by rfl) ((hown.alloc _).drew) ⟨wq.heap.size, 0, none⟩ 1 1 [.int .i64 t] (by rfl) (by rfl) (World.news_of_block (cs := #[.int .i64 t]) (t := 3) (fr := (0, 0)) (heap_alloc_new wq _)) (by simp [Value.oneCell']) (by omega) (by unfold maxLen; omega) (by omega) (by simp; omega) (wq.heap.size + 1) (by simp) ?_; intro gg cap wz hown1 hgrow hat hlt2))
   have qW : Hid (dN wz W.heap.size (.slice (some ⟨gg, 0, none⟩) (k + 1) cap) (lI Q c ks xs (k + 1))) := aa (by
    rw [HST.out]
    exact dN.app Es.out.symm hown1)
   have HB3 : Hid (Below W.heap.size W wz) := aa (dN.below (o := .cells #[.int .i64 t] 3) u_.out HB1.out hbs (by first | exact hgrow | exact ⟨hgrow.os, hgrow.tape, hgrow.output, hgrow.size, hgrow.block⟩))
   clear hown hown1 hgrow
   go_wp2
   go_roundw
   case rel => exact ⟨k + 1, by omega, by go_num, qW, HB3⟩
   case measure => simp [intOf]; omega
  ·
   obtain rfl : k = kn := by omega
   have HF := aa (HOr.out.mono (by have := hbW.size; omega : w.heap.size ≤ W.heap.size))
   have dw := af hbW aF.out
   clear HOr hlt
   go_wp2
   go_ret2
   exact ⟨_, rfl, HF.out, dw⟩
theorem La {Q x : Int} (h : x < 0) : cu Q x = false := by simp [cu]; omega
theorem Lb {Q x : Int} (h : Q ≤ x) : cu Q x = false := by simp [cu]; omega
theorem NR {Q x : Int} (h0 : ¬ x < 0) (h1 : ¬ Q ≤ x) : cu Q x = true := by simp [cu]; omega
theorem J3 {f : Int → Bool} {xs : List Int} {k : Nat} (hk : k < xs.length) (h : f (xs.getD k 0) = true) : (xs.drop k).all f = (xs.drop (k + 1)).all f := by
 rw [List.drop_eq_getElem_cons hk, List.all_cons]
 rw [List.getD_eq_getElem?_getD, List.getElem?_eq_getElem hk] at h
 simp at h
 rw [h, Bool.true_and]
theorem Em {f : Int → Bool} {xs : List Int} {k : Nat} (hk : k < xs.length) (h : f (xs.getD k 0) = false) : (xs.drop k).all f = false := by
 rw [List.drop_eq_getElem_cons hk, List.all_cons]
 rw [List.getD_eq_getElem?_getD, List.getElem?_eq_getElem hk] at h
 simp at h
 rw [h, Bool.false_and]
theorem gU (P Q G : Int) (A : Option Addr) (xs : List Int) (n c : Nat) (r : Bool) (hr : Hid (xs.all (cu Q) = r)) (hn : Hid (xs.length = n)) (hbig : n < 1000000) (w : World) (hs : Hid (Sl w A xs)) :
  Calls Tryz.prog 98 #[gv P Q G, .slice A n c] w (Rt w (.bool r)) := by
 have dR := aa (ai w (aN P Q G))
 have HX0 := aa (az w P Q G)
 have sD := aa (hs.out.below dR.out)
 obtain ⟨W, hW⟩ : ∃ W, w.alloc (aN P Q G) = W := ⟨_, rfl⟩
 rw [hW] at HX0 sD dR
 have HW := aa hW
 clear hW hs
 go_in
 go_wp2
 rw [HW.out]
 go_loopw [5] (fun i wr => ∃ k : Nat, k ≤ n ∧ i = .int .i64 k ∧ Hid ((xs.drop k).all (cu Q) = r) ∧ Hid (Below W.heap.size W wr)) (fun i _ => n - (intOf i).toNat)
 case atStart => exact ⟨0, by omega, rfl, aa (by rw [List.drop_zero]; exact hr.out), aa (Below.refl _ _)⟩
 case round =>
  obtain ⟨k, hk, rfl, HR, aF⟩ := hrel
  by_cases hlt : k < n
  ·
   have hkl : k < xs.length := by rw [hn.out]; exact hlt
   obtain ⟨b, o, hA, hi⟩ := sD.out.below aF.out k hkl
   subst hA
   obtain ⟨c0, c1, c2⟩ := HX0.out.below aF.out
   by_cases h0 : xs.getD k 0 < 0
   ·
    have hf : cu Q (xs.getD k 0) = false := La h0
    obtain rfl : r = false := HR.out.symm.trans (Em hkl hf)
    obtain ⟨x, hx⟩ : ∃ x, xs.getD k 0 = x := ⟨_, rfl⟩
    rw [hx] at hi h0
    have d0 : decide (x < 0) = true := by simp; omega
    have dw := fun q => ay (af dR.out aF.out) q
    clear hx hf hkl HR
    go_wp2
    go_quiet (fail)
    go_wp2
    go_ret
    exact ⟨rfl, dw _⟩
   ·
    by_cases h1 : Q ≤ xs.getD k 0
    ·
     have hf : cu Q (xs.getD k 0) = false := Lb h1
     obtain rfl : r = false := HR.out.symm.trans (Em hkl hf)
     obtain ⟨x, hx⟩ : ∃ x, xs.getD k 0 = x := ⟨_, rfl⟩
     rw [hx] at hi h0 h1
     have d0 : decide (x < 0) = false := by simp; omega
     have d1 : decide (Q ≤ x) = true := by simp; omega
     have dw := fun q => ay (af dR.out aF.out) q
     clear hx hf hkl HR
     go_wp2
     go_quiet (fail)
     go_wp2
     go_ret
     exact ⟨rfl, dw _⟩
    ·
     have hf : cu Q (xs.getD k 0) = true := NR h0 h1
     have HR2 : Hid ((xs.drop (k + 1)).all (cu Q) = r) := aa ((J3 hkl hf).symm.trans HR.out)
     obtain ⟨x, hx⟩ : ∃ x, xs.getD k 0 = x := ⟨_, rfl⟩
     rw [hx] at hi h0 h1
     have d0 : decide (x < 0) = false := by simp; omega
     have d1 : decide (Q ≤ x) = false := by simp; omega
     have HB2 := aa (fun q => ay aF.out q)
     clear hx hf hkl HR
     go_wp2
     go_quiet (fail)
     go_wp2
     go_roundw
     case rel => exact ⟨k + 1, by omega, by go_num, HR2, aa (HB2.out _)⟩
     case measure => simp [intOf]; omega
  ·
   obtain rfl : k = n := by omega
   obtain rfl : r = true := by rw [← HR.out, ← hn.out, List.drop_length]; rfl
   have dw := af dR.out aF.out
   clear HR hlt
   go_wp2
   go_ret
   exact ⟨rfl, dw⟩
theorem xR (P Q G : Int) (A : Option Addr) (xs : List Int) (n c : Nat) (E : Option Addr) (es : List Int) (m d : Nat) (V : Int) (hV : Hid (aO P 1 xs es = V)) (hn : Hid (xs.length = n)) (hm : Hid (es.length = m)) (hnm : n ≤ m) (hbig : m < 1000000)
  (hx : Hid (xs.all (a_ P Q) = true)) (he : Hid (es.all (cu Q) = true)) (hp2 : 2 ≤ P) (hp : P < 2305843009213693952) (hQ : Q < 9223372036854775808) (w : World) (hA : Hid (Sl w A xs)) (hE : Hid (Sl w E es)) :
  Calls Tryz.prog 99 #[gv P Q G, .slice A n c, .slice E m d] w (Rt w (.int .i64 V)) := by
 have dR := aa (ai w (aN P Q G))
 have HX0 := aa (az w P Q G)
 have oL := aa (hA.out.below dR.out)
 have KU := aa (hE.out.below dR.out)
 obtain ⟨W, hW⟩ : ∃ W, w.alloc (aN P Q G) = W := ⟨_, rfl⟩
 rw [hW] at HX0 oL KU dR
 have HW := aa hW
 clear hW hA hE
 go_in
 go_wp2
 rw [HW.out]
 go_loopw [7, 8] (fun y i wr => ∃ (k : Nat) (acc : Int), k ≤ n ∧ y = .int .i64 acc ∧ i = .int .i64 k ∧ 0 ≤ acc ∧ acc < P ∧ Hid (aO P acc (xs.drop k) (es.drop k) = V) ∧ Hid (Below W.heap.size W wr)) (fun _ i _ => n - (intOf i).toNat)
 case atStart => exact ⟨0, 1, by omega, rfl, rfl, by omega, by omega, qY hV, aa (Below.refl _ _)⟩
 case round =>
  obtain ⟨k, acc, hk, rfl, rfl, a0, a1, HJ, aF⟩ := hrel
  by_cases hlt : k < n
  ·
   have hkl : k < xs.length := by rw [hn.out]; exact hlt
   have hkm : k < m := by omega
   have hke : k < es.length := by rw [hm.out]; exact hkm
   obtain ⟨b, o, hA, hi0⟩ := oL.out.below aF.out k hkl
   obtain ⟨b2, o2, hE, hi1⟩ := KU.out.below aF.out k hke
   subst hA
   subst hE
   obtain ⟨c0, c1, c2⟩ := HX0.out.below aF.out
   have hm1 := eH hx.out hkl
   have hm2 := eH he.out hke
   have hst := jA (P := P) (acc := acc) hkl hke
   obtain ⟨x, Ni⟩ : ∃ x, xs.getD k 0 = x := ⟨_, rfl⟩
   obtain ⟨ex, hee⟩ : ∃ x, es.getD k 0 = x := ⟨_, rfl⟩
   rw [Ni] at hi0 hm1 hst
   rw [hee] at hi1 hm2 hst
   have x0 := d_ hm1
   have x1 := ek hm1
   have e0 := lH hm2
   have e1 := qC hm2
   obtain ⟨p, hp1⟩ : ∃ p, pw x ex P = p := ⟨_, rfl⟩
   obtain ⟨p0, p1⟩ : 0 ≤ p ∧ p < P := by rw [← hp1]; exact tX _ _ _ (by omega)
   rw [hp1] at hst
   obtain ⟨uW, hac⟩ : ∃ a, acc * p % P = a := ⟨_, rfl⟩
   rw [hac] at hst
   have q0 : 0 ≤ uW := by rw [← hac]; exact Int.emod_nonneg _ (by omega)
   have q1 : uW < P := by rw [← hac]; exact Int.emod_lt_of_pos _ (by omega)
   have HJ2 : Hid (aO P uW (xs.drop (k + 1)) (es.drop (k + 1)) = V) := aa (hst.symm.trans HJ.out)
   have lX := aa hp1
   have qx := aa hac
   have HB2 := aa (fun q => ay aF.out q)
   clear hm1 hm2 hst Ni hee hp1 hac hkl hke HJ
   go_wp2
   go_quiet ((first | (go_at_call 41; exact tT (jw x ex P p lX (by omega) hp (by omega) x1 e0 (by omega) _)) | (go_at_call 87; exact tT (jy acc p P uW qx hp a0 a1 p0 p1 _))))
   go_wp2
   go_roundw
   case rel => exact ⟨k + 1, uW, by omega, rfl, by go_num, q0, q1, HJ2, aa (HB2.out _)⟩
   case measure => simp [intOf]; omega
  ·
   obtain rfl : k = n := by omega
   obtain rfl := wE hn.out HJ
   have dw := af dR.out aF.out
   clear HJ hlt
   go_wp2
   go_ret
   exact ⟨rfl, dw⟩
end Go.Proofs.YtbljkkpnpcgjfaaGreatDoor