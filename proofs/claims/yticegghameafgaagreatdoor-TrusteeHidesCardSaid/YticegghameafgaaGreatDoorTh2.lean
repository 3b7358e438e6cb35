/- Contracts and lemmas: Byt, DigA, DigB, DigC, LawKitD, LinA, LinB, Held, Many, Bx, DigD, DigE, DigF, Itm, EncA, EncD, RdgE, TrB, TrF, TrG, DrA, OpD, Nwt, RInv, LinD, LinF. -/
import Derived.BigRegion
import Derived.Deep.WholeRow
import Derived.Deep.Cut
import Derived.ChangeMaps5
import Derived.Deep.RegionHeld3
import Derived.Deep.AppendLies
import Derived.Deep.MidRow
import Derived.Test.YticegghameafgaaGreatDoorTh1
set_option linter.unusedVariables false
set_option linter.unusedSimpArgs false
set_option maxRecDepth 100000
set_option maxHeartbeats 25600000
namespace Go.Proofs.YticegghameafgaaGreatDoor
open Go.RowKit jk
def Sk (K : IntKind) (w : World) (A : Option Addr) (xs : List Int) : Prop := ∀ j, j < xs.length → ∃ b o, A = some ⟨b, o, none⟩ ∧ w.cell? ⟨b, o + j, none⟩ = some (.int K (xs.getD j 0))
variable {K : IntKind}
theorem O3 (w : World) (A : Option Addr) : Sk K w A [] := fun k hk => absurd hk (by simp)
theorem Sk.below {w w' : World} {A : Option Addr} {xs : List Int} (h : Sk K w A xs) (hb : Below w.heap.size w w') : Sk K w' A xs := fun k hk => by
 obtain ⟨b, o, h1, h2⟩ := h k hk
 exact ⟨b, o, h1, (hb.cell (World.block_lt_of_cell? _ _ h2)).trans h2⟩
theorem Sk.lt {w : World} {b o : Nat} {xs : List Int} (h : Sk K w (some ⟨b, o, none⟩) xs) (h0 : 0 < xs.length) : b < w.heap.size := by
 obtain ⟨b', o', e, hc⟩ := h 0 h0
 cases e
 exact World.block_lt_of_cell? _ _ hc
theorem Sk.cell {w : World} {b o : Nat} {xs : List Int} (h : Sk K w (some ⟨b, o, none⟩) xs) {j : Nat} (hj : j < xs.length) : w.cell? ⟨b, o + j, none⟩ = some (.int K (xs.getD j 0)) := by
 obtain ⟨b', o', e, hc⟩ := h j hj
 cases e
 exact hc
theorem Sk.drop {w : World} {b o n : Nat} {xs : List Int} (h : Sk K w (some ⟨b, o, none⟩) xs) : Sk K w (some ⟨b, o + n, none⟩) (xs.drop n) := fun j hj => by
 rw [List.length_drop] at hj
 refine ⟨b, o + n, rfl, ?_⟩
 rw [Nat.add_assoc, h.cell (j := n + j) (by omega)]
 simp [List.getD_eq_getElem?_getD, List.getElem?_drop]
theorem Sk.take {w : World} {A : Option Addr} {n : Nat} {xs : List Int} (h : Sk K w A xs) : Sk K w A (xs.take n) := fun j hj => by
 rw [List.length_take] at hj
 obtain ⟨b, o, h1, h2⟩ := h j (by omega)
 refine ⟨b, o, h1, ?_⟩
 rw [h2]
 simp [List.getD_eq_getElem?_getD, List.getElem?_take_of_lt (show j < n by omega)]
theorem Sk.nil_of {w : World} {A : Option Addr} {xs : List Int} (h : xs.length = 0) : Sk K w A xs := fun k hk => by omega
def bN (K : IntKind) (T : TypeId) (w : World) (base : Nat) (v : Value) (xs : List Int) : Prop := w.ownsRow base T 1 v xs.length (xs.map (Value.int K))
variable {T : TypeId}
theorem bN.app {w1 : World} {base k : Nat} {v' : Value} {xs ys : List Int} {m : Nat} (hk : k = xs.length) (hm : m = ys.length)
  (h : w1.ownsRow base T 1 v' (k + m) (xs.map (Value.int K) ++ ys.map (Value.int K))) : bN K T w1 base v' (xs ++ ys) := by
 unfold bN
 rw [List.length_append, List.map_append, ← hk, ← hm]
 exact h
theorem bN.below {w w1 wr : World} {B : Nat} {o : Obj} {v : Value} {xs : List Int} (h : bN K T wr B v xs) (hb : Below B w wr) (hB : B ≤ wr.heap.size) (hg : (wr.alloc o).grownBy w1 v.ownBlock) : Below B w w1 :=
 (hb.alloc hB o).grown hg (by simp; omega) (fun j hj => (World.ownsRow.lt h j hj).1)
theorem bN.below0 {w w1 wr : World} {B : Nat} {v : Value} {xs : List Int} (h : bN K T wr B v xs) (hb : Below B w wr) (hB : B ≤ wr.heap.size) (hg : wr.grownBy w1 v.ownBlock) : Below B w w1 :=
 hb.grown hg (by omega) (fun j hj => (World.ownsRow.lt h j hj).1)
theorem bN.cells {w : World} {B : Nat} {v : Value} {xs : List Int} (h : bN K T w B v xs) (hne : 0 < xs.length) : ∃ g cap, v = .slice (some ⟨g, 0, none⟩) xs.length cap ∧ B ≤ g ∧ xs.length ≤ cap ∧ cap ≤ maxLen ∧ Sk K w (some ⟨g, 0, none⟩) xs := by
 obtain ⟨h1, h2⟩ := h
 rcases h2 with ⟨_, h0⟩ | ⟨g, cap, cur, rfl, hg, hh, hn, hc, hs, ht⟩
 · omega
 ·
  refine ⟨g, cap, rfl, hg, hn, hc, fun j hj => ⟨g, 0, rfl, ?_⟩⟩
  rw [Nat.zero_add, ai hh]
  have e : cur.toList[j]? = (xs.map (Value.int K))[j]? := by
   rw [← ht, List.getElem?_take_of_lt (by omega)]
  rw [← Array.getElem?_toList, e, List.getElem?_map, List.getElem?_eq_getElem hj, List.getD_eq_getElem?_getD, List.getElem?_eq_getElem hj]
  rfl
theorem bN.sk {w : World} {B : Nat} {v : Value} {xs : List Int} (h : bN K T w B v xs) : ∃ A c, v = .slice A xs.length c ∧ Sk K w A xs ∧ (0 < xs.length → ∃ g, A = some ⟨g, 0, none⟩ ∧ B ≤ g) ∧ xs.length ≤ c := by
 by_cases h0 : 0 < xs.length
 ·
  obtain ⟨g, cap, rfl, hg, hn, _, hc⟩ := bN.cells h h0
  exact ⟨some ⟨g, 0, none⟩, cap, rfl, hc, fun _ => ⟨g, rfl, hg⟩, hn⟩
 ·
  have e : xs = [] := List.eq_nil_of_length_eq_zero (by omega)
  subst e
  obtain ⟨_, h2⟩ := h
  rcases h2 with ⟨hv, _⟩ | ⟨g, cap, cur, hv, _⟩
  · exact ⟨none, 0, hv, O3 _ _, fun h => absurd h (by simp), by simp⟩
  · exact ⟨_, cap, hv, O3 _ _, fun h => absurd h (by simp), by simp⟩
theorem bN.keep {w w' : World} {B : Nat} {v : Value} {xs : List Int} (h : bN K T w B v xs) (hb : Below w.heap.size w w') : bN K T w' B v xs := by
 obtain ⟨h1, h2⟩ := h
 refine ⟨h1, h2.imp id ?_⟩
 rintro ⟨g, cap, cur, rfl, hg, hh, rest⟩
 exact ⟨g, cap, cur, rfl, hg, (hb.block g (Array.getElem?_eq_some_iff.1 hh).1).trans hh, rest⟩
theorem bN.mono {w : World} {B B' : Nat} {v : Value} {xs : List Int} (h : bN K T w B v xs) (hb : B' ≤ B) : bN K T w B' v xs := by
 obtain ⟨h1, h2⟩ := h
 refine ⟨h1, h2.imp id ?_⟩
 rintro ⟨g, cap, cur, rfl, hg, rest⟩
 exact ⟨g, cap, cur, rfl, by omega, rest⟩
theorem bN.row {w : World} {B n : Nat} {v : Value} {xs : List Int} (h : bN K T w B v xs) (hn : xs.length = n) : w.ownsRow B T 1 v n (xs.map (Value.int K)) := by
 subst hn; exact h
def NS (K : IntKind) (T : TypeId) (xs : List Int) (w : World) (e : Ending) (w' : World) : Prop := ∃ v, e = .returned v ∧ bN K T w' w.heap.size v xs ∧ Below w.heap.size w w'
theorem vO {xs ys : List Int} {j : Nat} (h : j < xs.length) : (xs ++ ys).getD j 0 = xs.getD j 0 := by
 simp [List.getD_eq_getElem?_getD, List.getElem?_append_left h]
theorem vM {xs ys : List Int} {j : Nat} (h : xs.length ≤ j) : (xs ++ ys).getD j 0 = ys.getD (j - xs.length) 0 := by
 simp [List.getD_eq_getElem?_getD, List.getElem?_append_right h]
theorem take_one {xs : List Int} {k : Nat} (hk : k < xs.length) : xs.take (k + 1) = xs.take k ++ [xs.getD k 0] := by
 rw [List.take_add_one, List.getElem?_eq_getElem hk, List.getD_eq_getElem?_getD, List.getElem?_eq_getElem hk]
 rfl
def arr (K : IntKind) (l : List Int) : Array Value := (l.map (Value.int K)).toArray
theorem aI (l : List Int) : (arr K l).size = l.length := by simp [arr]
def aX (K : IntKind) (T : TypeId) (w : World) (b : Nat) (l : List Int) : Prop := w.heap[b]? = some (.cells (arr K l) T (0, 0))
theorem aX.below {w w' : World} {b : Nat} {l : List Int} (h : aX K T w b l) (hb : Below w.heap.size w w') : aX K T w' b l :=
 (hb.block b (Array.getElem?_eq_some_iff.1 h).1).trans h
theorem aX.keepB {w w' : World} {b B : Nat} {l : List Int} (h : aX K T w b l) (hlt : b < B) (hb : Below B w w') : aX K T w' b l := (hb.block b hlt).trans h
theorem aX.lt {w : World} {b : Nat} {l : List Int} (h : aX K T w b l) : b < w.heap.size := (Array.getElem?_eq_some_iff.1 h).1
theorem yu {l : List Int} {j : Nat} (hj : j < l.length) : (arr K l)[j]? = some (.int K (l.getD j 0)) := by
 simp [arr, List.getD_eq_getElem?_getD, List.getElem?_eq_getElem hj]
theorem aX.cell {w : World} {b j : Nat} {l : List Int} (h : aX K T w b l) (hj : j < l.length) : w.cell? ⟨b, j, none⟩ = some (.int K (l.getD j 0)) := (ai h j).trans (yu hj)
theorem aX.free {w : World} {b : Nat} {l : List Int} (h : aX K T w b l) (j : Nat) : w.frozen? ⟨b, j, none⟩ = false := bq h j
theorem Fj {l : List Int} {j : Nat} {v : Int} : (arr K l).setIfInBounds j (.int K v) = arr K (l.set j v) := by
 apply Array.ext'
 simp [arr, List.map_set]
theorem aX.set {w : World} {b j : Nat} {l : List Int} {v : Int} (h : aX K T w b l) : aX K T (w.setCell ⟨b, j, none⟩ (.int K v)) b (l.set j v) := by
 unfold aX
 rw [heap_setCell_same w b j _ T _ h, Fj]
theorem aX.set_ne {w : World} {b a j : Nat} {l : List Int} {v : Value} (h : aX K T w b l) (hne : b ≠ a) : aX K T (w.setCell ⟨a, j, none⟩ v) b l :=
 (heap_setCell_other w _ b v hne).trans h
theorem aX.setRow {w : World} {b : Nat} {l l' : List Int} (h : aX K T w b l) : aX K T (w.setRow b (arr K l')) b l' := setRow_heap w b _ _ T _ h
theorem aX.new (w : World) (l : List Int) : aX K T (w.alloc (.cells (arr K l) T)) w.heap.size l := heap_alloc_new _ _
theorem aX.old {w : World} {b : Nat} {l : List Int} (h : aX K T w b l) (o : Obj) : aX K T (w.alloc o) b l := (Below.heap_alloc w o b h.lt).trans h
theorem aX.drew {w : World} {b : Nat} {l : List Int} (h : aX K T w b l) (n : Nat) : aX K T (w.drewN n) b l := h.below (ah (Below.refl _ _) n)
theorem aX.sk {w : World} {b : Nat} {l : List Int} (h : aX K T w b l) : Sk K w (some ⟨b, 0, none⟩) l := fun j hj => ⟨b, 0, rfl, by rw [Nat.zero_add]; exact h.cell hj⟩
theorem dG (l : List Int) : (arr K l).all (·.oneCell') = true := by simp [arr, Value.oneCell']
theorem ak {B b : Nat} {w0 w : World} {cs : Array Value} (h : Below B w0 w) (hb : B ≤ b) : Below B w0 (w.setRow b cs) :=
 h.trans ⟨rfl, rfl, rfl, by simp [World.setRow], fun k hk => setRow_other w b k cs (by omega)⟩
end Go.Proofs.YticegghameafgaaGreatDoor
namespace Go.Proofs.YticegghameafgaaGreatDoor
open Go.RowKit
theorem KE : ∀ n : Nat, n < 32 → 1 ≤ n → bits .and .u64 (IntKind.u64.wrap (-(n : Int))) 31 = 32 - (n : Int) := by decide
theorem fJ (x : Int) : IntKind.u32.wrap x = x % 4294967296 := by simp [IntKind.wrap, IntKind.bits, IntKind.signed]
theorem Ea (x m s : Int) (n : Nat) (hs : Hid (bits .and .u64 (IntKind.u64.wrap m) 31 = s)) (hn : Hid (s = 32 - n)) (h0 : 0 ≤ s) (h1 : s ≤ 31) (w : World) :
  Calls Tryz.prog 119 #[.int .u32 x, .int .i64 m] w fun e w' => e = .returned (.int .u32 (eB x n)) ∧ w = w' := by
 have g1 : IntKind.u64.wrap (32 - s) = 32 - s := by simp [IntKind.wrap, IntKind.bits, IntKind.signed]; omega
 have g2 : 0 ≤ 32 - s := by omega
 have hs' := hs.out
 have HR : Hid (bits .or .u32 (x * 2 ^ s.toNat % 4294967296) (x / 2 ^ (32 - s).toNat) = eB x n) := aa (by
  have e1 : s.toNat = 32 - n := by have := hn.out; omega
  have e2 : (32 - s).toNat = n := by have := hn.out; omega
  rw [e1, e2, eB, ry, fJ])
 clear hs hn
 go_in
 go_wp2
 go_ret
 exact ⟨by rw [HR.out]; rfl, rfl⟩
theorem dV (x N : Int) (n : Nat) (hN : N = n) (h1 : 1 ≤ n) (h2 : n < 32) (w : World) :
  Calls Tryz.prog 118 #[.int .u32 x, .int .i64 N] w fun e w' => e = .returned (.int .u32 (eB x n)) ∧ w = w' := by
 subst hN
 have HS := aa (KE n h2 h1)
 have hm' : wrap64 (-(n : Int)) = -(n : Int) := IntWalk.wrap64_in _ (by omega)
 go_in
 go_wp2_with fail
 refine (Ea x _ _ n HS (aa rfl) (by omega) (by omega) _).mono ?_
 rintro e w' ⟨rfl, rfl⟩
 go_wp2
 go_ret
 exact ⟨rfl, rfl⟩
theorem yR (x N : Int) (h1 : 1 ≤ N) (h2 : N < 32) (w : World) :
  Calls Tryz.prog 118 #[.int .u32 x, .int .i64 N] w fun e w' => e = .returned (.int .u32 (eB x N.toNat)) ∧ w = w' :=
 dV x N N.toNat (by omega) (by omega) (by omega) w
end Go.Proofs.YticegghameafgaaGreatDoor
namespace Go.Proofs.YticegghameafgaaGreatDoor
open Go.RowKit jk
theorem Ew {p c : Int} (h0 : 0 ≤ p) (h1 : p < 16777216) (c0 : 0 ≤ c) (c1 : c < 256) : bits .or .u32 (p * 256) c = p * 256 + c := by
 obtain ⟨P, rfl⟩ := Int.eq_ofNat_of_zero_le h0
 obtain ⟨C, rfl⟩ := Int.eq_ofNat_of_zero_le c0
 have e1 : ((P : Int) * 256) = ((P * 256 : Nat) : Int) := by omega
 rw [e1, u32_or _ _ (by omega) (by omega) (by omega) (by omega)]
 have e2 : 2 ^ 8 * P + C = 2 ^ 8 * P ||| C := Nat.two_pow_add_eq_or_of_lt (by omega) P
 have e3 : P * 256 ||| C = P * 256 + C := by rw [show P * 256 = 2 ^ 8 * P by omega, ← e2]
 simp only [Int.toNat_natCast]
 rw [e3]
 omega
def part (b : List Int) (i : Nat) : Nat → Int
 | 0 => 0
 | m + 1 => part b i m * 256 + gG b (4 * i + m)
theorem J3 (b : List Int) (i : Nat) : part b i 4 = rT b i := by simp [part, rT]
theorem Et {b : List Int} (h : ax b = true) (i m : Nat) : 0 ≤ part b i m := by
 induction m with
 | zero => exact Int.le_refl _
 | succ m ih => have := (fe h (4 * i + m)).1; simp only [part, gG]; omega
theorem Eu {b : List Int} (h : ax b = true) (i m : Nat) (hm : m ≤ 3) : part b i m < 16777216 := by
 have h0 := fe h (4 * i)
 have h1 := fe h (4 * i + 1)
 have h2 := fe h (4 * i + 2)
 rcases (show m = 0 ∨ m = 1 ∨ m = 2 ∨ m = 3 by omega) with rfl | rfl | rfl | rfl
 · simp [part]
 · simp only [part, gG, Nat.add_zero]; omega
 · simp only [part, gG, Nat.add_zero]; omega
 · simp only [part, gG, Nat.add_zero]; omega
def aH (n : Nat) : List Int := List.replicate n 0
theorem Gj : (#[.int .u32 0, .int .u32 0, .int .u32 0, .int .u32 0, .int .u32 0, .int .u32 0, .int .u32 0, .int .u32 0, .int .u32 0, .int .u32 0, .int .u32 0, .int .u32 0, .int .u32 0, .int .u32 0, .int .u32 0, .int .u32 0, .int .u32 0, .int .u32 0, .int .u32 0, .int .u32 0, .int .u32 0, .int .u32 0, .int .u32 0, .int .u32 0, .int .u32 0, .int .u32 0, .int .u32 0, .int .u32 0, .int .u32 0, .int .u32 0, .int .u32 0, .int .u32 0, .int .u32 0, .int .u32 0, .int .u32 0, .int .u32 0, .int .u32 0, .int .u32 0, .int .u32 0, .int .u32 0, .int .u32 0, .int .u32 0, .int .u32 0, .int .u32 0, .int .u32 0, .int .u32 0, .int .u32 0, .int .u32 0, .int .u32 0, .int .u32 0, .int .u32 0, .int .u32 0, .int .u32 0, .int .u32 0, .int .u32 0, .int .u32 0, .int .u32 0, .int .u32 0, .int .u32 0, .int .u32 0, .int .u32 0, .int .u32 0, .int .u32 0, .int .u32 0] : Array Value) = arr .u32 (aH 64) := by rfl
def wz (l : List Int) : List Int := l ++ aH (64 - l.length)
theorem uM {l : List Int} (h : l.length ≤ 64) : (wz l).length = 64 := by simp [wz, aH]; omega
theorem z8 {l : List Int} {x : Int} (h : l.length < 64) : (wz l).set l.length x = wz (l ++ [x]) := by
 obtain ⟨m, hm⟩ : ∃ m, 64 - l.length = m + 1 := ⟨63 - l.length, by omega⟩
 have hm2 : 64 - (l ++ [x]).length = m := by rw [List.length_append, List.length_singleton]; omega
 rw [wz, wz, hm, hm2, aH, List.replicate_succ, List.set_append_right _ _ (Nat.le_refl _), Nat.sub_self, List.set_cons_zero]
 simp [aH]
theorem JL {l : List Int} : (wz l).getD l.length 0 = 0 := by
 rw [wz, vM (Nat.le_refl _), Nat.sub_self, aH, List.getD_eq_getElem?_getD, List.getElem?_replicate]
 split <;> rfl
theorem GA {l : List Int} {j : Nat} (h : j < l.length) : (wz l).getD j 0 = l.getD j 0 := vO h
theorem set_self {l : List Int} {k : Nat} {x : Int} (h : l.getD k 0 = x) : l.set k x = l := by
 by_cases hk : k < l.length
 ·
  rw [List.getD_eq_getElem?_getD, List.getElem?_eq_getElem hk] at h
  subst h
  exact List.set_getElem_self hk
 · exact List.set_eq_of_length_le (by omega)
theorem tQ {l : List Int} {k : Nat} {x : Int} (h : k < l.length) : (l.set k x).getD k 0 = x := by
 simp [List.getD_eq_getElem?_getD, h]
theorem z_ (b : List Int) : wz (jo 48 (bg b 16)) = aO b := by
 have h := f_ b
 unfold aO at h ⊢
 unfold wz
 rw [h]
 simp [aH]
theorem Ho : (Tryz.prog.info? 141).map (·.size) = some 64 := by kernel_rfl
theorem fZ (b : List Int) : (Tryz.prog.info? 141).map (·.size) = some (arr .u32 (aO b)).size := Ho.trans (congrArg some (by rw [aI, f_]))
theorem sH (b : List Int) : (arr .u32 (aH 64)).size = (arr .u32 (aO b)).size := by rw [aI, aI, f_]; rfl
theorem yP (b o cap : Nat) (blk : List Int) (hlen : Hid (blk.length = 64)) (hby : Hid (ax blk = true)) (w : World) (hs : Hid (Sk .u8 w (some ⟨b, o, none⟩) blk)) (hcap : 64 ≤ cap) (hcm : cap ≤ 9223372036854775807) :
  Calls Tryz.prog 117 #[.slice (some ⟨b, o, none⟩) 64 cap] w (Rt w (.agg (arr .u32 (aO blk)))) := by
 obtain ⟨W, hW⟩ : ∃ W, (w.alloc (.cells #[.int .u32 0, .int .u32 0, .int .u32 0, .int .u32 0, .int .u32 0, .int .u32 0, .int .u32 0, .int .u32 0, .int .u32 0, .int .u32 0, .int .u32 0, .int .u32 0, .int .u32 0, .int .u32 0, .int .u32 0, .int .u32 0, .int .u32 0, .int .u32 0, .int .u32 0, .int .u32 0, .int .u32 0, .int .u32 0, .int .u32 0, .int .u32 0, .int .u32 0, .int .u32 0, .int .u32 0, .int .u32 0, .int .u32 0, .int .u32 0, .int .u32 0, .int .u32 0, .int .u32 0, .int .u32 0, .int .u32 0, .int .u32 0, .int .u32 0, .int .u32 0, .int .u32 0, .int .u32 0, .int .u32 0, .int .u32 0, .int .u32 0, .int .u32 0, .int .u32 0, .int .u32 0, .int .u32 0, .int .u32 0, .int .u32 0, .int .u32 0, .int .u32 0, .int .u32 0, .int .u32 0, .int .u32 0, .int .u32 0, .int .u32 0, .int .u32 0, .int .u32 0, .int .u32 0, .int .u32 0, .int .u32 0, .int .u32 0, .int .u32 0, .int .u32 0] 141)).alloc (.cells #[.int .u32 0, .int .u32 0, .int .u32 0, .int .u32 0, .int .u32 0, .int .u32 0, .int .u32 0, .int .u32 0, .int .u32 0, .int .u32 0, .int .u32 0, .int .u32 0, .int .u32 0, .int .u32 0, .int .u32 0, .int .u32 0, .int .u32 0, .int .u32 0, .int .u32 0, .int .u32 0, .int .u32 0, .int .u32 0, .int .u32 0, .int .u32 0, .int .u32 0, .int .u32 0, .int .u32 0, .int .u32 0, .int .u32 0, .int .u32 0, .int .u32 0, .int .u32 0, .int .u32 0, .int .u32 0, .int .u32 0, .int .u32 0, .int .u32 0, .int .u32 0, .int .u32 0, .int .u32 0, .int .u32 0, .int .u32 0, .int .u32 0, .int .u32 0, .int .u32 0, .int .u32 0, .int .u32 0, .int .u32 0, .int .u32 0, .int .u32 0, .int .u32 0, .int .u32 0, .int .u32 0, .int .u32 0, .int .u32 0, .int .u32 0, .int .u32 0, .int .u32 0, .int .u32 0, .int .u32 0, .int .u32 0, .int .u32 0, .int .u32 0, .int .u32 0] 141) = W := ⟨_, rfl⟩
 have iN : Hid (Below w.heap.size w W) := aa (by rw [← hW]; exact aZ (Below.refl _ _))
 have HB0 : Hid (aX .u32 141 W (w.heap.size + 1) (wz (bg blk 0))) := aa (by
  rw [← hW, Gj]
  exact heap_alloc2_new _ _ _)
 have lM : Hid (aX .u32 141 W w.heap.size (aH 64)) := aa (by
  rw [← hW, Gj]
  exact heap_alloc2_old _ _ _)
 have Dq : Hid (W.heap.size = w.heap.size + 2) := aa (by rw [← hW]; simp)
 have HS := aa hs.out
 have HW := aa hW
 clear hW hs
 go_in
 go_wp2
 rw [HW.out]
 go_loopw [12] (fun i wr => ∃ k : Nat, k ≤ 16 ∧ i = .int .i64 k ∧ Hid (aX .u32 141 wr (w.heap.size + 1) (wz (bg blk k))) ∧ Hid (Below (w.heap.size + 1) W wr)) (fun i _ => 16 - (intOf i).toNat)
 case atStart => exact ⟨0, by omega, rfl, HB0, aa (Below.refl _ _)⟩
 case round =>
  obtain ⟨k, hk, rfl, HB, aB⟩ := hrel
  by_cases hlt : k < 16
  ·
   clear HW
   have uE : Hid (aX .u32 141 wr (w.heap.size + 1) ((wz (bg blk k)).set k (part blk k 0))) := aa (by
    rw [set_self (by have := JL (l := bg blk k); rwa [cz] at this)]
    exact HB.out)
   go_wp2
   go_loopw [23] (fun j u => ∃ m : Nat, m ≤ 4 ∧ j = .int .i64 m ∧ Hid (aX .u32 141 u (w.heap.size + 1) ((wz (bg blk k)).set k (part blk k m))) ∧ Hid (Below (w.heap.size + 1) W u)) (fun j _ => 4 - (intOf j).toNat)
   case atStart => exact ⟨0, by omega, rfl, uE, aB⟩
   case round =>
    obtain ⟨m, hm, rfl, qc, kz⟩ := hrel
    by_cases hlm : m < 4
    ·
     have hc0 := qc.out.cell (j := k) (by rw [List.length_set, uM (by rw [cz]; omega)]; omega)
     rw [tQ (by rw [uM (by rw [cz]; omega)]; omega)] at hc0
     have hf0 := qc.out.free k
     have hc1 := (HS.out.below (iN.out.trans (kz.out.mono (Nat.le_succ _)))).cell (j := 4 * k + m) (by have := hlen.out; omega)
     obtain ⟨c0, c1⟩ := fe hby.out (4 * k + m)
     have hpn : part blk k (m + 1) = part blk k m * 256 + blk.getD (4 * k + m) 0 := rfl
     have p0 := Et hby.out k m
     have p1 := Eu hby.out k m (by omega)
     obtain ⟨c, hcc⟩ : ∃ c, blk.getD (4 * k + m) 0 = c := ⟨_, rfl⟩
     rw [hcc] at hc1 c0 c1 hpn
     rw [← Nat.add_assoc] at hc1
     obtain ⟨p, hp⟩ : ∃ p, part blk k m = p := ⟨_, rfl⟩
     rw [hp] at hc0 p0 p1 hpn
     have hor := Ew p0 p1 c0 c1
     obtain ⟨q, hq⟩ : ∃ q, p * 256 + c = q := ⟨_, rfl⟩
     rw [hq] at hor hpn
     have HB2 : Hid (aX .u32 141 (wr.setCell ⟨w.heap.size + 1, k, none⟩ (.int .u32 q)) (w.heap.size + 1) ((wz (bg blk k)).set k (part blk k (m + 1)))) := aa (by
      rw [hpn]
      have h := qc.out.set (j := k) (v := q)
      rwa [List.set_set] at h)
     have xm : Hid (Below (w.heap.size + 1) W (wr.setCell ⟨w.heap.size + 1, k, none⟩ (.int .u32 q))) := aa (kz.out.setCell (Nat.le_refl _) _)
     clear hcc hp hq hpn qc kz
     go_wp2
     go_roundw
     case rel => exact ⟨m + 1, by omega, by go_num, HB2, xm⟩
     case measure => simp [intOf]; omega
    ·
     obtain rfl : m = 4 := by omega
     have HB2 : Hid (aX .u32 141 wr (w.heap.size + 1) (wz (bg blk (k + 1)))) := aa (by
      have h := qc.out
      have e := z8 (l := bg blk k) (x := rT blk k) (by rw [cz]; omega)
      rw [cz] at e
      rw [J3, e, ← rU] at h
      exact h)
     clear qc
     go_wp2
     go_roundw
     case rel => exact ⟨k + 1, by omega, by go_num, HB2, kz⟩
     case measure => simp [intOf]; omega
  ·
   obtain rfl : k = 16 := by omega
   clear HW hlt
   have OY : Hid (aX .u32 141 wr (w.heap.size + 1) (wz (jo (16 - 16) (bg blk 16)))) := aa (by rw [show 16 - 16 = 0 from rfl, jo]; exact HB.out)
   clear HB
   go_wp2
   rw [show (((16 : Nat) : Int)) = 16 from rfl]
   go_loopw [7] (fun i u => ∃ t : Nat, 16 ≤ t ∧ t ≤ 64 ∧ i = .int .i64 t ∧ Hid (aX .u32 141 u (w.heap.size + 1) (wz (jo (t - 16) (bg blk 16)))) ∧ Hid (Below (w.heap.size + 1) W u)) (fun i _ => 64 - (intOf i).toNat)
   case atStart => exact ⟨16, by omega, by omega, rfl, OY, aB⟩
   case round =>
    obtain ⟨t, ht0, ht, rfl, Dg, kz⟩ := hrel
    by_cases hlt : t < 64
    ·
     obtain ⟨L, hL⟩ : ∃ L, jo (t - 16) (bg blk 16) = L := ⟨_, rfl⟩
     have hLn : L.length = t := by rw [← hL, rV, cz]; omega
     have hwz : (wz L).length = 64 := uM (by omega)
     rw [hL] at Dg
     have NN := Dg.out.cell (j := t - 15) (by omega)
     have h2 := Dg.out.cell (j := t - 2) (by omega)
     have h16 := Dg.out.cell (j := t - 16) (by omega)
     have h7 := Dg.out.cell (j := t - 7) (by omega)
     have ht0' := Dg.out.cell (j := t) (by omega)
     have hfr := Dg.out.free t
     rw [GA (by omega)] at NN h2 h16 h7
     have hnx : jo (t + 1 - 16) (bg blk 16) = L ++ [add32 (add32 (add32 (L.getD (t - 16) 0) (LA (L.getD (t - 15) 0))) (L.getD (t - 7) 0)) (Lx (L.getD (t - 2) 0))] := by
      rw [show t + 1 - 16 = (t - 16) + 1 by omega, jo, hL, FP, hLn]
     obtain ⟨Ja, e15⟩ : ∃ x, L.getD (t - 15) 0 = x := ⟨_, rfl⟩
     obtain ⟨x2, e2⟩ : ∃ x, L.getD (t - 2) 0 = x := ⟨_, rfl⟩
     obtain ⟨O0, e16⟩ : ∃ x, L.getD (t - 16) 0 = x := ⟨_, rfl⟩
     obtain ⟨x7, e7⟩ : ∃ x, L.getD (t - 7) 0 = x := ⟨_, rfl⟩
     rw [e15] at NN hnx
     rw [e2] at h2 hnx
     rw [e16] at h16 hnx
     rw [e7] at h7 hnx
     have Fz := aa hnx
     have ic := aa hLn
     have i15 : ((t : Int) - 15).toNat = t - 15 := by omega
     have i2 : ((t : Int) - 2).toNat = t - 2 := by omega
     have i16 : ((t : Int) - 16).toNat = t - 16 := by omega
     have i7 : ((t : Int) - 7).toNat = t - 7 := by omega
     have TZ : (0 : Int) ≤ (t : Int) - 15 := by omega
     have j2 : (0 : Int) ≤ (t : Int) - 2 := by omega
     have TW : (0 : Int) ≤ (t : Int) - 16 := by omega
     have j7 : (0 : Int) ≤ (t : Int) - 7 := by omega
     clear hnx e15 e2 e16 e7 hL hLn hwz
     go_wp2
     go_quiet (fail)
     have xm := aa (ah kz.out nq)
     have Lm := aa (Dg.out.drew nq)
     obtain ⟨w2, hw2⟩ : ∃ u, wr.drewN nq = u := ⟨_, rfl⟩
     rw [hw2] at xm Lm
     have HW2 := aa hw2
     have g16 : w2.cell? ⟨w.heap.size + 1, t - 16, none⟩ = some (.int .u32 O0) := by rw [← hw2]; simpa using h16
     have g7 : w2.cell? ⟨w.heap.size + 1, t - 7, none⟩ = some (.int .u32 x7) := by rw [← hw2]; simpa using h7
     have gt : w2.cell? ⟨w.heap.size + 1, t, none⟩ = some (.int .u32 ((wz L).getD t 0)) := by rw [← hw2]; simpa using ht0'
     have gf : w2.frozen? ⟨w.heap.size + 1, t, none⟩ = false := by rw [← hw2]; simpa using hfr
     clear hw2 NN h2 h16 h7 ht0' hfr kz Dg
     go_wp2_with fail
     rw [HW2.out]
     refine (dV Ja 7 7 rfl (by decide) (by decide) _).mono ?_
     rintro e w' ⟨rfl, rfl⟩
     go_wp2_with fail
     refine (dV Ja 18 18 rfl (by decide) (by decide) _).mono ?_
     rintro e w' ⟨rfl, rfl⟩
     go_wp2_with fail
     refine (dV x2 17 17 rfl (by decide) (by decide) _).mono ?_
     rintro e w' ⟨rfl, rfl⟩
     go_wp2_with fail
     refine (dV x2 19 19 rfl (by decide) (by decide) _).mono ?_
     rintro e w' ⟨rfl, rfl⟩
     obtain ⟨r7, Nf⟩ : ∃ r, eB Ja 7 = r := ⟨_, rfl⟩
     obtain ⟨QT, Hw⟩ : ∃ r, eB Ja 18 = r := ⟨_, rfl⟩
     obtain ⟨QU, Hy⟩ : ∃ r, eB x2 17 = r := ⟨_, rfl⟩
     obtain ⟨QS, Hu⟩ : ∃ r, eB x2 19 = r := ⟨_, rfl⟩
     rw [Nf, Hw, Hy, Hu]
     obtain ⟨s0, hs0⟩ : ∃ r, bits .xor .u32 (bits .xor .u32 r7 QT) (Ja / 8) = r := ⟨_, rfl⟩
     obtain ⟨s1, hs1⟩ : ∃ r, bits .xor .u32 (bits .xor .u32 QU QS) (x2 / 1024) = r := ⟨_, rfl⟩
     have TA : Hid (LA Ja = s0) := aa (by rw [LA, Nf, Hw, hs0])
     have Tz : Hid (Lx x2 = s1) := aa (by rw [Lx, Hy, Hu, hs1])
     clear Nf Hw Hy Hu
     go_wp2
     clear hs0 hs1
     obtain ⟨V, hV⟩ : ∃ V, (O0 + s0 + x7 + s1) % 4294967296 = V := ⟨_, rfl⟩
     have HV := aa hV
     have HN : Hid (jo (t + 1 - 16) (bg blk 16) = L ++ [V]) := aa (by
      rw [Fz.out, TA.out, Tz.out, ← hV]
      simp only [add32, fJ]
      congr 2
      omega)
     have HB3 : Hid (aX .u32 141 (w2.setCell ⟨w.heap.size + 1, t, none⟩ (.int .u32 V)).drew (w.heap.size + 1) (wz (jo (t + 1 - 16) (bg blk 16)))) := aa (by
      rw [HN.out]
      have h := Lm.out.set (j := t) (v := V)
      have e := z8 (l := L) (x := V) (by have := ic.out; omega)
      rw [ic.out] at e
      rw [e] at h
      exact h)
     have OQ : Hid (Below (w.heap.size + 1) W (w2.setCell ⟨w.heap.size + 1, t, none⟩ (.int .u32 V)).drew) := aa (xm.out.setCell (Nat.le_refl _) _).drew
     clear hV
     go_region
     rw [HV.out]
     clear g16 g7 gt gf
     go_wp2
     go_roundw
     case rel => exact ⟨t + 1, by omega, by omega, by go_num, HB3, OQ⟩
     case measure => simp [intOf]; omega
    ·
     have I6 : Hid (aX .u32 141 wr (w.heap.size + 1) (aO blk)) := aa (by
      have h := Dg.out
      rwa [show t - 16 = 48 by omega, z_] at h)
     have K6 : Hid (aX .u32 141 wr w.heap.size (aH 64)) := aa (lM.out.keepB (Nat.lt_succ_self _) kz.out)
     have og : Hid (Below w.heap.size w (wr.setRow w.heap.size (arr .u32 (aO blk)))) := aa (ak (iN.out.trans (kz.out.mono (Nat.le_succ _))) (Nat.le_refl _))
     have HRR : Hid (aX .u32 141 (wr.setRow w.heap.size (arr .u32 (aO blk))) w.heap.size (aO blk)) := aa (K6.out.setRow)
     clear Dg
     go_wp2_with (first
      | ((with_reducible show wpList _ _ _ (⟨some 81, _, _, _, _, _⟩ :: _) _ _); refine wpList_load_row rfl 141 _ rfl (w.heap.size + 1) rfl _ _ _ _ I6.out Tryz.underlying141 rfl (fZ blk) ?_)
      | ((with_reducible show wpList _ _ _ (⟨none, _, _, _, _, _⟩ :: _) _ _); refine wpList_store_row rfl 141 _ _ rfl w.heap.size (arr .u32 (aO blk)) rfl rfl _ _ K6.out (fZ blk) (sH blk) (dG _) ?_))
     exact bodyPost_ret (v := .agg (arr .u32 (aO blk))) (results_cell_row (p := 2) (ty := 141) rfl _ _ w.heap.size _ _ _ _ rfl HRR.out Tryz.underlying141 rfl (fZ blk)) rfl ⟨rfl, og.out⟩
def dx (w : World) : Prop := (∀ k, k < 64 → w.cell? ⟨5, k, none⟩ = some (.int .u32 (KL.getD k 0))) ∧ (∀ k, k < 8 → w.cell? ⟨4, k, none⟩ = some (.int .u32 (st0.list.getD k 0)))
theorem dx.below {w w' : World} (h : dx w) (hb : Below w.heap.size w w') : dx w' := ⟨fun k hk => cell_below (h.1 k hk) hb, fun k hk => cell_below (h.2 k hk) hb⟩
def j4 (s v : List Int) (k : Nat) : List Int := (List.range 8).map fun j => if j < k then add32 (s.getD j 0) (v.getD j 0) else s.getD j 0
theorem j3 (s v : List Int) (k : Nat) : (j4 s v k).length = 8 := by simp [j4]
theorem CL {s v : List Int} {k : Nat} (h : k < 8) : (j4 s v k).getD k 0 = s.getD k 0 := by
 simp [j4, List.getD_eq_getElem?_getD, h]
theorem CK {s v : List Int} {k : Nat} (h : k < 8) : (j4 s v k).set k (add32 (s.getD k 0) (v.getD k 0)) = j4 s v (k + 1) := by
 apply List.ext_getElem?
 intro i
 by_cases hi : i < 8
 ·
  by_cases e : k = i
  · subst e; simp [j4, List.getElem?_set, h]
  ·
   have e2 : (i < k + 1) ↔ (i < k) := by omega
   simp [j4, List.getElem?_set, hi, e, e2]
 · rw [List.getElem?_eq_none (by rw [List.length_set, j3]; omega), List.getElem?_eq_none (by rw [j3]; omega)]
theorem zG {s v : List Int} (h : s.length = 8) : j4 s v 0 = s := by
 apply List.ext_getElem?
 intro i
 by_cases hi : i < 8
 · simp [j4, hi, h]
 · rw [List.getElem?_eq_none (by rw [j3]; omega), List.getElem?_eq_none (by omega)]
theorem CO (s v : St) : j4 s.list v.list 8 = (Iz s v).list := rfl
theorem Fp (xa xb xc xd xe xf xg xh : Int) : (#[.int .u32 xa, .int .u32 xb, .int .u32 xc, .int .u32 xd, .int .u32 xe, .int .u32 xf, .int .u32 xg, .int .u32 xh] : Array Value) = arr .u32 (St.mk xa xb xc xd xe xf xg xh).list := rfl
theorem JJ : (#[.int .u32 0, .int .u32 0, .int .u32 0, .int .u32 0, .int .u32 0, .int .u32 0, .int .u32 0, .int .u32 0] : Array Value) = arr .u32 (aH 8) := rfl
theorem J_ : (Tryz.prog.info? 138).map (·.size) = some 8 := by kernel_rfl
theorem dM (s : St) : (Tryz.prog.info? 138).map (·.size) = some (arr .u32 s.list).size := J_
theorem Ka (xa xb xc xd xe xf xg xh : Int) : ∀ k : Nat, k < 8 → ∀ w, (Instr.index 138 (.agg #[.int .u32 xa, .int .u32 xb, .int .u32 xc, .int .u32 xd, .int .u32 xe, .int .u32 xf, .int .u32 xg, .int .u32 xh]) (.int .i64 (k : Int))).run Tryz.prog w = .ok (.int .u32 ((St.mk xa xb xc xd xe xf xg xh).list.getD k 0)) w
 | 0, _ => fun w => by kernel_rfl
 | 1, _ => fun w => by kernel_rfl
 | 2, _ => fun w => by kernel_rfl
 | 3, _ => fun w => by kernel_rfl
 | 4, _ => fun w => by kernel_rfl
 | 5, _ => fun w => by kernel_rfl
 | 6, _ => fun w => by kernel_rfl
 | 7, _ => fun w => by kernel_rfl
 | k + 8, h => absurd h (by omega)
theorem KC (e f g : Int) : bits .xor .u32 (bits .and .u32 e f) (bits .and .u32 (bits .xor .u32 (if IntKind.u32.signed = true then -1 else IntKind.u32.max) e) g) = L_ e f g := rfl
theorem GH (e : Int) : bits .xor .u32 (bits .xor .u32 (eB e 6) (eB e 11)) (eB e 25) = LB e := rfl
def Jc (e f g h k w : Int) : Int := ((h + LB e + L_ e f g + k) % 4294967296 + w) % 4294967296
theorem JY (e f g h k w : Int) : ((h + LB e + L_ e f g + k) % 4294967296 + w) % 4294967296 = Jc e f g h k w := rfl
def M4 (a b c : Int) : Int := (O4 a + O6 a b c) % 4294967296
theorem GI (a b c d e f g h k w : Int) : LC ⟨a, b, c, d, e, f, g, h⟩ k w = ⟨(Jc e f g h k w + M4 a b c) % 4294967296, a, b, c, (d + Jc e f g h k w) % 4294967296, e, f, g⟩ := by
 have hx : Eb ⟨a, b, c, d, e, f, g, h⟩ k w = Jc e f g h k w := by
  simp only [Eb, Jc, add32, fJ]
  omega
 simp only [LC, hx, JZ, M4, add32, fJ]
theorem Ei {P : Program} {f : FuncId} {args : Array Value} {w : World} {n : Nat} {v : Value}
  (h : Calls P f args (w.drewN n) fun e w' => e = .returned v ∧ w.drewN n = w') : Calls P f args (w.drewN n) fun e w'' => e = .returned v ∧ ∃ m, w'' = w.drewN m :=
 h.mono fun _ _ ⟨he, hm⟩ => ⟨he, n, hm.symm⟩
theorem EB (s : St) (b o cap : Nat) (blk : List Int) (hlen : Hid (blk.length = 64)) (hby : Hid (ax blk = true)) (w : World) (hs : Hid (Sk .u8 w (some ⟨b, o, none⟩) blk)) (hcap : 64 ≤ cap) (hcm : cap ≤ 9223372036854775807) (hv : Hid (dx w)) :
  Calls Tryz.prog 115 #[.agg (arr .u32 s.list), .slice (some ⟨b, o, none⟩) 64 cap] w (Rt w (.agg (arr .u32 (vD s blk).list))) := by
 obtain ⟨xa, xb, xc, xd, xe, xf, xg, xh⟩ := s
 rw [← Fp]
 obtain ⟨W, hW⟩ : ∃ W, (w.alloc (.cells #[.int .u32 xa, .int .u32 xb, .int .u32 xc, .int .u32 xd, .int .u32 xe, .int .u32 xf, .int .u32 xg, .int .u32 xh] 138)).alloc (.cells #[.int .u32 0, .int .u32 0, .int .u32 0, .int .u32 0, .int .u32 0, .int .u32 0, .int .u32 0, .int .u32 0] 138) = W := ⟨_, rfl⟩
 have iN : Hid (Below w.heap.size w W) := aa (by rw [← hW]; exact aZ (Below.refl _ _))
 have HB0 : Hid (aX .u32 138 W w.heap.size (St.mk xa xb xc xd xe xf xg xh).list) := aa (by
  rw [← hW, Fp]
  exact heap_alloc2_old _ _ _)
 have HZ0 : Hid (aX .u32 138 W (w.heap.size + 1) (aH 8)) := aa (by
  rw [← hW, JJ]
  exact heap_alloc2_new _ _ _)
 have HS := aa (hs.out.below iN.out)
 have HV := aa (hv.out.below iN.out)
 have HW := aa hW
 have Dq : Hid (w.heap.size + 2 = W.heap.size) := aa (by rw [← hW]; simp)
 clear hW hs hv
 go_in
 go_wp2_with fail
 rw [HW.out]
 refine (yP b o cap blk hlen hby _ HS hcap hcm).mono ?_
 rintro e w1 ⟨rfl, hb1⟩
 have HB1 := aa (HB0.out.below hb1)
 have HZ1 := aa (HZ0.out.below hb1)
 have Gm := aa (HV.out.below hb1)
 have R_ : Hid (w.heap.size + 2 ≤ w1.heap.size) := aa (by have := hb1.size; have := Dq.out; omega)
 have uG := aa (ag iN.out hb1)
 clear hb1 HW
 go_wp2_with ((with_reducible show wpList _ _ _ (⟨none, _, _, _, _, _⟩ :: _) _ _); refine wpList_store_row rfl 141 _ _ rfl w1.heap.size (arr .u32 (aO blk)) rfl rfl _ _ (heap_alloc_new _ _) (fZ blk) (sH blk) (dG _) ?_)
 rw [World.setRow_alloc_new]
 have uF := aa (ag uG.out (af w1 (.cells (arr .u32 (aO blk)) 141)))
 have HB2 := aa (HB1.out.below (af w1 (.cells (arr .u32 (aO blk)) 141)))
 have HZ2 := aa (HZ1.out.below (af w1 (.cells (arr .u32 (aO blk)) 141)))
 have IB := aa (Gm.out.below (af w1 (.cells (arr .u32 (aO blk)) 141)))
 have HW2 : Hid (aX .u32 141 (w1.alloc (.cells (arr .u32 (aO blk)) 141)) w1.heap.size (aO blk)) := aa (aX.new _ _)
 obtain ⟨W2, hW2⟩ : ∃ u, w1.alloc (.cells (arr .u32 (aO blk)) 141) = u := ⟨_, rfl⟩
 have R9 : Hid (w1.heap.size < W2.heap.size) := aa (by rw [← hW2]; simp)
 rw [hW2] at uF HB2 HZ2 IB HW2 ⊢
 clear hW2 HB1 HZ1 Gm uG HB0 HZ0 HV HS
 obtain ⟨g0, g1, g2, g3, g4, g5, g6, g7⟩ : W2.cell? ⟨w.heap.size, 0, none⟩ = some (.int .u32 xa) ∧ W2.cell? ⟨w.heap.size, 1, none⟩ = some (.int .u32 xb) ∧ W2.cell? ⟨w.heap.size, 2, none⟩ = some (.int .u32 xc) ∧ W2.cell? ⟨w.heap.size, 3, none⟩ = some (.int .u32 xd) ∧ W2.cell? ⟨w.heap.size, 4, none⟩ = some (.int .u32 xe) ∧ W2.cell? ⟨w.heap.size, 5, none⟩ = some (.int .u32 xf) ∧ W2.cell? ⟨w.heap.size, 6, none⟩ = some (.int .u32 xg) ∧ W2.cell? ⟨w.heap.size, 7, none⟩ = some (.int .u32 xh) :=
  ⟨HB2.out.cell (j := 0) (show 0 < 8 by decide), HB2.out.cell (j := 1) (show 1 < 8 by decide), HB2.out.cell (j := 2) (show 2 < 8 by decide), HB2.out.cell (j := 3) (show 3 < 8 by decide), HB2.out.cell (j := 4) (show 4 < 8 by decide), HB2.out.cell (j := 5) (show 5 < 8 by decide), HB2.out.cell (j := 6) (show 6 < 8 by decide), HB2.out.cell (j := 7) (show 7 < 8 by decide)⟩
 obtain ⟨ws, hws⟩ : ∃ l, aO blk = l := ⟨_, rfl⟩
 have PS : Kp (aO blk = ws) := ⟨hws⟩
 have PT : Hid (ws.length = 64) := aa (by rw [← hws, f_])
 rw [hws] at HW2
 rw [hws]
 clear hws
 go_wp2
 go_quiet (fail)
 have Qx := aa (ah (Below.refl W2.heap.size W2) nq)
 clear g0 g1 g2 g3 g4 g5 g6 g7
 go_wp2
 go_loopw [6, 7, 8, 9, 10, 11, 12, 13, 37] (fun a b c d e f g h i u => ∃ (k : Nat) (ya yb yc yd ye yf yg yh : Int), k ≤ 64 ∧ i = .int .i64 k ∧ a = .int .u32 ya ∧ b = .int .u32 yb ∧ c = .int .u32 yc ∧ d = .int .u32 yd ∧ e = .int .u32 ye ∧ f = .int .u32 yf ∧ g = .int .u32 yg ∧ h = .int .u32 yh ∧ Hid (uW ws ⟨xa, xb, xc, xd, xe, xf, xg, xh⟩ k = ⟨ya, yb, yc, yd, ye, yf, yg, yh⟩) ∧ Hid (Below W2.heap.size W2 u)) (fun _ _ _ _ _ _ _ _ i _ => 64 - (intOf i).toNat)
 case atStart => exact ⟨0, xa, xb, xc, xd, xe, xf, xg, xh, by omega, rfl, rfl, rfl, rfl, rfl, rfl, rfl, rfl, rfl, aa rfl, Qx⟩
 case round =>
  obtain ⟨k, ya, yb, yc, yd, ye, yf, yg, yh, hk, rfl, rfl, rfl, rfl, rfl, rfl, rfl, rfl, rfl, HR, kz⟩ := hrel
  by_cases hlt : k < 64
  ·
   have hk0 := (IB.out.below kz.out).1 k hlt
   have hk1 := (HW2.out.below kz.out).cell (j := k) (by have := PT.out; omega)
   have hnx : uW ws ⟨xa, xb, xc, xd, xe, xf, xg, xh⟩ (k + 1) = LC ⟨ya, yb, yc, yd, ye, yf, yg, yh⟩ (KL.getD k 0) (ws.getD k 0) := by rw [uW, HR.out]
   obtain ⟨kc, PN⟩ : ∃ x, KL.getD k 0 = x := ⟨_, rfl⟩
   obtain ⟨wc, PM⟩ : ∃ x, ws.getD k 0 = x := ⟨_, rfl⟩
   rw [PN] at hk0 hnx
   rw [PM] at hk1 hnx
   have Fz := aa hnx
   clear hnx PN PM
   go_wp2_with fail
   go_quiet ((go_at_call 118; exact Ei (yR _ _ (by decide) (by decide) _)))
   rw [KC, GH, JY]
   obtain ⟨X, hX⟩ : ∃ X, Jc ye yf yg yh kc wc = X := ⟨_, rfl⟩
   rw [hX]
   have HX := aa hX
   have xm := aa (ah kz.out nq)
   obtain ⟨w3, hw3⟩ : ∃ u, wr.drewN nq = u := ⟨_, rfl⟩
   rw [hw3] at xm ⊢
   clear hX hw3 hk0 hk1 kz
   go_wp2_with fail
   refine (dV ya 2 2 rfl (by decide) (by decide) _).mono ?_
   rintro e w' ⟨rfl, rfl⟩
   go_wp2_with fail
   refine (dV ya 13 13 rfl (by decide) (by decide) _).mono ?_
   rintro e w' ⟨rfl, rfl⟩
   go_wp2_with fail
   refine (dV ya 22 22 rfl (by decide) (by decide) _).mono ?_
   rintro e w' ⟨rfl, rfl⟩
   obtain ⟨r2, hr2⟩ : ∃ r, eB ya 2 = r := ⟨_, rfl⟩
   obtain ⟨QV, Hz⟩ : ∃ r, eB ya 13 = r := ⟨_, rfl⟩
   obtain ⟨QO, Ht⟩ : ∃ r, eB ya 22 = r := ⟨_, rfl⟩
   rw [hr2, Hz, Ht]
   obtain ⟨Y, hY⟩ : ∃ Y, M4 ya yb yc = Y := ⟨_, rfl⟩
   have HY : Kp ((bits .xor .u32 (bits .xor .u32 r2 QV) QO + bits .xor .u32 (bits .xor .u32 (bits .and .u32 ya yb) (bits .and .u32 ya yc)) (bits .and .u32 yb yc)) % 4294967296 = Y) := ⟨by rw [← hY, ← hr2, ← Hz, ← Ht]; rfl⟩
   have RG := aa hY
   have HR2 : Hid (uW ws ⟨xa, xb, xc, xd, xe, xf, xg, xh⟩ (k + 1) = ⟨(X + Y) % 4294967296, ya, yb, yc, (yd + X) % 4294967296, ye, yf, yg⟩) := aa (by
    rw [Fz.out, GI, HX.out, RG.out])
   clear hr2 Hz Ht hY Fz
   go_wp2_with fail
   go_roundw
   case rel => exact ⟨k + 1, _, _, _, _, _, _, _, _, by omega, by go_num, rfl, rfl, rfl, rfl, rfl, rfl, rfl, rfl, by rw [HY.out]; exact HR2, xm⟩
   case measure => simp [intOf]; omega
  ·
   have P7 : Kp (uW (aO blk) ⟨xa, xb, xc, xd, xe, xf, xg, xh⟩ 64 = ⟨ya, yb, yc, yd, ye, yf, yg, yh⟩) := ⟨by
    have h := HR.out
    rwa [show k = 64 by omega, ← PS.out] at h⟩
   have HB3 : Hid (aX .u32 138 wr w.heap.size (j4 (St.mk xa xb xc xd xe xf xg xh).list (St.mk ya yb yc yd ye yf yg yh).list 0)) := aa (by
    rw [zG rfl]
    exact HB2.out.below kz.out)
   have HZ3 := aa (HZ2.out.below kz.out)
   have OU := aa (ag uF.out kz.out)
   clear HR kz HB2 HZ2 uF HW2 IB PT PS Qx
   go_wp2
   go_loopw [109] (fun i u => ∃ m : Nat, m ≤ 8 ∧ i = .int .i64 m ∧ Hid (aX .u32 138 u w.heap.size (j4 (St.mk xa xb xc xd xe xf xg xh).list (St.mk ya yb yc yd ye yf yg yh).list m)) ∧ Hid (aX .u32 138 u (w.heap.size + 1) (aH 8)) ∧ Hid (Below w.heap.size w u)) (fun i _ => 8 - (intOf i).toNat)
   case atStart => exact ⟨0, by omega, rfl, HB3, HZ3, OU⟩
   case round =>
    obtain ⟨m, hm, rfl, qc, Mk, kz⟩ := hrel
    by_cases hlm : m < 8
    ·
     have hi := Ka ya yb yc yd ye yf yg yh m hlm
     have hc := qc.out.cell (j := m) (by rw [j3]; exact hlm)
     have hf := qc.out.free m
     rw [CL hlm] at hc
     obtain ⟨s0, e0⟩ : ∃ x, (St.mk xa xb xc xd xe xf xg xh).list.getD m 0 = x := ⟨_, rfl⟩
     obtain ⟨v0, e1⟩ : ∃ x, (St.mk ya yb yc yd ye yf yg yh).list.getD m 0 = x := ⟨_, rfl⟩
     have hst := CK (s := (St.mk xa xb xc xd xe xf xg xh).list) (v := (St.mk ya yb yc yd ye yf yg yh).list) hlm
     rw [e0, e1, add32, fJ] at hst
     rw [e0] at hc
     rw [e1] at hi
     have yH : Hid (aX .u32 138 (wr.setCell ⟨w.heap.size, m, none⟩ (.int .u32 ((s0 + v0) % 4294967296))) w.heap.size (j4 (St.mk xa xb xc xd xe xf xg xh).list (St.mk ya yb yc yd ye yf yg yh).list (m + 1))) := aa (by
      rw [← hst]
      exact qc.out.set)
     have KN : Hid (aX .u32 138 (wr.setCell ⟨w.heap.size, m, none⟩ (.int .u32 ((s0 + v0) % 4294967296))) (w.heap.size + 1) (aH 8)) := aa (Mk.out.set_ne (by omega))
     have Gx : Hid (Below w.heap.size w (wr.setCell ⟨w.heap.size, m, none⟩ (.int .u32 ((s0 + v0) % 4294967296)))) := aa (kz.out.setCell (Nat.le_refl _) _)
     clear hst e0 e1 qc Mk kz
     go_wp2
     go_roundw
     case rel => exact ⟨m + 1, by omega, by go_num, yH, KN, Gx⟩
     case measure => simp [intOf]; omega
    ·
     obtain ⟨T, hT⟩ : ∃ T, Iz ⟨xa, xb, xc, xd, xe, xf, xg, xh⟩ ⟨ya, yb, yc, yd, ye, yf, yg, yh⟩ = T := ⟨_, rfl⟩
     have I6 : Hid (aX .u32 138 wr w.heap.size T.list) := aa (by
      have h := qc.out
      rwa [show m = 8 by omega, CO, hT] at h)
     have HT : Kp (vD ⟨xa, xb, xc, xd, xe, xf, xg, xh⟩ blk = T) := ⟨by rw [vD, P7.out, hT]⟩
     have HRR : Hid (aX .u32 138 (wr.setRow (w.heap.size + 1) (arr .u32 T.list)) (w.heap.size + 1) T.list) := aa Mk.out.setRow
     have og : Hid (Below w.heap.size w (wr.setRow (w.heap.size + 1) (arr .u32 T.list))) := aa (ak kz.out (Nat.le_succ _))
     clear hT P7 qc
     go_wp2_with (first
      | ((with_reducible show wpList _ _ _ (⟨some 120, _, _, _, _, _⟩ :: _) _ _); refine wpList_load_row rfl 138 _ rfl w.heap.size rfl _ _ _ _ I6.out Tryz.underlying138 rfl (dM T) ?_)
      | ((with_reducible show wpList _ _ _ (⟨none, _, _, _, _, _⟩ :: _) _ _); refine wpList_store_row rfl 138 _ _ rfl (w.heap.size + 1) (arr .u32 T.list) rfl rfl _ _ Mk.out (dM T) rfl (dG _) ?_))
     rw [HT.out]
     exact bodyPost_ret (v := .agg (arr .u32 T.list)) (results_cell_row (p := 4) (ty := 138) rfl _ _ (w.heap.size + 1) _ _ _ _ rfl HRR.out Tryz.underlying138 rfl (dM T)) rfl ⟨rfl, og.out⟩
end Go.Proofs.YticegghameafgaaGreatDoor
namespace Go.Proofs.YticegghameafgaaGreatDoor
open Go.ChangeShapes Go.WideShapes Go.ChangeAt Go.RowKit jk
theorem Cc : Tryz.prog.globalNamed "specie/digest.constants" = some 5 := by kernel_rfl
theorem vQ : (Tryz.prog.globals[5]?).map (·.type) = some 141 := by kernel_rfl
theorem Cb : Tryz.prog.globalNamed "specie/digest.start" = some 4 := by kernel_rfl
theorem vP : (Tryz.prog.globals[4]?).map (·.type) = some 138 := by kernel_rfl
theorem wK : Tryz.prog.cellsOf 141 = 64 := by kernel_rfl
theorem wI : Tryz.prog.cellsOf 138 = 8 := by kernel_rfl
theorem uq : Tryz.prog.cellsOf 124 = 1 := by kernel_rfl
theorem oG {W : World} (h : laidMetH Tryz.prog [("math/bits.deBruijn64tab", Rows.laid_math_bits_deBruijn64tab), ("specie/prime.bases", Rows.laid_specie_prime_bases), ("specie/digest.constants", Rows.laid_specie_digest_constants), ("specie/digest.start", Rows.laid_specie_digest_start)] W) : Vars W ∧ dx W := by
 have h1 : laidMet Tryz.prog [("math/bits.deBruijn64tab", Rows.laid_math_bits_deBruijn64tab), ("specie/prime.bases", Rows.laid_specie_prime_bases), ("specie/digest.constants", Rows.laid_specie_digest_constants), ("specie/digest.start", Rows.laid_specie_digest_start)] W := h
 have t1 : Lib.TabIs Tryz.prog W "math/bits.deBruijn64tab" .u8 (Lib.deBruijn64tab.map Int.ofNat) := Lib.tabIs_of_head (rest := [("specie/prime.bases", Rows.laid_specie_prime_bases), ("specie/digest.constants", Rows.laid_specie_digest_constants), ("specie/digest.start", Rows.laid_specie_digest_start)]) Kt Ca Tryz.underlying129 Tryz.underlying5 yo Cx h1
 have t2 : Lib.TabIs Tryz.prog W "specie/prime.bases" .u64 [2, 3, 5, 7, 11, 13, 17, 19, 23, 29, 31, 37] := Lib.tabIs_of_head (rest := [("specie/digest.constants", Rows.laid_specie_digest_constants), ("specie/digest.start", Rows.laid_specie_digest_start)]) Ce vR Tryz.underlying110 Tryz.underlying109 Cw wL h1.tail
 have t3 : Lib.TabIs Tryz.prog W "specie/digest.constants" .u32 KL := Lib.tabIs_of_head (rest := [("specie/digest.start", Rows.laid_specie_digest_start)]) Cc vQ Tryz.underlying141 Tryz.underlying124 uq wK h1.tail.tail
 have t4 : Lib.TabIs Tryz.prog W "specie/digest.start" .u32 st0.list := Lib.tabIs_of_head (rest := []) Cb vP Tryz.underlying138 Tryz.underlying124 uq wI h1.tail.tail.tail
 refine ⟨⟨fun k hk => ?_, fun j hj => ?_⟩, fun k hk => ?_, fun k hk => ?_⟩
 · rw [t2.cell Ce k hk]; rfl
 ·
  rw [t1.cell Kt j (by simpa using hj)]
  rw [List.getD_eq_getElem?_getD, List.getD_eq_getElem?_getD, List.getElem?_map]
  rw [List.getElem?_eq_getElem hj]
  rfl
 · rw [t3.cell Cc k hk]
 · rw [t4.cell Cb k hk]
def BC : Obj → Obj
 | .cells _ t frozen => .cells (KL.map fun n => Value.int .u32 n).toArray t frozen
 | o => o
def BB : Obj → Obj
 | .cells _ t frozen => .cells (st0.list.map fun n => Value.int .u32 n).toArray t frozen
 | o => o
noncomputable def ja (os : Os) : World :=
 { World.holding Tryz.prog os ⟨#[], #[], []⟩ with heap := ((((World.holding Tryz.prog os ⟨#[], #[], []⟩).heap.modify 0 BD).modify 1 G6).modify 5 BC).modify 4 BB }
end Go.Proofs.YticegghameafgaaGreatDoor
namespace Go.Proofs.YticegghameafgaaGreatDoor
open Go.RowKit jk
def aQ (Q x : Int) : Bool := decide (0 ≤ x) && decide (x < Q)
theorem uB {f : Int → Bool} {xs : List Int} : (xs.any fun x => !f x) = !(xs.all f) := by
 induction xs with
 | nil => rfl
 | cons x xs ih => rw [List.any_cons, List.all_cons, ih, Bool.not_and]
structure Row where
 p : Option Addr
 n : Nat
 c : Nat
 xs : List Int
abbrev Row.val (r : Row) : Value := .slice r.p r.n r.c
abbrev nu : Row := ⟨none, 0, 0, []⟩
def uC (w : World) (r : Row) : Prop := r.xs.length = r.n ∧ Sl w r.p r.xs
theorem uC.below {w w' : World} {r : Row} (h : uC w r) (hb : Below w.heap.size w w') : uC w' r := ⟨h.1, h.2.below hb⟩
def Rw (w : World) (A : Option Addr) (rs : List Row) : Prop := ∀ k, k < rs.length → (∃ b o, A = some ⟨b, o, none⟩ ∧ w.cell? ⟨b, o + k, none⟩ = some (rs.getD k nu).val) ∧ uC w (rs.getD k nu)
theorem Rw.below {w w' : World} {A : Option Addr} {rs : List Row} (h : Rw w A rs) (hb : Below w.heap.size w w') : Rw w' A rs := fun k hk => by
 obtain ⟨⟨b, o, h1, h2⟩, h3⟩ := h k hk
 exact ⟨⟨b, o, h1, (hb.cell (World.block_lt_of_cell? _ _ h2)).trans h2⟩, h3.below hb⟩
def CP (g : FuncId) (caps : Array Value) (p : Row → Bool) (W : World) : Prop :=
 ∀ (r : Row) (w1 : World), Below W.heap.size W w1 → uC w1 r → Calls Tryz.prog g (#[r.val] ++ caps) w1 fun e w' => e = .returned (.bool (p r)) ∧ Below w1.heap.size w1 w'
theorem zD {f : Row → Bool} {xs : List Row} {k : Nat} (hk : k < xs.length) (h : f (xs.getD k nu) = false) : (xs.drop k).any f = (xs.drop (k + 1)).any f := by
 rw [List.drop_eq_getElem_cons hk, List.any_cons]
 rw [List.getD_eq_getElem?_getD, List.getElem?_eq_getElem hk] at h
 simp at h
 rw [h, Bool.false_or]
theorem CG {f : Row → Bool} {xs : List Row} {k : Nat} (hk : k < xs.length) (h : f (xs.getD k nu) = true) : (xs.drop k).any f = true := by
 rw [List.drop_eq_getElem_cons hk, List.any_cons]
 rw [List.getD_eq_getElem?_getD, List.getElem?_eq_getElem hk] at h
 simp at h
 rw [h, Bool.true_or]
def Fu (p : Row → Bool) (xs : List Row) (w : World) (e : Ending) (w' : World) : Prop := ∃ i : Int, e = .returned (.int .i64 i) ∧ decide (0 ≤ i) = xs.any p ∧ Below w.heap.size w w'
end Go.Proofs.YticegghameafgaaGreatDoor
namespace Go.Proofs.YticegghameafgaaGreatDoor
open Go
section
variable {P : Program} {ops : Array Oper} {Q : Exit → Act → World → Prop} {md : Region.Mode} {S : World → Prop} {E : List Nat}
def fQ (P : Program) (md : Region.Mode) (ops : Array Oper) (Q : Exit → Act → World → Prop) (S : World → Prop) (E : List Nat) : Nat → Array Bool → Act → World → Prop
 | 0, listed, a, w => Region.ready md ops listed = [] ∧ Q .normal a w
 | fuel + 1, listed, a, w =>
  (Region.ready md ops listed = [] → Q .normal a w) ∧
  ∀ i ∈ Region.ready md ops listed, wpOp P ops Q i (fun a' w' => (i ∉ E → S w') ∧ fQ P md ops Q S E fuel (listed.setIfInBounds i true) a' w') a w
theorem iQ : ∀ (fuel : Nat) (listed : Array Bool) (a : Act) (w : World), fQ P md ops Q S E fuel listed a w → wpAny P md ops Q fuel listed a w
 | 0, _, _, _, h => h
 | fuel + 1, _, _, _, h => ⟨h.1, fun i hi => wpOp_mono (fun a' w' h' => iQ fuel _ a' w' h'.2) (h.2 i hi)⟩
def nP (md : Region.Mode) (ops : Array Oper) (i : Nat) : List Nat :=
 (List.range ops.size).foldl (fun C x => if ((ops[x]?).map (·.after.any fun e => Region.binds md e && (e.on == i || C.contains e.on))).getD false then x :: C else C) []
def jN (md : Region.Mode) (ops : Array Oper) (listed : Array Bool) (i : Nat) (E : List Nat) : Bool :=
 (E.all fun s => (nP md ops i).contains s) && (nP md ops i).all fun x => !listed.getD x true && ((ops[x]?).map (·.after.any fun e => Region.binds md e && (e.on == i || (nP md ops i).contains e.on))).getD false
def Late (md : Region.Mode) (ops : Array Oper) (C : List Nat) (listed : Array Bool) (i : Nat) : Prop :=
 ∀ x ∈ C, listed.getD x true = false ∧ ∃ o, ops[x]? = some o ∧ ∃ e ∈ o.after, Region.binds md e = true ∧ (e.on = i ∨ e.on ∈ C)
theorem nG {listed : Array Bool} {i : Nat} (h : jN md ops listed i E = true) : (∀ s ∈ E, s ∈ nP md ops i) ∧ Late md ops (nP md ops i) listed i := by
 unfold jN at h
 rw [Bool.and_eq_true] at h
 refine ⟨fun s hs => by simpa using List.all_eq_true.1 h.1 s hs, fun x hx => ?_⟩
 have h2 := List.all_eq_true.1 h.2 x hx
 rw [Bool.and_eq_true] at h2
 refine ⟨by simpa using h2.1, ?_⟩
 have h3 := h2.2
 cases ho : ops[x]? with
 | none => rw [ho] at h3; simp at h3
 | some o =>
  rw [ho] at h3
  simp only [Option.map_some, Option.getD_some] at h3
  obtain ⟨e, he, hb⟩ := Array.any_eq_true'.1 h3
  simp only [Bool.and_eq_true, Bool.or_eq_true, beq_iff_eq] at hb
  exact ⟨o, rfl, e, he, hb.1, hb.2.imp id (by simp)⟩
theorem Late.not_ready {C : List Nat} {listed : Array Bool} {i j : Nat} (h : Late md ops C listed i) (hi : listed.getD i true = false) (hj : j ∈ Region.ready md ops listed) : j ∉ C := fun hc => by
 obtain ⟨_, o, ho, e, he, hb, h4⟩ := h j hc
 obtain ⟨_, o', ho', hall⟩ := mem_ready.1 hj
 rw [ho] at ho'
 cases ho'
 have h5 := hall e he hb
 have h6 : listed.getD e.on true = false := by
  rcases h4 with h4 | h4
  · rw [h4]; exact hi
  · exact (h _ h4).1
 rcases Nat.lt_or_ge e.on listed.size with h' | h'
 · simp [h'] at h5 h6; rw [h6] at h5; cases h5
 · simp [Array.getElem?_eq_none h'] at h5
theorem Late.step {C : List Nat} {listed : Array Bool} {i j : Nat} (h : Late md ops C listed i) (hj : j ∉ C) : Late md ops C (listed.setIfInBounds j true) i := fun x hx => by
 obtain ⟨h1, h2⟩ := h x hx
 have hne : j ≠ x := fun e => hj (by rw [e]; exact hx)
 exact ⟨by rw [getD_set_ne true hne]; exact h1, h2⟩
theorem yI {i : Nat} {oi : Oper} {v : Value} {C : List Nat} (hs : ∀ s ∈ E, s ∈ C) (hi : ops[i]? = some oi) (hsel : ∀ (j : Nat) (o : Oper) cs b, ops[j]? = some o → o.op ≠ .select cs b)
  (hQ : ∀ c a w, Q (.panic c) (a.put oi.dst v) w → Q (.panic c) a w) :
  ∀ (fuel : Nat) (listed : Array Bool) (a : Act) (w : World),
   (∀ j oj, ops[j]? = some oj → j ≠ i → listed.getD j true = false → (∀ e ∈ oj.after, Region.binds md e = true → e.on ≠ i) → oi.apart ops oj = true) →
   Late md ops C listed i → i ∈ Region.ready md ops listed → YieldsIf P ops S oi v a → S w →
   fQ P md ops Q S E fuel (listed.setIfInBounds i true) (a.put oi.dst v) w → fQ P md ops Q S E (fuel + 1) listed a w := by
 intro fuel
 induction fuel with
 | zero =>
  intro listed a w _ _ hr hy hS H
  refine ⟨fun h => (by rw [h] at hr; cases hr), fun j hj => ?_⟩
  by_cases hji : j = i
  · subst hji; exact hy.wpOp hi hS ⟨fun _ => hS, H⟩
  ·
   have := ready_mono hj hji
   rw [H.1] at this
   cases this
 | succ fuel ih =>
  intro listed a w hfree F9 hr hy hS H
  refine ⟨fun h => (by rw [h] at hr; cases hr), fun j hj => ?_⟩
  by_cases hji : j = i
  · subst hji; exact hy.wpOp hi hS ⟨fun _ => hS, H⟩
  ·
   have h1 := H.2 j (ready_mono hj hji)
   have Nv := (mem_ready.1 hr).1
   have Pg := F9.not_ready Nv hj
   have hjs : j ∉ E := fun e => Pg (hs j e)
   obtain ⟨hjun, oj, hoj, hall⟩ := mem_ready.1 hj
   have hnot : ∀ e ∈ oj.after, Region.binds md e = true → e.on ≠ i := fun e he hb heq => by
    have h1 := hall e he hb
    have h0 := (mem_ready.1 hr).1
    rw [heq] at h1
    rcases Nat.lt_or_ge i listed.size with h' | h'
    · simp [h'] at h0 h1; rw [h0] at h1; cases h1
    · simp [Array.getElem?_eq_none h'] at h1
   have h2 := wpOp_putIf hoj (hfree j oj hoj hji hjun hnot) (fun cs b => hsel i oi cs b hi) (fun cs b => hsel j oj cs b hoj) hQ hy h1
   have hfree' : ∀ k ok, ops[k]? = some ok → k ≠ i → (listed.setIfInBounds j true).getD k true = false →
     (∀ e ∈ ok.after, Region.binds md e = true → e.on ≠ i) → oi.apart ops ok = true := fun k ok hk hki hun hno => by
    refine hfree k ok hk hki ?_ hno
    by_cases hjk : j = k
    · subst hjk; exact hjun
    · rw [getD_set_ne true hjk] at hun; exact hun
   refine wpOp_mono (fun a' w' h3 => ⟨fun _ => h3.2.1 hjs, ih (listed.setIfInBounds j true) a' w' hfree' (F9.step Pg) (ready_mono hr (Ne.symm hji)) h3.1 (h3.2.1 hjs) ?_⟩) h2
   rw [Array.setIfInBounds_comm _ _ hji]
   exact h3.2.2
theorem eX {i : Nat} {oi : Oper} {v : Value} {fuel : Nat} {listed : Array Bool} {a : Act} {w : World} (hi : ops[i]? = some oi)
  (hs : Region.noSelect ops = true) (hf : Region.free md ops listed i = true) (hr : (Region.ready md ops listed).contains i = true) (hl : jN md ops listed i E = true)
  (hQ : ∀ c a w, Q (.panic c) (a.put oi.dst v) w → Q (.panic c) a w) (hy : YieldsIf P ops S oi v a) (hS : S w)
  (h : fQ P md ops Q S E fuel (listed.setIfInBounds i true) (a.put oi.dst v) w) : fQ P md ops Q S E (fuel + 1) listed a w :=
 yI (nG hl).1 hi (Region.noSelect_spec hs) hQ fuel listed a w (Region.free_spec hi hf) (nG hl).2 (by simpa using hr) hy hS h
theorem DD {i : Nat} {o : Oper} {fuel : Nat} {listed : Array Bool} {a : Act} {w : World} (hr : Region.ready md ops listed = [i]) (ho : ops[i]? = some o)
  (h : ∀ K' : Act → World → Prop, Shut (∀ a w, S w → (S w → fQ P md ops Q S E fuel (listed.setIfInBounds i true) a w) → K' a w) → if Region.wanted o (yielded ops a.tmps) = true then Oper.wp P o a w K' Q else K' (a.put o.dst undef) w) :
  fQ P md ops Q S E (fuel + 1) listed a w :=
 ⟨fun h0 => absurd (hr ▸ h0) (by simp), fun j hj => by
  rw [hr] at hj
  obtain rfl : j = i := by simpa using hj
  exact wpOp_step ho (fun K' hK => h K' (fun a w hS hW => hK a w ⟨fun _ => hS, hW hS⟩))⟩
theorem TQ {α : Type _} {xs : List α} {i : Nat} (h : i < xs.toArray.size) : xs.toArray[i] = xs[i]'(by simpa using h) := rfl
theorem TP {α : Type _} (a : α) (l : List α) (h : 0 < (a :: l).length) : getElem (a :: l) 0 h = a := rfl
theorem TN {α : Type _} (a : α) (l : List α) (i : Nat) (h : i + 1 < (a :: l).length) : getElem (a :: l) (i+1) h = getElem l i (Nat.lt_of_succ_lt_succ h) := rfl
theorem TM {α : Type _} (l : List α) (i : Nat) (a : α) : l.toArray.setIfInBounds i a = (l.set i a).toArray := List.setIfInBounds_toArray l i a
theorem TL {α : Type _} {x : α} {xs : List α} {a : α} : (x :: xs).set 0 a = a :: xs := rfl
theorem TK {α : Type _} {x : α} {xs : List α} {i : Nat} {a : α} : (x :: xs).set (i + 1) a = x :: xs.set i a := rfl
theorem TH (i : Nat) {oi : Oper} {v : Value} {fuel : Nat} {listed : Array Bool} {a : Act} {w : World} (h : fQ P md ops Q S E fuel (listed.setIfInBounds i true) (a.put oi.dst v) w) (hi : ops[i]? = some oi := by rfl)
  (hs : Region.noSelect ops = true := by kernel_rfl) (hf : Region.free md ops listed i = true := by kernel_rfl) (hr : (Region.ready md ops listed).contains i = true := by kernel_rfl) (hl : jN md ops listed i E = true := by kernel_rfl)
  (hQ : ∀ c a w, Q (.panic c) (a.put oi.dst v) w → Q (.panic c) a w := by exact fun _ _ _ h => h) (hw : Region.wanted oi (yielded ops a.tmps) = true := by rfl)
  (hy : ∀ w, S w → (execOp a.eval oi).run P w = .ok (.value v) w := by intro wS hSw; (try dsimp only at hSw); go_simp <;> with_reducible rfl) (hS : S w := by assumption) : fQ P md ops Q S E (fuel + 1) listed a w :=
 eX hi hs hf hr hl hQ (Or.inl ⟨hw, hy⟩) hS h
theorem TI (i : Nat) {oi : Oper} {fuel : Nat} {listed : Array Bool} {a : Act} {w : World} (h : fQ P md ops Q S E fuel (listed.setIfInBounds i true) (a.put oi.dst undef) w) (hi : ops[i]? = some oi := by rfl)
  (hs : Region.noSelect ops = true := by kernel_rfl) (hf : Region.free md ops listed i = true := by kernel_rfl) (hr : (Region.ready md ops listed).contains i = true := by kernel_rfl) (hl : jN md ops listed i E = true := by kernel_rfl)
  (hQ : ∀ c a w, Q (.panic c) (a.put oi.dst undef) w → Q (.panic c) a w := by exact fun _ _ _ h => h) (hw : Region.wanted oi (yielded ops a.tmps) = false := by rfl) (hS : S w := by assumption) : fQ P md ops Q S E (fuel + 1) listed a w :=
 eX hi hs hf hr hl hQ (Or.inr ⟨hw, rfl⟩) hS h
theorem lT {i1 i2 : Nat} {o1 o2 : Oper} {fuel : Nat} {listed : Array Bool} {a : Act} {w : World} (hr : Region.ready md ops listed = [i1, i2]) (ho1 : ops[i1]? = some o1) (ho2 : ops[i2]? = some o2)
  (h1 : ∀ K' : Act → World → Prop, Shut (∀ a w, S w → (S w → fQ P md ops Q S E fuel (listed.setIfInBounds i1 true) a w) → K' a w) → if Region.wanted o1 (yielded ops a.tmps) = true then Oper.wp P o1 a w K' Q else K' (a.put o1.dst undef) w)
  (h2 : ∀ K' : Act → World → Prop, Shut (∀ a w, S w → (S w → fQ P md ops Q S E fuel (listed.setIfInBounds i2 true) a w) → K' a w) → if Region.wanted o2 (yielded ops a.tmps) = true then Oper.wp P o2 a w K' Q else K' (a.put o2.dst undef) w) :
  fQ P md ops Q S E (fuel + 1) listed a w :=
 ⟨fun h0 => absurd (hr ▸ h0) (by simp), fun j hj => by
  rw [hr] at hj
  rcases (by simpa using hj : j = i1 ∨ j = i2) with rfl | rfl
  · exact wpOp_step ho1 (fun K' hK => h1 K' (fun a w hS hW => hK a w ⟨fun _ => hS, hW hS⟩))
  · exact wpOp_step ho2 (fun K' hK => h2 K' (fun a w hS hW => hK a w ⟨fun _ => hS, hW hS⟩))⟩
theorem Ab {i : Nat} {o : Oper} {fuel : Nat} {listed : Array Bool} {a : Act} {w : World} (hr : Region.ready md ops listed = [i]) (hE : i ∈ E) (ho : ops[i]? = some o)
  (h : ∀ K' : Act → World → Prop, Shut (∀ a w, fQ P md ops Q S E fuel (listed.setIfInBounds i true) a w → K' a w) → if Region.wanted o (yielded ops a.tmps) = true then Oper.wp P o a w K' Q else K' (a.put o.dst undef) w) :
  fQ P md ops Q S E (fuel + 1) listed a w :=
 ⟨fun h0 => absurd (hr ▸ h0) (by simp), fun j hj => by
  rw [hr] at hj
  obtain rfl : j = i := by simpa using hj
  exact wpOp_step ho (fun K' hK => h K' (fun a w hW => hK a w ⟨fun h => absurd hE h, hW⟩))⟩
theorem Ac {listed : Array Bool} {a : Act} {w : World} (hr : Region.ready md ops listed = []) (h : Q .normal a w) : ∀ fuel, fQ P md ops Q S E fuel listed a w
 | 0 => ⟨hr, h⟩
 | _ + 1 => ⟨fun _ => h, by rw [hr]; simp⟩
theorem dR {id : Nat} {a : Act} {w : World} (hm : P.follows .mixedOrders = true) (hS : S w.drew)
  (h : S w.drew → fQ P .any ops Q S E ops.size (Array.replicate ops.size false) a w.drew) : (Code.region id ops true).wp P Q a w :=
 wp_region_any hm (iQ _ _ _ _ (h hS))
end
section
variable {P : Program} {ops : Array Oper} {Q : Exit → Act → World → Prop} {md : Region.Mode} {S : World → Prop} {E : List Nat}
theorem oV {fuel : Nat} {listed : Array Bool} {a : Act} {w : World} (h : ∀ (T : Nat → Array Bool → Act → World → Prop) (a0 : Act), T = fQ P md ops Q S E → a0 = a → T fuel listed a0 w) : fQ P md ops Q S E fuel listed a w := h _ _ rfl rfl
end
end Go.Proofs.YticegghameafgaaGreatDoor
namespace Go.Proofs.YticegghameafgaaGreatDoor
open Go.RowKit jk
theorem Gh {b c u : World} (h : Hid (Below b.heap.size b c)) (h2 : Hid (Below c.heap.size c u)) : Hid (Below b.heap.size b u) := aa (ag h.out h2.out)
theorem Fa {b c u : World} (h : Hid (Below b.heap.size b c)) (h2 : Below c.heap.size c u) : Hid (Below b.heap.size b u) := aa (ag h.out h2)
theorem bb2 {a b u u2 : World} (h : Hid (Below a.heap.size a u ∧ Below b.heap.size b u)) (q : Below u.heap.size u u2) : Hid (Below a.heap.size a u2 ∧ Below b.heap.size b u2) := aa ⟨ag h.out.1 q, ag h.out.2 q⟩
theorem bb3 {a b c u u2 : World} (h : Hid (Below a.heap.size a u ∧ Below b.heap.size b u ∧ Below c.heap.size c u)) (q : Below u.heap.size u u2) : Hid (Below a.heap.size a u2 ∧ Below b.heap.size b u2 ∧ Below c.heap.size c u2) := aa ⟨ag h.out.1 q, ag h.out.2.1 q, ag h.out.2.2 q⟩
theorem UE {a b c d u u2 : World} (h : Hid (Below a.heap.size a u ∧ Below b.heap.size b u ∧ Below c.heap.size c u ∧ Below d.heap.size d u)) (q : Below u.heap.size u u2) : Hid (Below a.heap.size a u2 ∧ Below b.heap.size b u2 ∧ Below c.heap.size c u2 ∧ Below d.heap.size d u2) := aa ⟨ag h.out.1 q, ag h.out.2.1 q, ag h.out.2.2.1 q, ag h.out.2.2.2 q⟩
theorem L9 {P : Program} {f : Nat} {args : Array Value} {b w : World} {E0 : Ending} {Q : Ending → World → Prop} (hB : Hid (Below b.heap.size b w)) (h : Calls P f args w fun e w' => e = E0 ∧ Below w.heap.size w w') (k : ∀ w', Hid (Below b.heap.size b w') → Q E0 w') : Calls P f args w Q :=
 h.mono (fun e w' he => by obtain ⟨rfl, hb⟩ := he; exact k w' (Fa hB hb))
theorem oz {P : Program} {f : Nat} {args : Array Value} {b w : World} {E0 : Ending} {Q : Ending → World → Prop} {C : World → Prop} (kC : Hid (∀ u, Hid (Below b.heap.size b u) → C u)) (hB : Hid (Below b.heap.size b w)) (h : Calls P f args w fun e w' => e = E0 ∧ Below w.heap.size w w') (k : ∀ w', Hid (Below b.heap.size b w') → C w' → Q E0 w') : Calls P f args w Q :=
 L9 hB h (fun w' h' => k w' h' (kC.out _ h'))
theorem KA {P : Program} {f : Nat} {args : Array Value} {b c w : World} {E0 : Ending} {Q : Ending → World → Prop} (hB : Hid (Below b.heap.size b w)) (hC : Hid (Below c.heap.size c w)) (h : Calls P f args w fun e w' => e = E0 ∧ Below w.heap.size w w') (k : ∀ w', Hid (Below b.heap.size b w') → Hid (Below c.heap.size c w') → Q E0 w') : Calls P f args w Q :=
 h.mono (fun e w' he => by obtain ⟨rfl, hb⟩ := he; exact k w' (Fa hB hb) (Fa hC hb))
theorem wC {P : Program} {f : Nat} {args : Array Value} {b c d w : World} {E0 : Ending} {Q : Ending → World → Prop} (hB : Hid (Below b.heap.size b w)) (hC : Hid (Below c.heap.size c w)) (hD : Hid (Below d.heap.size d w)) (h : Calls P f args w fun e w' => e = E0 ∧ Below w.heap.size w w') (k : ∀ w', Hid (Below b.heap.size b w') → Hid (Below c.heap.size c w') → Hid (Below d.heap.size d w') → Q E0 w') : Calls P f args w Q :=
 h.mono (fun e w' he => by obtain ⟨rfl, hb⟩ := he; exact k w' (Fa hB hb) (Fa hC hb) (Fa hD hb))
theorem kr (b : World) : Hid (Below b.heap.size b b) := aa (Below.refl _ _)
theorem LD {w w0 : World} (φ : World → Prop) (hb : Hid (Below w.heap.size w w0)) (h : Hid (φ w)) (st : ∀ {u}, φ w → Below w.heap.size w u → φ u) : Hid (∀ u : World, Hid (Below w0.heap.size w0 u) → Hid (φ u)) :=
 aa (fun u hu => aa (st h.out (ag hb.out hu.out)))
theorem FV {w : World} (φ : World → Prop) (h : φ w) (st : ∀ {u}, φ w → Below w.heap.size w u → φ u) : Hid (∀ u : World, Hid (Below w.heap.size w u) → Hid (φ u)) :=
 aa (fun u hu => aa (st h hu.out))
theorem mkS {w w0 : World} {A : Option Addr} {xs : List Int} (hb : Hid (Below w.heap.size w w0)) (h : Hid (Sl w A xs)) : Hid (∀ u : World, Hid (Below w0.heap.size w0 u) → Hid (Sl u A xs)) := LD (fun u => Sl u A xs) hb h (·.below)
theorem mkV {w w0 : World} (hb : Hid (Below w.heap.size w w0)) (h : Hid (Vars w)) : Hid (∀ u : World, Hid (Below w0.heap.size w0 u) → Hid (Vars u)) := LD (fun u => Vars u) hb h (·.below)
theorem zV {w w0 u : World} (h : Hid (Below w.heap.size w w0)) (h2 : Hid (Below w0.heap.size w0 u)) : Below w.heap.size w u := ag h.out h2.out
def BO (u : World) (b : Nat) (o : Obj) : Prop := ∃ c T, o = .cells c T ∧ ∀ (j : Nat) v, c[j]? = some v → Own u ⟨b, j, none⟩ v
theorem BO.new (w : World) (c : Array Value) (T : TypeId) : BO (w.alloc (.cells c T)) w.heap.size (.cells c T) := ⟨c, T, rfl, fun _ _ h => wT rfl h⟩
theorem BO.below {u u2 : World} {b : Nat} {o : Obj} (h : BO u b o) (hb : Below u.heap.size u u2) : BO u2 b o := by
 obtain ⟨c, T, e, h⟩ := h
 exact ⟨c, T, e, fun j v hj => (h j v hj).below hb⟩
theorem BO.get {u : World} {b : Nat} {c : Array Value} {T : TypeId} (h : BO u b (.cells c T)) (j : Nat) {v : Value} (hj : c[j]? = some v) : Own u ⟨b, j, none⟩ v := by
 obtain ⟨c', T', e, h⟩ := h
 cases e
 exact h j v hj
theorem RA {a0 : Value} {r : List Value} {T : TypeId} (u : World) (b : Nat) (h : BO u b (.cells (a0 :: r).toArray T)) : u.cell? ⟨b, 0, none⟩ = some a0 := (h.get 0 (by simp)).1
theorem Dm {a0 a1 : Value} {r : List Value} {T : TypeId} (u : World) (b : Nat) (h : BO u b (.cells (a0 :: a1 :: r).toArray T)) : u.cell? ⟨b, 0, none⟩ = some a0 ∧ u.cell? ⟨b, 1, none⟩ = some a1 := ⟨(h.get 0 (by simp)).1, (h.get 1 (by simp)).1⟩
theorem Gi {a0 a1 a2 : Value} {r : List Value} {T : TypeId} (u : World) (b : Nat) (h : BO u b (.cells (a0 :: a1 :: a2 :: r).toArray T)) : u.cell? ⟨b, 0, none⟩ = some a0 ∧ u.cell? ⟨b, 1, none⟩ = some a1 ∧ u.cell? ⟨b, 2, none⟩ = some a2 := ⟨(h.get 0 (by simp)).1, (h.get 1 (by simp)).1, (h.get 2 (by simp)).1⟩
theorem NR {a0 : Value} {r : List Value} {T : TypeId} (u : World) (b : Nat) (R : Prop) (h : BO u b (.cells (a0 :: r).toArray T)) (g : R) : u.cell? ⟨b, 0, none⟩ = some a0 ∧ R := ⟨(h.get 0 (by simp)).1, g⟩
theorem wM {a0 a1 a2 : Value} {r : List Value} {T : TypeId} (u : World) (b : Nat) (R : Prop) (h : BO u b (.cells (a0 :: a1 :: a2 :: r).toArray T)) (g : R) : u.cell? ⟨b, 0, none⟩ = some a0 ∧ u.cell? ⟨b, 1, none⟩ = some a1 ∧ u.cell? ⟨b, 2, none⟩ = some a2 ∧ R := ⟨(h.get 0 (by simp)).1, (h.get 1 (by simp)).1, (h.get 2 (by simp)).1, g⟩
theorem st1 {c0 : Array Value} {T0 : TypeId} {C0 : World → Nat → Prop} (o0 : Obj) (h0 : ∀ u b, BO u b (.cells c0 T0) → C0 u b) (w : World) (q0 : o0 = .cells c0 T0 := by rfl) : ∃ w0, Hid ((w.alloc o0) = w0) ∧ Hid (Below w.heap.size w w0) ∧ Hid (∀ u : World, Hid (Below w0.heap.size w0 u) → C0 u (w.heap.size)) := by
 subst q0
 have p0 : BO ((w.alloc (.cells c0 T0))) (w.heap.size) (.cells c0 T0) := BO.new w c0 T0
 exact ⟨_, aa rfl, aa (af _ _), aa (fun u h => h0 _ _ (p0.below h.out))⟩
theorem st2 {c0 c1 : Array Value} {T0 T1 : TypeId} {C0 : World → Nat → Prop → Prop} {C1 : World → Nat → Prop} (o0 : Obj) (h0 : ∀ u b R, BO u b (.cells c0 T0) → R → C0 u b R) (o1 : Obj) (h1 : ∀ u b, BO u b (.cells c1 T1) → C1 u b) (w : World) (q0 : o0 = .cells c0 T0 := by rfl) (q1 : o1 = .cells c1 T1 := by rfl) : ∃ w0, Hid (((w.alloc o0).alloc o1) = w0) ∧ Hid (Below w.heap.size w w0) ∧ Hid (∀ u : World, Hid (Below w0.heap.size w0 u) → C0 u (w.heap.size) (C1 u (w.heap.size + 1))) := by
 subst q0 q1
 have p0 : BO (((w.alloc (.cells c0 T0)).alloc (.cells c1 T1))) (w.heap.size) (.cells c0 T0) := BO.below (BO.new w c0 T0) (af _ _)
 have p1 : BO (((w.alloc (.cells c0 T0)).alloc (.cells c1 T1))) (w.heap.size + 1) (.cells c1 T1) := (show (w.alloc (.cells c0 T0)).heap.size = w.heap.size + 1 by simp) ▸ BO.new (w.alloc (.cells c0 T0)) c1 T1
 exact ⟨_, aa rfl, aa (ag (af _ _) (af _ _)), aa (fun u h => h0 _ _ _ (p0.below h.out) (h1 _ _ (p1.below h.out)))⟩
theorem Lv {c0 c1 c2 : Array Value} {T0 T1 T2 : TypeId} {C0 : World → Nat → Prop → Prop} {C1 : World → Nat → Prop → Prop} {C2 : World → Nat → Prop} (o0 : Obj) (h0 : ∀ u b R, BO u b (.cells c0 T0) → R → C0 u b R) (o1 : Obj) (h1 : ∀ u b R, BO u b (.cells c1 T1) → R → C1 u b R) (o2 : Obj) (h2 : ∀ u b, BO u b (.cells c2 T2) → C2 u b) (w : World) (q0 : o0 = .cells c0 T0 := by rfl) (q1 : o1 = .cells c1 T1 := by rfl) (q2 : o2 = .cells c2 T2 := by rfl) : ∃ w0, Hid ((((w.alloc o0).alloc o1).alloc o2) = w0) ∧ Hid (Below w.heap.size w w0) ∧ Hid (∀ u : World, Hid (Below w0.heap.size w0 u) → C0 u (w.heap.size) (C1 u (w.heap.size + 1) (C2 u (w.heap.size + 2)))) := by
 subst q0 q1 q2
 have p0 : BO ((((w.alloc (.cells c0 T0)).alloc (.cells c1 T1)).alloc (.cells c2 T2))) (w.heap.size) (.cells c0 T0) := BO.below (BO.below (BO.new w c0 T0) (af _ _)) (af _ _)
 have p1 : BO ((((w.alloc (.cells c0 T0)).alloc (.cells c1 T1)).alloc (.cells c2 T2))) (w.heap.size + 1) (.cells c1 T1) := BO.below ((show (w.alloc (.cells c0 T0)).heap.size = w.heap.size + 1 by simp) ▸ BO.new (w.alloc (.cells c0 T0)) c1 T1) (af _ _)
 have p2 : BO ((((w.alloc (.cells c0 T0)).alloc (.cells c1 T1)).alloc (.cells c2 T2))) (w.heap.size + 2) (.cells c2 T2) := (show ((w.alloc (.cells c0 T0)).alloc (.cells c1 T1)).heap.size = w.heap.size + 2 by simp) ▸ BO.new ((w.alloc (.cells c0 T0)).alloc (.cells c1 T1)) c2 T2
 exact ⟨_, aa rfl, aa (ag (ag (af _ _) (af _ _)) (af _ _)), aa (fun u h => h0 _ _ _ (p0.below h.out) (h1 _ _ _ (p1.below h.out) (h2 _ _ (p2.below h.out))))⟩
theorem QN {c0 c1 c2 c3 : Array Value} {T0 T1 T2 T3 : TypeId} {C0 : World → Nat → Prop → Prop} {C1 : World → Nat → Prop → Prop} {C2 : World → Nat → Prop → Prop} {C3 : World → Nat → Prop} (o0 : Obj) (h0 : ∀ u b R, BO u b (.cells c0 T0) → R → C0 u b R) (o1 : Obj) (h1 : ∀ u b R, BO u b (.cells c1 T1) → R → C1 u b R) (o2 : Obj) (h2 : ∀ u b R, BO u b (.cells c2 T2) → R → C2 u b R) (o3 : Obj) (h3 : ∀ u b, BO u b (.cells c3 T3) → C3 u b) (w : World) (q0 : o0 = .cells c0 T0 := by rfl) (q1 : o1 = .cells c1 T1 := by rfl) (q2 : o2 = .cells c2 T2 := by rfl) (q3 : o3 = .cells c3 T3 := by rfl) : ∃ w0, Hid (((((w.alloc o0).alloc o1).alloc o2).alloc o3) = w0) ∧ Hid (Below w.heap.size w w0) ∧ Hid (∀ u : World, Hid (Below w0.heap.size w0 u) → C0 u (w.heap.size) (C1 u (w.heap.size + 1) (C2 u (w.heap.size + 2) (C3 u (w.heap.size + 3))))) := by
 subst q0 q1 q2 q3
 have p0 : BO (((((w.alloc (.cells c0 T0)).alloc (.cells c1 T1)).alloc (.cells c2 T2)).alloc (.cells c3 T3))) (w.heap.size) (.cells c0 T0) := BO.below (BO.below (BO.below (BO.new w c0 T0) (af _ _)) (af _ _)) (af _ _)
 have p1 : BO (((((w.alloc (.cells c0 T0)).alloc (.cells c1 T1)).alloc (.cells c2 T2)).alloc (.cells c3 T3))) (w.heap.size + 1) (.cells c1 T1) := BO.below (BO.below ((show (w.alloc (.cells c0 T0)).heap.size = w.heap.size + 1 by simp) ▸ BO.new (w.alloc (.cells c0 T0)) c1 T1) (af _ _)) (af _ _)
 have p2 : BO (((((w.alloc (.cells c0 T0)).alloc (.cells c1 T1)).alloc (.cells c2 T2)).alloc (.cells c3 T3))) (w.heap.size + 2) (.cells c2 T2) := BO.below ((show ((w.alloc (.cells c0 T0)).alloc (.cells c1 T1)).heap.size = w.heap.size + 2 by simp) ▸ BO.new ((w.alloc (.cells c0 T0)).alloc (.cells c1 T1)) c2 T2) (af _ _)
 have p3 : BO (((((w.alloc (.cells c0 T0)).alloc (.cells c1 T1)).alloc (.cells c2 T2)).alloc (.cells c3 T3))) (w.heap.size + 3) (.cells c3 T3) := (show (((w.alloc (.cells c0 T0)).alloc (.cells c1 T1)).alloc (.cells c2 T2)).heap.size = w.heap.size + 3 by simp) ▸ BO.new (((w.alloc (.cells c0 T0)).alloc (.cells c1 T1)).alloc (.cells c2 T2)) c3 T3
 exact ⟨_, aa rfl, aa (ag (ag (ag (af _ _) (af _ _)) (af _ _)) (af _ _)), aa (fun u h => h0 _ _ _ (p0.below h.out) (h1 _ _ _ (p1.below h.out) (h2 _ _ _ (p2.below h.out) (h3 _ _ (p3.below h.out)))))⟩
theorem Jm {c : Array Value} {T : TypeId} {C : World → Nat → Prop} (o : Obj) (e : ∀ u b, BO u b (.cells c T) → C u b) (w : World) (q : o = .cells c T := by rfl) : ∃ w2, w.alloc o = w2 ∧ Hid (Below w.heap.size w w2) ∧ Hid (w2.heap.size = w.heap.size + 1) ∧ Hid (w2.heap[w.heap.size]? = some o) ∧ Hid (∀ u : World, Hid (Below w2.heap.size w2 u) → C u w.heap.size) := by
 subst q
 exact ⟨_, rfl, aa (af _ _), aa (by simp), aa (heap_alloc_new _ _), aa (fun u h => e _ _ ((BO.new w c T).below h.out))⟩
theorem qq : (∀ {α : Type} (xs : List α) (i : Nat) (h : i < xs.toArray.size), xs.toArray[i] = xs[i]'(by simpa using h)) ∧ (∀ {α : Type} (a : α) (l : List α) (h : 0 < (a :: l).length), getElem (a :: l) 0 h = a) ∧
  (∀ {α : Type} (a : α) (l : List α) (i : Nat) (h : i + 1 < (a :: l).length), getElem (a :: l) (i+1) h = getElem l i (Nat.lt_of_succ_lt_succ h)) ∧
  (∀ (a : Act) (d : Tmp) (v : Value), a.put (some d) v = { a with tmps := a.tmps.setIfInBounds d v }) ∧ (∀ (a : Act) (v : Value), a.put none v = a) ∧
  (∀ {α : Type} (l : List α) (i : Nat) (a : α), l.toArray.setIfInBounds i a = (l.set i a).toArray) ∧ (∀ {α : Type} (x : α) (xs : List α) (a : α), (x :: xs).set 0 a = a :: xs) ∧ (∀ {α : Type} (x : α) (xs : List α) (i : Nat) (a : α), (x :: xs).set (i + 1) a = x :: xs.set i a) ∧
  (∀ a b : Value, cond true a b = a) ∧ (∀ a b : Value, cond false a b = b) :=
 ⟨fun _ _ _ => rfl, fun _ _ _ => rfl, fun _ _ _ _ => rfl, fun _ _ _ => rfl, fun _ _ => rfl, fun l i a => List.setIfInBounds_toArray l i a, fun _ _ _ => rfl, fun _ _ _ _ => rfl, fun _ _ => rfl, fun _ _ => rfl⟩
section
variable {P : Program} {ops : Array Oper} {Q : Exit → Act → World → Prop} {md : Region.Mode} {S : World → Prop} {E : List Nat}
theorem lC (i : Nat) {oi : Oper} {v : Value} {fuel : Nat} {listed l2 : Array Bool} {a a2 : Act} {w : World} (h : fQ P md ops Q S E fuel l2 a2 w) (hi : ops[i]? = some oi := by rfl)
  (hs : Region.noSelect ops = true := by kernel_rfl) (hf : Region.free md ops listed i = true := by kernel_rfl) (hr : (Region.ready md ops listed).contains i = true := by kernel_rfl) (hl : jN md ops listed i E = true := by kernel_rfl)
  (hQ : ∀ c a w, Q (.panic c) (a.put oi.dst v) w → Q (.panic c) a w := by exact fun _ _ _ h => h) (hw : Region.wanted oi (yielded ops a.tmps) = true := by rfl)
  (hy : ∀ w, S w → (execOp a.eval oi).run P w = .ok (.value v) w := by intro wS hSw; have zS := hO.out wS hSw; go_simp <;> with_reducible rfl) (hS : S w := by assumption) (hn : listed.setIfInBounds i true = l2 ∧ a.put oi.dst v = a2 := by refine ⟨?_, ?_⟩ <;> (try simp only [qq]) <;> rfl) : fQ P md ops Q S E (fuel + 1) listed a w :=
 eX hi hs hf hr hl hQ (Or.inl ⟨hw, hy⟩) hS (hn.1 ▸ hn.2 ▸ h)
theorem o7 (i : Nat) {oi : Oper} {v : Value} {fuel : Nat} {listed l2 : Array Bool} {a a2 : Act} {w : World} (h : fQ P md ops Q S E fuel l2 a2 w) (hi : ops[i]? = some oi := by rfl)
  (hs : Region.noSelect ops = true := by kernel_rfl) (hf : Region.free md ops listed i = true := by kernel_rfl) (hr : (Region.ready md ops listed).contains i = true := by kernel_rfl) (hl : jN md ops listed i E = true := by kernel_rfl)
  (hQ : ∀ c a w, Q (.panic c) (a.put oi.dst v) w → Q (.panic c) a w := by exact fun _ _ _ h => h) (hw : Region.wanted oi (yielded ops a.tmps) = true := by rfl)
  (hy : ∀ w, S w → (execOp a.eval oi).run P w = .ok (.value v) w := by intro wS hSw; (try dsimp only at hSw); go_simp <;> with_reducible rfl) (hS : S w := by assumption) (hn : listed.setIfInBounds i true = l2 ∧ a.put oi.dst v = a2 := by refine ⟨?_, ?_⟩ <;> (try simp only [qq]) <;> rfl) : fQ P md ops Q S E (fuel + 1) listed a w :=
 eX hi hs hf hr hl hQ (Or.inl ⟨hw, hy⟩) hS (hn.1 ▸ hn.2 ▸ h)
theorem O1 (i : Nat) {oi : Oper} (v : Value) {fuel : Nat} {listed l2 : Array Bool} {a a2 : Act} {w : World} (hi : ops[i]? = some oi) (hy : ∀ w, S w → (execOp a.eval oi).run P w = .ok (.value v) w) (h : fQ P md ops Q S E fuel l2 a2 w)
  (hs : Region.noSelect ops = true := by kernel_rfl) (hf : Region.free md ops listed i = true := by kernel_rfl) (hr : (Region.ready md ops listed).contains i = true := by kernel_rfl) (hl : jN md ops listed i E = true := by kernel_rfl)
  (hQ : ∀ c a w, Q (.panic c) (a.put oi.dst v) w → Q (.panic c) a w := by exact fun _ _ _ h => h) (hw : Region.wanted oi (yielded ops a.tmps) = true := by rfl) (hS : S w := by assumption) (hn : listed.setIfInBounds i true = l2 ∧ a.put oi.dst v = a2 := by refine ⟨?_, ?_⟩ <;> (try simp only [qq]) <;> rfl) : fQ P md ops Q S E (fuel + 1) listed a w :=
 eX hi hs hf hr hl hQ (Or.inl ⟨hw, hy⟩) hS (hn.1 ▸ hn.2 ▸ h)
theorem mK (i : Nat) {o : Oper} {fuel : Nat} {listed : Array Bool} {a : Act} {w : World}
  (h : ∀ K' : Act → World → Prop, Shut (∀ a w, S w → (S w → fQ P md ops Q S E fuel (listed.setIfInBounds i true) a w) → K' a w) → if Region.wanted o (yielded ops a.tmps) = true then Oper.wp P o a w K' Q else K' (a.put o.dst undef) w)
  (hr : Region.ready md ops listed = [i] := by kernel_rfl) (ho : ops[i]? = some o := by rfl) : fQ P md ops Q S E (fuel + 1) listed a w := DD hr ho h
def FU (md : Region.Mode) (ops : Array Oper) (E : List Nat) (l : Array Bool) (i : Nat) : Bool := Region.noSelect ops && (Region.free md ops l i && ((Region.ready md ops l).contains i && jN md ops l i E))
theorem xN {i : Nat} {o : Oper} {v : Value} {fuel : Nat} {l l2 : Array Bool} {a a2 : Act} {w : World} (g : ops[i]? = some o) (c : FU md ops E l i = true) (hw : Region.wanted o (yielded ops a.tmps) = true) (y : ∀ w, S w → (execOp a.eval o).run P w = .ok (.value v) w) (hS : S w) (n : l.setIfInBounds i true = l2 ∧ a.put o.dst v = a2)
    (q : ∀ d v c a w, Q (.panic c) (Act.put a d v) w → Q (.panic c) a w) (h : fQ P md ops Q S E fuel l2 a2 w) : fQ P md ops Q S E (fuel + 1) l a w := by
  simp only [FU, Bool.and_eq_true] at c
  obtain ⟨rfl, rfl⟩ := n
  exact eX g c.1 c.2.1 c.2.2.1 c.2.2.2 (q _ _) (Or.inl ⟨hw, y⟩) hS h
theorem O5 {i : Nat} {o : Oper} {fuel : Nat} {l l2 : Array Bool} {a a2 : Act} {w : World} (g : ops[i]? = some o) (c : FU md ops E l i = true) (hw : Region.wanted o (yielded ops a.tmps) = false) (hS : S w) (n : l.setIfInBounds i true = l2 ∧ a.put o.dst undef = a2)
    (q : ∀ d v c a w, Q (.panic c) (Act.put a d v) w → Q (.panic c) a w) (h : fQ P md ops Q S E fuel l2 a2 w) : fQ P md ops Q S E (fuel + 1) l a w := by
  simp only [FU, Bool.and_eq_true] at c
  obtain ⟨rfl, rfl⟩ := n
  exact eX g c.1 c.2.1 c.2.2.1 c.2.2.2 (q _ _) (Or.inr ⟨hw, rfl⟩) hS h
theorem gJ (i0 i1 i2 i3 : Nat) {o0 o1 o2 o3 : Oper} {v0 v1 v2 v3 : Value} {fuel : Nat} {l0 l1 l2 l3 l4 : Array Bool} {a0 a1 a2 a3 a4 : Act} {w : World} (h : fQ P md ops Q S E fuel l4 a4 w)
    (g0 : ops[i0]? = some o0 := by rfl) (c0 : FU md ops E l0 i0 = true := by kernel_rfl) (w0 : Region.wanted o0 (yielded ops a0.tmps) = true := by rfl) (y0 : ∀ w, S w → (execOp a0.eval o0).run P w = .ok (.value v0) w := by intro wS hSw; have zS := hO.out wS hSw; go_simp <;> with_reducible rfl) (n0 : l0.setIfInBounds i0 true = l1 ∧ a0.put o0.dst v0 = a1 := by refine ⟨?_, ?_⟩ <;> (try simp only [qq]) <;> rfl)
    (g1 : ops[i1]? = some o1 := by rfl) (c1 : FU md ops E l1 i1 = true := by kernel_rfl) (w1 : Region.wanted o1 (yielded ops a1.tmps) = true := by rfl) (y1 : ∀ w, S w → (execOp a1.eval o1).run P w = .ok (.value v1) w := by intro wS hSw; have zS := hO.out wS hSw; go_simp <;> with_reducible rfl) (n1 : l1.setIfInBounds i1 true = l2 ∧ a1.put o1.dst v1 = a2 := by refine ⟨?_, ?_⟩ <;> (try simp only [qq]) <;> rfl)
    (g2 : ops[i2]? = some o2 := by rfl) (c2 : FU md ops E l2 i2 = true := by kernel_rfl) (w2 : Region.wanted o2 (yielded ops a2.tmps) = true := by rfl) (y2 : ∀ w, S w → (execOp a2.eval o2).run P w = .ok (.value v2) w := by intro wS hSw; have zS := hO.out wS hSw; go_simp <;> with_reducible rfl) (n2 : l2.setIfInBounds i2 true = l3 ∧ a2.put o2.dst v2 = a3 := by refine ⟨?_, ?_⟩ <;> (try simp only [qq]) <;> rfl)
    (g3 : ops[i3]? = some o3 := by rfl) (c3 : FU md ops E l3 i3 = true := by kernel_rfl) (w3 : Region.wanted o3 (yielded ops a3.tmps) = true := by rfl) (y3 : ∀ w, S w → (execOp a3.eval o3).run P w = .ok (.value v3) w := by intro wS hSw; have zS := hO.out wS hSw; go_simp <;> with_reducible rfl) (n3 : l3.setIfInBounds i3 true = l4 ∧ a3.put o3.dst v3 = a4 := by refine ⟨?_, ?_⟩ <;> (try simp only [qq]) <;> rfl)
    (S0 : S w := by assumption) (q : ∀ d v c a w, Q (.panic c) (Act.put a d v) w → Q (.panic c) a w := by first | exact fun _ _ _ _ _ h => h | (intro d v c a w h; cases d <;> exact h)) : fQ P md ops Q S E (fuel + 4) l0 a0 w := xN g0 c0 w0 y0 S0 n0 q (xN g1 c1 w1 y1 S0 n1 q (xN g2 c2 w2 y2 S0 n2 q (xN g3 c3 w3 y3 S0 n3 q h)))
theorem Jb (i : Nat) {o : Oper} {fuel : Nat} {listed : Array Bool} {a : Act} {w : World}
  (h : ∀ K' : Act → World → Prop, Shut (∀ a w, fQ P md ops Q S E fuel (listed.setIfInBounds i true) a w → K' a w) → if Region.wanted o (yielded ops a.tmps) = true then Oper.wp P o a w K' Q else K' (a.put o.dst undef) w)
  (hr : Region.ready md ops listed = [i] := by kernel_rfl) (hE : i ∈ E := by simp) (ho : ops[i]? = some o := by rfl) : fQ P md ops Q S E (fuel + 1) listed a w := Ab hr hE ho h
theorem Aj {fuel : Nat} {listed : Array Bool} {a : Act} {w : World} (h : Q .normal a w) (hr : Region.ready md ops listed = [] := by kernel_rfl) : fQ P md ops Q S E fuel listed a w := Ac hr h fuel
theorem Jd {id : Nat} {a : Act} {w : World} (B : World → Prop) (E : List Nat) (hS : Hid (B w.drew)) (h : Hid (B w.drew) → fQ P .any ops Q (fun u => Hid (B u)) E ops.size (Array.replicate ops.size false) a w.drew)
  (hm : P.follows .mixedOrders = true := by kernel_rfl) : (Code.region id ops true).wp P Q a w := dR hm hS h
end
def pz (N : Nat) (l : List Int) : List Int := l ++ aH (N - l.length)
theorem Be {N : Nat} {l : List Int} (h : l.length ≤ N) : (pz N l).length = N := by simp [pz, aH]; omega
theorem GK {N : Nat} {l : List Int} {x : Int} (h : l.length < N) : (pz N l).set l.length x = pz N (l ++ [x]) := by
 obtain ⟨m, hm⟩ : ∃ m, N - l.length = m + 1 := ⟨N - l.length - 1, by omega⟩
 have hm2 : N - (l ++ [x]).length = m := by rw [List.length_append, List.length_singleton]; omega
 rw [pz, pz, hm, hm2, aH, List.replicate_succ, List.set_append_right _ _ (Nat.le_refl _), Nat.sub_self, List.set_cons_zero]
 simp [aH]
theorem xE {N : Nat} {l : List Int} (h : l.length = N) : pz N l = l := by simp [pz, aH, h]
theorem xC {N k : Nat} {l : List Int} (h : k < l.length) (h2 : k < N) : (pz N (l.take k)).set k (l.getD k 0) = pz N (l.take (k + 1)) := by
 have e := GK (N := N) (l := l.take k) (x := l.getD k 0) (by rw [List.length_take]; omega)
 rw [List.length_take, Nat.min_eq_left (by omega)] at e
 rw [e, take_one h]
theorem JI : (#[.int .u8 0, .int .u8 0, .int .u8 0, .int .u8 0, .int .u8 0, .int .u8 0, .int .u8 0, .int .u8 0] : Array Value) = arr .u8 (aH 8) := rfl
theorem Fg (n : Int) : ∀ k : Nat, k < 8 → (jh n).getD k 0 = n / 2 ^ (56 - 8 * k) % 256
 | 0, _ => rfl
 | 1, _ => rfl
 | 2, _ => rfl
 | 3, _ => rfl
 | 4, _ => rfl
 | 5, _ => rfl
 | 6, _ => rfl
 | 7, _ => by simp [jh]
 | k + 8, h => absurd h (by omega)
theorem zx (n : Int) (w : World) :
  Calls Tryz.prog 114 #[.int .u64 n] w fun e w' => e = .returned (.slice (some ⟨w.heap.size, 0, none⟩) 8 8) ∧ aX .u8 5 w' w.heap.size (jh n) ∧ Below w.heap.size w w' := by
 obtain ⟨W, hW⟩ : ∃ W, w.alloc (.cells #[.int .u8 0, .int .u8 0, .int .u8 0, .int .u8 0, .int .u8 0, .int .u8 0, .int .u8 0, .int .u8 0] 5) = W := ⟨_, rfl⟩
 have iN : Hid (Below w.heap.size w W) := aa (by rw [← hW]; exact af _ _)
 have HB0 : Hid (aX .u8 5 W w.heap.size (pz 8 ((jh n).take 0))) := aa (by
  rw [← hW, JI]
  exact aX.new _ _)
 have hmk : ∀ w, (Instr.makeSlice 132 (.int .i64 8) (.int .i64 8)).run Tryz.prog w = .ok (.slice (some ⟨w.heap.size, 0, none⟩) 8 8) (w.alloc (.cells #[.int .u8 0, .int .u8 0, .int .u8 0, .int .u8 0, .int .u8 0, .int .u8 0, .int .u8 0, .int .u8 0] 5)) := fun _ => by kernel_rfl
 have HW := aa hW
 clear hW
 go_in
 go_wp2
 rw [HW.out]
 clear HW hmk
 go_loopw [8] (fun i u => ∃ k : Nat, k ≤ 8 ∧ i = .int .i64 k ∧ Hid (aX .u8 5 u w.heap.size (pz 8 ((jh n).take k))) ∧ Hid (Below w.heap.size w u)) (fun i _ => 8 - (intOf i).toNat)
 case atStart => exact ⟨0, by omega, rfl, HB0, iN⟩
 case round =>
  obtain ⟨k, hk, rfl, HB, aB⟩ := hrel
  by_cases hlt : k < 8
  ·
   have hc := HB.out.cell (j := k) (by rw [Be (by rw [List.length_take, fG]; omega)]; exact hlt)
   have hf := HB.out.free k
   have hst := xC (N := 8) (k := k) (l := jh n) hlt hlt
   rw [Fg n k hlt] at hst
   obtain ⟨q, hq⟩ : ∃ q, n / 2 ^ (56 - 8 * k) = q := ⟨_, rfl⟩
   rw [hq] at hst
   have j0 : (0 : Int) ≤ 56 - 8 * k := by omega
   have j1 : (56 - 8 * (k : Int)).toNat = 56 - 8 * k := by omega
   have HB2 : Hid (aX .u8 5 (wr.setCell ⟨w.heap.size, k, none⟩ (.int .u8 (q % 256))) w.heap.size (pz 8 ((jh n).take (k + 1)))) := aa (by
    rw [← hst]
    exact HB.out.set)
   have Dh : Hid (Below w.heap.size w (wr.setCell ⟨w.heap.size, k, none⟩ (.int .u8 (q % 256)))) := aa (aB.out.setCell (Nat.le_refl _) _)
   clear hst HB aB
   go_wp2
   try go_region
   try (rw [hq])
   go_wp2
   go_roundw
   case rel => exact ⟨k + 1, by omega, by go_num, HB2, Dh⟩
   case measure => simp [intOf]; omega
  ·
   have I6 : Hid (aX .u8 5 wr w.heap.size (jh n)) := aa (by
    have h := HB.out
    rwa [show k = (jh n).length by rw [fG]; omega, List.take_length, xE (fG n)] at h)
   clear HB
   go_wp2
   go_ret
   exact ⟨rfl, I6.out, aB.out⟩
theorem yz (b o i : Nat) : (⟨b, o, none⟩ : Addr).add i = ⟨b, o + i, none⟩ := by unfold Addr.add; split <;> simp_all
theorem Sk.news {K : IntKind} {w : World} {b o : Nat} {l : List Int} (h : Sk K w (some ⟨b, o, none⟩) l) : ∀ j u, (l.map (Value.int K))[j]? = some u → w.cell? ((⟨b, o, none⟩ : Addr).add j) = some u := fun j u hj => by
 rw [List.getElem?_map] at hj
 by_cases hl : j < l.length
 ·
  rw [List.getElem?_eq_getElem hl] at hj
  rw [yz, h.cell hl, List.getD_eq_getElem?_getD, List.getElem?_eq_getElem hl]
  exact hj
 · rw [List.getElem?_eq_none (by omega)] at hj; cases hj
theorem Sk.at_add {K : IntKind} {w : World} {b o n : Nat} {l : List Int} (h : Sk K w (some ⟨b, o, none⟩) l) (hn : l.length = n) : ∀ i, i < n → w.cell? ((⟨b, o, none⟩ : Addr).add i) = some (.int K (l.getD i 0)) := fun i hi => by
 rw [yz]; exact h.cell (by omega)
theorem Sk.setRow_ne {K : IntKind} {w : World} {a : Nat} {A : Option Addr} {l : List Int} {cs : Array Value} (h : Sk K w A l) (hne : ∀ b o, A = some ⟨b, o, none⟩ → b ≠ a) : Sk K (w.setRow a cs) A l := fun j hj => by
 obtain ⟨b, o, e, hc⟩ := h j hj
 exact ⟨b, o, e, by rw [cell_setRow_other _ _ _ _ (hne b o e)]; exact hc⟩
theorem uz : (Tryz.prog.info? 5).map (fun i => (i.zero, i.size, i.bytes)) = some (some (.int .u8 0), 1, 1) := by kernel_rfl
theorem J8 : (Tryz.prog.info? 25).map (·.size) = some 32 := by kernel_rfl
theorem aY {l : List Int} (h : l.length = 32) : (Tryz.prog.info? 25).map (·.size) = some (arr .u8 l).size := J8.trans (congrArg some (by rw [aI, h]))
theorem iC {l m : List Int} (h : l.length = 32) (h2 : m.length = 32) : (arr .u8 l).size = (arr .u8 m).size := by rw [aI, aI, h, h2]
theorem xq : (z32 : Array Value) = arr .u8 (aH 32) := rfl
theorem Ev (s : St) : ∀ k : Nat, k < 8 → ∀ m : Nat, m < 4 → (iZ s).getD (4 * k + m) 0 = s.list.getD k 0 / 2 ^ (24 - 8 * m) % 256 := by
 intro k hk m hm
 obtain ⟨a, b, c, d, e, f, g, h⟩ := s
 rcases (show k = 0 ∨ k = 1 ∨ k = 2 ∨ k = 3 ∨ k = 4 ∨ k = 5 ∨ k = 6 ∨ k = 7 by omega) with rfl | rfl | rfl | rfl | rfl | rfl | rfl | rfl <;>
 rcases (show m = 0 ∨ m = 1 ∨ m = 2 ∨ m = 3 by omega) with rfl | rfl | rfl | rfl <;>
 simp [iZ, mZ, St.list]
theorem mY (s : St) : (iZ s).length = 32 := rfl
def lenOf : Value → Nat
 | .slice _ n _ => n
 | _ => 0
theorem Bc (m : Nat) : List.replicate (m + 1) (0 : Int) = List.replicate m 0 ++ [0] := List.replicate_succ' ..
theorem EA (xa xb xc xd xe xf xg xh : Int) (b o cap : Nat) (blk : List Int) (hlen : Hid (blk.length = 64)) (hby : Hid (ax blk = true)) (w : World) (hs : Hid (Sk .u8 w (some ⟨b, o, none⟩) blk)) (hcap : 64 ≤ cap) (hcm : cap ≤ 9223372036854775807) (hv : Hid (dx w)) :
  Calls Tryz.prog 115 #[.agg #[.int .u32 xa, .int .u32 xb, .int .u32 xc, .int .u32 xd, .int .u32 xe, .int .u32 xf, .int .u32 xg, .int .u32 xh], .slice (some ⟨b, o, none⟩) 64 cap] w (Rt w (.agg (arr .u32 (vD ⟨xa, xb, xc, xd, xe, xf, xg, xh⟩ blk).list))) := by
 rw [Fp]
 exact EB ⟨xa, xb, xc, xd, xe, xf, xg, xh⟩ b o cap blk hlen hby w hs hcap hcm hv
theorem D5 (b o c : Nat) (l : List Int) (n : Nat) (hn : Hid (l.length = n)) (hbig : n ≤ 1000000) (hby : Hid (ax l = true)) (w : World) (hs : Hid (Sk .u8 w (some ⟨b, o, none⟩) l)) (hv : Hid (dx w)) :
  Calls Tryz.prog 105 #[.slice (some ⟨b, o, none⟩) n c] w (Rt w (.agg (arr .u8 (xz l)))) := by
 obtain ⟨i0, hi, hz0, hz1, hz2⟩ := info_parts uz
 obtain ⟨W, hW⟩ : ∃ W, w.alloc (.cells z32 25) = W := ⟨_, rfl⟩
 have iN : Hid (Below w.heap.size w W) := aa (by rw [← hW]; exact af _ _)
 have lM : Hid (aX .u8 25 W w.heap.size (aH 32)) := aa (by
  rw [← hW, xq]
  exact aX.new _ _)
 have Dq : Hid (W.heap.size = w.heap.size + 1) := aa (by rw [← hW]; simp)
 have HS := aa (hs.out.below iN.out)
 have HV := aa (hv.out.below iN.out)
 have HW := aa hW
 clear hW hs hv
 go_in
 go_wp2_with fail
 rw [HW.out]
 refine (Tryz.bytes_Clone_at ⟨b, o, none⟩ n c l _ hn.out (by omega) (HS.out.at_add hn.out)).mono ?_
 rintro e w1 ⟨v1, rfl, ho1, hne1, hb1⟩
 have Dv : Hid (bN .u8 5 w1 W.heap.size v1 l) := aa (by unfold bN; rw [hn.out]; exact ho1)
 have HB1 := hb1
 have Ll := aa hb1
 have hbs := hb1.size
 clear HW hne1 HB1 hb1
 have hown := Dv.out.row hn.out
 clear ho1
 go_wp2_with (at_builtin; refine wpList_append_own _ rfl _ _ 132 rfl W.heap.size 5 i0 (.int .u8 0) 1 1 Tryz.underlying132 hi hz0 hz1 hz2 rfl (by decide) _ _ _ rfl (hown.alloc _) ⟨w1.heap.size, 0, none⟩ 1 1 [.int .u8 128] rfl rfl (cell_one_new _ _ _) (ints_oneCell .u8 [128]) (by unfold maxLen; omega) (by omega) (by simp; omega) ?_; intro v2 w2 hown2 hgrow2 _)
 have zI : Hid (bN .u8 5 w2 W.heap.size v2 (l ++ [128])) := aa (bN.app hn.out.symm rfl hown2)
 have OM : Hid (Below W.heap.size W w2) := aa (Dv.out.below Ll.out hbs hgrow2)
 clear hown hown2 hgrow2 Dv hbs Ll
 obtain ⟨A2, c2, e2, _⟩ := zI.out.sk
 rw [List.length_append, hn.out, List.length_singleton] at e2
 subst e2
 go_loopw [3] (fun p u => ∃ (N : Nat) (A : Option Addr) (cap : Nat), n + 1 ≤ N ∧ N ≤ n + 1 + jC n ∧ p = .slice A N cap ∧ Hid (bN .u8 5 u W.heap.size p (l ++ [128] ++ List.replicate (N - n - 1) 0)) ∧ Hid (Below W.heap.size W u)) (fun p _ => n + 65 - lenOf p)
 case atStart => exact ⟨n + 1, A2, c2, Nat.le_refl _, by omega, rfl, aa (by rw [show n + 1 - n - 1 = 0 by omega]; simpa using zI.out), OM⟩
 case round =>
  obtain ⟨N, A, cap, hN0, hN1, rfl, HO, aB⟩ := hrel
  have hpz : jC n < 64 := by unfold jC; omega
  have hll : (l ++ [128] ++ List.replicate (N - n - 1) 0).length = N := by simp [hn.out]; omega
  by_cases hend : N % 64 = 56
  ·
   have HN : Hid (N = n + 1 + jC n) := aa (by unfold jC at hN1 hpz ⊢; omega)
   have t1 : ((N : Int) % 64 == 56) = true := by simp; omega
   have t2 : ((N : Int) % 64 != 56) = false := by simp; omega
   clear hend
   go_wp2_with fail
   refine (zx _ _).mono ?_
   rintro e w3 ⟨rfl, hbl, hb3⟩
   have Gs := aa (HO.out.keep hb3)
   have Df := aa (aB.out.trans (hb3.mono aB.out.size))
   have QB := aa hbl
   have hbs := Df.out.size
   have hown := Gs.out.row hll
   have rF := aa hll
   clear hbl hb3 HO aB hll
   go_upto_region 5 with (at_builtin; refine wpList_append_own _ rfl _ _ 132 rfl W.heap.size 5 i0 (.int .u8 0) 1 1 Tryz.underlying132 hi hz0 hz1 hz2 rfl (by decide) _ _ _ rfl hown ⟨wr.heap.size, 0, none⟩ 8 8 ((jh (8 * (n : Int))).map (.int .u8)) rfl rfl (QB.out.sk.news) (ints_oneCell .u8 (jh (8 * (n : Int)))) (by unfold maxLen jC at *; omega) (by unfold jC at *; omega) (by omega) ?_; intro v4 w4 hown2 hgrow2 _)
   have IM : Hid (bN .u8 5 w4 W.heap.size v4 (jD l)) := aa (by
    have h := bN.app (ys := jh (8 * (n : Int))) rF.out.symm rfl hown2
    have e : l ++ [128] ++ List.replicate (N - n - 1) 0 ++ jh (8 * (n : Int)) = jD l := by
     rw [jD, hn.out, show N - n - 1 = jC n by have := HN.out; omega]
    rwa [e] at h)
   have De : Hid (Below W.heap.size W w4) := aa (Gs.out.below0 Df.out hbs hgrow2)
   clear hown hown2 hgrow2 Gs QB Df hbs
   obtain ⟨M, hM⟩ : ∃ M, (jD l).length = 64 * M := ⟨(jD l).length / 64, by have := Br l; omega⟩
   have hM1 : 1 ≤ M := by rw [mU] at hM; omega
   have hM2 : 64 * M ≤ n + 200 := by rw [mU, hn.out, jC] at hM; omega
   obtain ⟨g4, cap4, e4, hg4, hcap, F_, EH⟩ := IM.out.cells (by omega)
   rw [hM] at e4 hcap
   obtain ⟨P, hP⟩ : ∃ P, jD l = P := ⟨_, rfl⟩
   have Pv : ax P = true := by rw [← hP]; exact ve hby.out
   rw [hP] at EH hM IM
   have HP : Kp (jD l = P) := ⟨hP⟩
   have HM := aa hM
   have K_ := aa Pv
   have CV := aa EH
   have hcm : cap4 ≤ 9223372036854775807 := by simpa [maxLen] using F_
   have Q_ : g4 < w4.heap.size := EH.lt (by omega)
   subst e4
   clear hP hM Pv EH F_ IM rF t1 t2
   have Fv := aa (HV.out.below De.out)
   obtain ⟨s0, s1, s2, s3, s4, s5, s6, s7⟩ : w4.cell? ⟨4, 0, none⟩ = some (.int .u32 1779033703) ∧ w4.cell? ⟨4, 1, none⟩ = some (.int .u32 3144134277) ∧ w4.cell? ⟨4, 2, none⟩ = some (.int .u32 1013904242) ∧ w4.cell? ⟨4, 3, none⟩ = some (.int .u32 2773480762) ∧ w4.cell? ⟨4, 4, none⟩ = some (.int .u32 1359893119) ∧ w4.cell? ⟨4, 5, none⟩ = some (.int .u32 2600822924) ∧ w4.cell? ⟨4, 6, none⟩ = some (.int .u32 528734635) ∧ w4.cell? ⟨4, 7, none⟩ = some (.int .u32 1541459225) :=
    ⟨Fv.out.2 0 (by decide), Fv.out.2 1 (by decide), Fv.out.2 2 (by decide), Fv.out.2 3 (by decide), Fv.out.2 4 (by decide), Fv.out.2 5 (by decide), Fv.out.2 6 (by decide), Fv.out.2 7 (by decide)⟩
   go_wp2_with ((with_reducible show wpList _ _ _ (⟨none, _, _, _, _, _⟩ :: _) _ _); refine wpList_store_row rfl 138 _ _ rfl w4.heap.size (arr .u32 st0.list) rfl rfl _ _ (heap_alloc_new _ _) (dM st0) rfl (dG _) ?_)
   clear s0 s1 s2 s3 s4 s5 s6 s7
   rw [World.setRow_alloc_new]
   simp only [Act.put]
   have Lj : Hid (Below W.heap.size W (w4.alloc (.cells (arr .u32 st0.list) 138))) := aa (De.out.alloc De.out.size _)
   have KV : Hid (aX .u32 138 (w4.alloc (.cells (arr .u32 st0.list) 138)) w4.heap.size (iI P 0).list) := aa (aX.new _ _)
   have KX : Hid (Sk .u8 (w4.alloc (.cells (arr .u32 st0.list) 138)) (some ⟨g4, 0, none⟩) (P.drop (64 * 0))) := aa (by
    rw [Nat.mul_zero, List.drop_zero]
    exact CV.out.below (af _ _))
   have Ny := De.out.size
   obtain ⟨W5, Po⟩ : ∃ u, w4.alloc (.cells (arr .u32 st0.list) 138) = u := ⟨_, rfl⟩
   rw [Po] at Lj KV KX ⊢
   clear Po CV De Fv
   go_loopw [3] (fun p u => ∃ (k R off cp : Nat), k ≤ M ∧ Hid (64 * k + R = 64 * M) ∧ p = .slice (some ⟨g4, off, none⟩) R cp ∧ R ≤ cp ∧ cp ≤ 9223372036854775807 ∧ Hid (Sk .u8 u (some ⟨g4, off, none⟩) (P.drop (64 * k))) ∧ Hid (aX .u32 138 u w4.heap.size (iI P k).list) ∧ Hid (Below W.heap.size W u)) (fun p _ => lenOf p)
   case atStart => exact ⟨0, 64 * M, 0, cap4, by omega, aa (by omega), rfl, hcap, hcm, KX, KV, Lj⟩
   case round =>
    obtain ⟨k, R, off, cp, hk, HR, rfl, Us, hcp, lK, yD, aB⟩ := hrel
    by_cases hR0 : 0 < R
    ·
     have Rm : 64 ≤ R := by have := HR.out; omega
     have Rh : (64 : Int) ≤ (cp : Int) := by omega
     have Ud : k < M := by have := HR.out; omega
     have OV : Hid ((dQ P k).length = 64) := aa (uA (by have := HM.out; omega))
     have FM : Hid (ax (dQ P k) = true) := aa (oP K_.out k)
     obtain ⟨⟨xa, xb, xc, xd, xe, xf, xg, xh⟩, hS⟩ : ∃ T, iI P k = T := ⟨_, rfl⟩
     rw [hS] at yD
     have II : Kp (iI P k = ⟨xa, xb, xc, xd, xe, xf, xg, xh⟩) := ⟨hS⟩
     clear hS
     have KT : Hid (Sk .u8 wr (some ⟨g4, off, none⟩) (dQ P k)) := aa (lK.out.take)
     have zH := aa (HV.out.below aB.out)
     have Qs : Hid (wr.cell? ⟨w4.heap.size, 0, none⟩ = some (.int .u32 xa) ∧ wr.cell? ⟨w4.heap.size, 1, none⟩ = some (.int .u32 xb) ∧ wr.cell? ⟨w4.heap.size, 2, none⟩ = some (.int .u32 xc) ∧ wr.cell? ⟨w4.heap.size, 3, none⟩ = some (.int .u32 xd) ∧ wr.cell? ⟨w4.heap.size, 4, none⟩ = some (.int .u32 xe) ∧ wr.cell? ⟨w4.heap.size, 5, none⟩ = some (.int .u32 xf) ∧ wr.cell? ⟨w4.heap.size, 6, none⟩ = some (.int .u32 xg) ∧ wr.cell? ⟨w4.heap.size, 7, none⟩ = some (.int .u32 xh)) := aa ⟨yD.out.cell (j := 0) (show 0 < 8 by decide), yD.out.cell (j := 1) (show 1 < 8 by decide), yD.out.cell (j := 2) (show 2 < 8 by decide), yD.out.cell (j := 3) (show 3 < 8 by decide), yD.out.cell (j := 4) (show 4 < 8 by decide), yD.out.cell (j := 5) (show 5 < 8 by decide), yD.out.cell (j := 6) (show 6 < 8 by decide), yD.out.cell (j := 7) (show 7 < 8 by decide)⟩
     obtain ⟨T, hT⟩ : ∃ T, vD ⟨xa, xb, xc, xd, xe, xf, xg, xh⟩ (dQ P k) = T := ⟨_, rfl⟩
     have HT : Kp (vD ⟨xa, xb, xc, xd, xe, xf, xg, xh⟩ (dQ P k) = T) := ⟨hT⟩
     have Jo : Kp (iI P (k + 1) = T) := ⟨by rw [iI, II.out, hT]⟩
     clear hT
     go_wp2_with fail
     refine dR (S := fun w' => w'.cell? ⟨w4.heap.size, 0, none⟩ = some (.int .u32 xa) ∧ w'.cell? ⟨w4.heap.size, 1, none⟩ = some (.int .u32 xb) ∧ w'.cell? ⟨w4.heap.size, 2, none⟩ = some (.int .u32 xc) ∧ w'.cell? ⟨w4.heap.size, 3, none⟩ = some (.int .u32 xd) ∧ w'.cell? ⟨w4.heap.size, 4, none⟩ = some (.int .u32 xe) ∧ w'.cell? ⟨w4.heap.size, 5, none⟩ = some (.int .u32 xf) ∧ w'.cell? ⟨w4.heap.size, 6, none⟩ = some (.int .u32 xg) ∧ w'.cell? ⟨w4.heap.size, 7, none⟩ = some (.int .u32 xh)) (E := [3, 4]) (by kernel_rfl) (by simpa using Qs.out) (fun hHeld => ?_)
     refine o7 0 ?_
     refine o7 1 ?_
     refine o7 2 ?_
     refine Jb 3 fun K hK => ?_
     go_simp
     refine (EA xa xb xc xd xe xf xg xh g4 off cp (dQ P k) OV FM _ (aa (KT.out.below (Below.refl _ _).drew)) (by omega) hcp (aa (zH.out.below (Below.refl _ _).drew))).mono ?_
     rintro e w6 ⟨rfl, hb6⟩
     rw [HT.out]
     refine hK.out _ _ ?_
     clear hK K
     try simp only [qq]
     refine Jb 4 fun K hK => ?_
     refine wp_store_row 138 _ _ rfl w4.heap.size (arr .u32 T.list) rfl rfl 138 _ ((yD.out.below (Below.refl _ _).drew).below hb6) (dM T) rfl (dG _) ?_
     refine hK.out _ _ ?_
     clear hK K
     try simp only [qq]
     refine Aj ?_
     have IG : Hid (aX .u32 138 (w6.setRow w4.heap.size (arr .u32 T.list)) w4.heap.size (iI P (k + 1)).list) := aa (by
      rw [Jo.out]
      exact ((yD.out.below (Below.refl _ _).drew).below hb6).setRow)
     have Dh : Hid (Below W.heap.size W (w6.setRow w4.heap.size (arr .u32 T.list))) := aa (ak (aB.out.drew.trans (hb6.mono aB.out.size)) Ny)
     have KS : Hid (Sk .u8 (w6.setRow w4.heap.size (arr .u32 T.list)) (some ⟨g4, off, none⟩) (P.drop (64 * k))) := aa (((lK.out.below (Below.refl _ _).drew).below hb6).setRow_ne (fun b o e => by cases e; omega))
     obtain ⟨w7, hw7⟩ : ∃ u, w6.setRow w4.heap.size (arr .u32 T.list) = u := ⟨_, rfl⟩
     rw [hw7] at IG Dh KS ⊢
     clear hw7 hb6 lK KT yD aB zH Qs HT Jo II hHeld
     have Rs : (64 : Int) ≤ (R : Int) := by omega
     by_cases hce : cp = 64
     ·
      subst hce
      obtain rfl : R = 64 := by omega
      have Oq : Hid (Sk .u8 w7 (some ⟨g4, off, none⟩) (P.drop (64 * (k + 1)))) := aa (Sk.nil_of (by rw [List.length_drop, HM.out]; have := HR.out; omega))
      have HR2 : Hid (64 * (k + 1) + 0 = 64 * M) := aa (by have := HR.out; omega)
      go_wp2
      go_roundw
      case rel => exact ⟨k + 1, 0, off, 0, by omega, HR2, rfl, by omega, by omega, Oq, IG, Dh⟩
      case measure => simp [lenOf]
     ·
      have Oq : Hid (Sk .u8 w7 (some ⟨g4, off + 64, none⟩) (P.drop (64 * (k + 1)))) := aa (by
       have h := KS.out.drop (n := 64)
       rwa [List.drop_drop, show 64 * k + 64 = 64 * (k + 1) by omega] at h)
      have HR2 : Hid (64 * (k + 1) + (R - 64) = 64 * M) := aa (by have := HR.out; omega)
      go_wp2
      go_roundw
      case rel => exact ⟨k + 1, R - 64, off + 64, cp - 64, by omega, HR2, rfl, by omega, by omega, Oq, IG, Dh⟩
      case measure => simp [lenOf]; omega
    ·
     obtain rfl : R = 0 := by omega
     obtain ⟨⟨xa, xb, xc, xd, xe, xf, xg, xh⟩, hS⟩ : ∃ T, iI P M = T := ⟨_, rfl⟩
     have Oa : Kp (xz l = iZ ⟨xa, xb, xc, xd, xe, xf, xg, xh⟩) := ⟨by
      rw [xz, HP.out, HM.out, show 64 * M / 64 = M by omega, hS]⟩
     have N9 : Hid (aX .u32 138 wr w4.heap.size (St.mk xa xb xc xd xe xf xg xh).list) := aa (by
      rw [← hS, show M = k by have := HR.out; omega]
      exact yD.out)
     have NU : Hid (aX .u8 25 (wr.alloc (.cells z32 25)) wr.heap.size (pz 32 ((iZ ⟨xa, xb, xc, xd, xe, xf, xg, xh⟩).take (4 * 0)))) := aa (by
      rw [xq]
      exact aX.new _ _)
     have QD : Hid (Below W.heap.size W (wr.alloc (.cells z32 25))) := aa (aB.out.alloc aB.out.size _)
     clear hS yD lK HR
     go_upto_region 11 with ((with_reducible show wpList _ _ _ (⟨some 37, _, _, _, _, _⟩ :: _) _ _); refine wpList_load_row rfl 138 _ rfl w4.heap.size rfl _ _ _ _ (N9.out.old _) Tryz.underlying138 rfl (dM _) ?_)
     rw [← Fp]
     have hbr := aB.out.size
     obtain ⟨WN, NB⟩ : ∃ u, wr.alloc (.cells z32 25) = u := ⟨_, rfl⟩
     rw [NB] at NU QD ⊢
     obtain ⟨B5, NL⟩ : ∃ x, wr.heap.size = x := ⟨_, rfl⟩
     have UJ : Hid (B5 < WN.heap.size) := aa (by rw [← NB, ← NL]; simp)
     rw [NL] at NU hbr ⊢
     clear NB NL
     go_loopw [38] (fun i u => ∃ k : Nat, k ≤ 8 ∧ i = .int .i64 k ∧ Hid (aX .u8 25 u B5 (pz 32 ((iZ ⟨xa, xb, xc, xd, xe, xf, xg, xh⟩).take (4 * k)))) ∧ Hid (Below B5 WN u)) (fun i _ => 8 - (intOf i).toNat)
     case atStart => exact ⟨0, by omega, rfl, NU, aa (Below.refl _ _)⟩
     case round =>
      obtain ⟨k4, hk4, rfl, uE, kz⟩ := hrel
      by_cases hlk : k4 < 8
      ·
       have Q9 := Ka xa xb xc xd xe xf xg xh k4 hlk
       obtain ⟨v0, e1⟩ : ∃ x, (St.mk xa xb xc xd xe xf xg xh).list.getD k4 0 = x := ⟨_, rfl⟩
       rw [e1] at Q9
       have E1 := aa e1
       clear e1
       go_wp2
       go_loopw [42] (fun j u => ∃ m : Nat, m ≤ 4 ∧ j = .int .i64 m ∧ Hid (aX .u8 25 u B5 (pz 32 ((iZ ⟨xa, xb, xc, xd, xe, xf, xg, xh⟩).take (4 * k4 + m)))) ∧ Hid (Below B5 WN u)) (fun j _ => 4 - (intOf j).toNat)
       case atStart => exact ⟨0, by omega, rfl, uE, kz⟩
       case round =>
        obtain ⟨m, hm, rfl, qc, OP⟩ := hrel
        by_cases hlm : m < 4
        ·
         have hol : (iZ ⟨xa, xb, xc, xd, xe, xf, xg, xh⟩).length = 32 := mY _
         have hc := qc.out.cell (j := 4 * k4 + m) (by rw [Be (by rw [List.length_take, hol]; omega)]; omega)
         have hf := qc.out.free (4 * k4 + m)
         have hst := xC (N := 32) (k := 4 * k4 + m) (l := iZ ⟨xa, xb, xc, xd, xe, xf, xg, xh⟩) (by rw [hol]; omega) (by omega)
         rw [Ev _ k4 hlk m hlm, E1.out] at hst
         obtain ⟨q, hq⟩ : ∃ q, v0 / 2 ^ (24 - 8 * m) = q := ⟨_, rfl⟩
         rw [hq] at hst
         have HC := hc
         have j0 : (0 : Int) ≤ 24 - 8 * m := by omega
         have j1 : (24 - 8 * (m : Int)).toNat = 24 - 8 * m := by omega
         have j2 : (4 * (k4 : Int) + m).toNat = 4 * k4 + m := by omega
         obtain ⟨WV, NA⟩ : ∃ u, wr.setCell ⟨B5, 4 * k4 + m, none⟩ (.int .u8 (q % 256)) = u := ⟨_, rfl⟩
         have HB2 : Hid (aX .u8 25 WV B5 (pz 32 ((iZ ⟨xa, xb, xc, xd, xe, xf, xg, xh⟩).take (4 * k4 + (m + 1))))) := aa (by
          rw [← NA, show 4 * k4 + (m + 1) = 4 * k4 + m + 1 by omega, ← hst]
          exact qc.out.set)
         have OO : Hid (Below B5 WN WV) := aa (by rw [← NA]; exact OP.out.setCell (Nat.le_refl _) _)
         clear hst qc OP hol HC
         go_wp2
         try go_region
         try (rw [hq])
         try (rw [NA])
         go_wp2
         go_roundw
         case rel => exact ⟨m + 1, by omega, by go_num, HB2, OO⟩
         case measure => simp [intOf]; omega
        ·
         have HB2 : Hid (aX .u8 25 wr B5 (pz 32 ((iZ ⟨xa, xb, xc, xd, xe, xf, xg, xh⟩).take (4 * (k4 + 1))))) := aa (by
          have h := qc.out
          rwa [show 4 * k4 + m = 4 * (k4 + 1) by omega] at h)
         clear qc
         go_wp2
         go_roundw
         case rel => exact ⟨k4 + 1, by omega, by go_num, HB2, OP⟩
         case measure => simp [intOf]; omega
      ·
       have I6 : Hid (aX .u8 25 wr B5 (xz l)) := aa (by
        have h := uE.out
        rwa [show 4 * k4 = (iZ ⟨xa, xb, xc, xd, xe, xf, xg, xh⟩).length by rw [mY]; omega, List.take_length, xE (mY _), ← Oa.out] at h)
       have uG := aa (QD.out.trans (kz.out.mono hbr))
       have K6 : Hid (aX .u8 25 wr w.heap.size (aH 32)) := aa (lM.out.keepB (by have := Dq.out; omega) uG.out)
       have og : Hid (Below w.heap.size w (wr.setRow w.heap.size (arr .u8 (xz l)))) := aa (ak (ag iN.out uG.out) (Nat.le_refl _))
       have HRR : Hid (aX .u8 25 (wr.setRow w.heap.size (arr .u8 (xz l))) w.heap.size (xz l)) := aa K6.out.setRow
       clear uE kz
       go_wp2_with (first
        | ((with_reducible show wpList _ _ _ (⟨some 58, _, _, _, _, _⟩ :: _) _ _); refine wpList_load_row rfl 25 _ rfl B5 rfl _ _ _ _ I6.out Tryz.underlying25 rfl (aY (iy l)) ?_)
        | ((with_reducible show wpList _ _ _ (⟨none, _, _, _, _, _⟩ :: _) _ _); refine wpList_store_row rfl 25 _ _ rfl w.heap.size (arr .u8 (xz l)) rfl rfl _ _ K6.out (aY (iy l)) (iC rfl (iy l)) (dG _) ?_))
       exact bodyPost_ret (v := .agg (arr .u8 (xz l))) (results_cell_row (p := 2) (ty := 25) rfl _ _ w.heap.size _ _ _ _ rfl HRR.out Tryz.underlying25 rfl (aY (iy l))) rfl ⟨rfl, og.out⟩
  ·
   have hN : N < n + 1 + jC n := by unfold jC at hN1 hpz ⊢; omega
   have t1 : ((N : Int) % 64 == 56) = false := by simp; omega
   have t2 : ((N : Int) % 64 != 56) = true := by simp; omega
   have hown := HO.out.row hll
   have hbs := aB.out.size
   have rF := aa hll
   clear hend hll
   go_wp2_with (at_builtin; refine wpList_append_own _ rfl _ _ 132 rfl W.heap.size 5 i0 (.int .u8 0) 1 1 Tryz.underlying132 hi hz0 hz1 hz2 rfl (by decide) _ _ _ rfl (hown.alloc _) ⟨wr.heap.size, 0, none⟩ 1 1 [.int .u8 0] rfl rfl (cell_one_new _ _ _) (ints_oneCell .u8 [0]) (by unfold maxLen; omega) (by omega) (by simp; omega) ?_; intro v2 w2 hown2 hgrow2 _)
   have Gs : Hid (bN .u8 5 w2 W.heap.size v2 (l ++ [128] ++ List.replicate (N + 1 - n - 1) 0)) := aa (by
    rw [show N + 1 - n - 1 = (N - n - 1) + 1 by omega, Bc, ← List.append_assoc]
    exact bN.app rF.out.symm rfl hown2)
   have Df : Hid (Below W.heap.size W w2) := aa (HO.out.below aB.out hbs hgrow2)
   clear hown hown2 hgrow2 HO
   obtain ⟨A3, c3, e3, _⟩ := Gs.out.sk
   have e4 : (l ++ [128] ++ List.replicate (N + 1 - n - 1) 0).length = N + 1 := by simp [hn.out]; omega
   rw [e4] at e3
   subst e3
   clear e4
   go_wp2
   go_roundw
   case rel => exact ⟨N + 1, A3, c3, by omega, by omega, rfl, Gs, Df⟩
   case measure => simp [lenOf]; omega
theorem fu {P : Program} {fn : Func} {p q : Tmp} {ty : TypeId} (h : fn.results = #[.cell p ty, .tmp q]) (tmps : Array Value) (w : World) (a : Addr) (v u : Value)
  (hp : tmps.getD p undef = .pointer (some a)) (hq : tmps.getD q undef = u) (hl : (loadVar ty a).run P w = .ok v w) : (results fn tmps).run P w = .ok (.tuple #[v, u]) w := by
 have hp' : tmps[p]?.getD undef = .pointer (some a) := by simpa using hp
 have hq' : tmps[q]?.getD undef = u := by simpa using hq
 simp [results, h, hp', hq', asAddr, hl]
def PR (n : Int) : List Int := [n / 16777216 % 256, n / 65536 % 256, n / 256 % 256, n % 256]
section
variable {P : Program}
theorem wpList_append_lies {ops : Array Oper} {rest : List Oper} {o : Oper} {a : Act} {w : World} {Q : Exit → Act → World → Prop} (hgd : o.guard = none) (s x : Operand) (t : TypeId)
  (ho : o.op = .call { callee := .builtin .append, args := #[s, x], argTypes := #[t, t] })
  (base : Nat) (e : TypeId) (i : TypeInfo) (z : Value) (size bytes : Nat) (ht : P.underlying t = some (.slice e)) (hi : P.info? e = some i) (hz : i.zero = some z)
  (hsize : i.size = size) (hby : i.bytes = bytes) (hzs : z.cells.size = size) (hsz : 0 < size)
  (v : Value) (n : Nat) (xs : List Value) (hs : a.eval s = v) (hown : w.ownsRow base e size v n xs)
  (ad : Addr) (m c : Nat) (news : List Value) (hx : a.eval x = .slice (some ad) m c) (hl : news.length = m * size) (hnews : ∀ j u, news[j]? = some u → w.cell? (ad.add j) = some u) (h1 : ∀ u ∈ news, u.oneCell' = true)
  (hm : 0 < m) (h63 : n + m ≤ maxLen) (hbytes : (n + m) * bytes ≤ 140737488355328) (hbase : base ≤ w.heap.size) (H : Nat) (hH : w.heap.size = H)
  (h : ∀ g cap w', w'.ownsRow base e size (.slice (some ⟨g, 0, none⟩) (n + m) cap) (n + m) (xs ++ news) → w.grownBy w' v.ownBlock → (v.ownBlock = some g ∨ g = H) → g < w'.heap.size → wpList P ops Q rest (a.put o.dst (.slice (some ⟨g, 0, none⟩) (n + m) cap)) w') :
  wpList P ops Q (o :: rest) a w :=
 wpList_plain hgd fun _ hK => wp_append_lies w s x t ho base e i z size bytes ht hi hz hsize hby hzs hsz v n xs hs hown ad m c news hx hl hnews h1 hm h63 hbytes hbase H hH fun g cap w' a1 a2 a3 a4 => hK _ _ (h g cap w' a1 a2 a3 a4)
end
def Ma (s : Nat) (n : Int) : List Int := if s = 8 then jh n else PR n
theorem Ff {s : Nat} (h : s = 4 ∨ s = 8) (n : Int) (j : Nat) (hj : j < s) : (Ma s n).getD j 0 = n / 2 ^ (8 * (s - 1 - j)) % 256 := by
 rcases h with rfl | rfl
 · rcases (show j = 0 ∨ j = 1 ∨ j = 2 ∨ j = 3 by omega) with rfl | rfl | rfl | rfl <;> simp [Ma, PR]
 · rcases (show j = 0 ∨ j = 1 ∨ j = 2 ∨ j = 3 ∨ j = 4 ∨ j = 5 ∨ j = 6 ∨ j = 7 by omega) with rfl | rfl | rfl | rfl | rfl | rfl | rfl | rfl <;> simp [Ma, jh]
theorem vL (w : World) (a j : Nat) (v : Value) : w.grownBy (w.setCell ⟨a, j, none⟩ v) (some a) :=
 ⟨rfl, rfl, rfl, by simp [World.setCell], fun k hk hne => by
  have : a ≠ k := fun e => hne (by rw [e])
  simp [World.setCell, Array.getElem?_modify, this]⟩
theorem iJ {P : Program} {fn : Func} {p : Tmp} {ty : TypeId} (h : fn.results = #[.cell p ty]) (tmps : Array Value) (w : World) (a : Addr) (v : Value)
  (hp : tmps.getD p undef = .pointer (some a)) (hl : (loadVar ty a).run P w = .ok v w) : (results fn tmps).run P w = .ok v w := by
 have hp' : tmps[p]?.getD undef = .pointer (some a) := by simpa using hp
 simp [results, h, hp', asAddr, hl]
theorem mH {P : Program} {S : World → Prop} {o : Oper} {a : Act} (ty : TypeId) (x : Operand) (ho : o.op = .load ty x)
  (g : Nat) (hx : a.eval x = .pointer (some ⟨g, 0, none⟩)) (t : TypeId) (cs : Array Value) (fr : Nat × Nat) (d : TypeDesc) (hg : ∀ w, S w → w.heap[g]? = some (.cells cs t fr))
  (hu : P.underlying ty = some d) (hd : (match d with | .struct _ | .array _ _ => true | _ => false) = true) (hi : (P.info? ty).map (·.size) = some cs.size) :
  ∀ w, S w → (execOp a.eval o).run P w = .ok (.value (.agg cs)) w := fun w hw => by
 unfold execOp
 simp only [ho, hx, Instr.loadAt, Instr.sureAddr, Sem.run_bind, Sem.run_pure, Result.andThen_ok, run_loadVar_row w g t ty cs fr d (hg w hw) hu hd hi]
def aC (h : List Int) (c : Int) : Array Value := arr .u8 h ++ #[.int .i64 c]
theorem G5 : ∀ h : List Int, h.length = 32 → ∃ a0 a1 a2 a3 a4 a5 a6 a7 a8 a9 Mi Mh a12 Mg Mf Me a16 a17 Md Mc a20 a21 a22 a23 a24 a25 a26 a27 a28 a29 a30 a31, h = [a0, a1, a2, a3, a4, a5, a6, a7, a8, a9, Mi, Mh, a12, Mg, Mf, Me, a16, a17, Md, Mc, a20, a21, a22, a23, a24, a25, a26, a27, a28, a29, a30, a31]
 | [a0, a1, a2, a3, a4, a5, a6, a7, a8, a9, Mi, Mh, a12, Mg, Mf, Me, a16, a17, Md, Mc, a20, a21, a22, a23, a24, a25, a26, a27, a28, a29, a30, a31], _ => ⟨a0, a1, a2, a3, a4, a5, a6, a7, a8, a9, Mi, Mh, a12, Mg, Mf, Me, a16, a17, Md, Mc, a20, a21, a22, a23, a24, a25, a26, a27, a28, a29, a30, a31, rfl⟩
theorem bS {P : Program} {ops : Array Oper} {rest : List Oper} {o : Oper} {a : Act} {w : World} {Q : Exit → Act → World → Prop} (hg : o.guard = none) (t : TypeId) (l : List (Nat × Operand)) (ho : o.op = .build t l.toArray) (cells : Array Value)
  (hf : P.built t (l.map fun x => (x.1, a.eval x.2)) = some cells) (h : wpList P ops Q rest (a.put o.dst (.agg cells)) w) : wpList P ops Q (o :: rest) a w := by
 have e : (l.toArray.map fun (x : Nat × Operand) => (x.1, a.eval x.2)).toList = l.map fun x => (x.1, a.eval x.2) := by simp
 refine wpList_build hg t l.toArray ho ?_ ?_
 ·
  show (P.built t (l.toArray.map fun (x : Nat × Operand) => (x.1, a.eval x.2)).toList).isSome = true
  rw [e, hf]; rfl
 ·
  show wpList P ops Q rest (a.put o.dst (.agg ((P.built t (l.toArray.map fun (x : Nat × Operand) => (x.1, a.eval x.2)).toList).getD #[]))) w
  rw [e, hf]; exact h
theorem jr {h : List Int} {c : Int} (hl : h.length = 32) : (aC h c).size = 33 := by simp [aC, aI, hl]
theorem aF (h : List Int) (c : Int) : (aC h c).all (·.oneCell') = true := by simp [aC, arr, Value.oneCell']
theorem I9 : (#[.int .u8 0, .int .u8 0, .int .u8 0, .int .u8 0, .int .u8 0, .int .u8 0, .int .u8 0, .int .u8 0, .int .u8 0, .int .u8 0, .int .u8 0, .int .u8 0, .int .u8 0, .int .u8 0, .int .u8 0, .int .u8 0, .int .u8 0, .int .u8 0, .int .u8 0, .int .u8 0, .int .u8 0, .int .u8 0, .int .u8 0, .int .u8 0, .int .u8 0, .int .u8 0, .int .u8 0, .int .u8 0, .int .u8 0, .int .u8 0, .int .u8 0, .int .u8 0, .int .i64 0] : Array Value) = aC (aH 32) 0 := rfl
theorem dK {h h' : List Int} {c c' : Int} (hl : h.length = 32) (hl' : h'.length = 32) : (aC h c).size = (aC h' c').size := by rw [jr hl, jr hl']
theorem a_ {P : Program} {fn : Func} {p q r : Tmp} {ty : TypeId} (h : fn.results = #[.cell p ty, .tmp q, .tmp r]) (tmps : Array Value) (w : World) (a : Addr) (v u x : Value)
  (hp : tmps.getD p undef = .pointer (some a)) (hq : tmps.getD q undef = u) (hr : tmps.getD r undef = x) (hl : (loadVar ty a).run P w = .ok v w) : (results fn tmps).run P w = .ok (.tuple #[v, u, x]) w := by
 have hp' : tmps[p]?.getD undef = .pointer (some a) := by simpa using hp
 have hq' : tmps[q]?.getD undef = u := by simpa using hq
 have hr' : tmps[r]?.getD undef = x := by simpa using hr
 simp [results, h, hp', hq', hr', asAddr, hl]
def uL (h : List Int) (c n e : Int) : Value := .tuple #[.agg (aC h c), .int .i64 n, .int .i64 e]
theorem gz (w : World) (a : Nat) (cs : Array Value) : w.grownBy (w.setRow a cs) (some a) :=
 ⟨rfl, rfl, rfl, by simp [World.setRow], fun k hk hne => setRow_other w a k cs (fun e => hne (by rw [e]))⟩
theorem J9 : (Tryz.prog.info? 27).map (·.size) = some 33 := by kernel_rfl
theorem aj {h : List Int} {c : Int} (hl : h.length = 32) : (Tryz.prog.info? 27).map (·.size) = some (aC h c).size := J9.trans (congrArg some (jr hl).symm)
def aG (w : World) (b : Nat) (h : List Int) (c : Int) : Prop := w.heap[b]? = some (.cells (aC h c) 27 (0, 0))
theorem aG.below {w w' : World} {b : Nat} {h : List Int} {c : Int} (hh : aG w b h c) (hb : Below w.heap.size w w') : aG w' b h c := (hb.block b (Array.getElem?_eq_some_iff.1 hh).1).trans hh
theorem aG.new (w : World) (h : List Int) (c : Int) : aG (w.alloc (.cells (aC h c) 27)) w.heap.size h c := heap_alloc_new _ _
theorem aG.lt {w : World} {b : Nat} {h : List Int} {c : Int} (hh : aG w b h c) : b < w.heap.size := (Array.getElem?_eq_some_iff.1 hh).1
theorem aG.count {w : World} {b : Nat} {h : List Int} {c : Int} (hh : aG w b h c) (hl : h.length = 32) : w.cell? ⟨b, 32, none⟩ = some (.int .i64 c) := by
 rw [ai hh, aC, Array.getElem?_append_right (by rw [aI, hl]; exact Nat.le_refl _), aI, hl]
 rfl
theorem aG.sk {w : World} {b : Nat} {h : List Int} {c : Int} (hh : aG w b h c) : Sk .u8 w (some ⟨b, 0, none⟩) h := fun j hj => ⟨b, 0, rfl, by
 rw [Nat.zero_add, ai hh, aC, Array.getElem?_append_left (by rw [aI]; exact hj)]
 exact yu hj⟩
theorem aG.setRow {w : World} {b : Nat} {h h' : List Int} {c c' : Int} (hh : aG w b h c) : aG (w.setRow b (aC h' c')) b h' c' := setRow_heap w b _ _ _ _ hh
def oN (c : Int) : Bool := decide (0 ≤ c) && decide (c ≤ 1099511627776)
theorem dN (h : List Int) (hl : Hid (h.length = 32)) (c : Int) (r : Bool) (hr : Hid (oN c = r)) (w : World) :
  Calls Tryz.prog 21 #[.agg (aC h c)] w (Rt w (.bool r)) := by
 have hc := (aG.new w h c).count hl.out
 by_cases h0 : 0 ≤ c
 ·
  have d1 : decide ((0 : Int) ≤ c) = true := by simp [h0]
  obtain ⟨t, ht⟩ : ∃ t, decide (c ≤ 1099511627776) = t := ⟨_, rfl⟩
  obtain rfl : t = r := by rw [← hr.out, oN, d1, ht]; rfl
  clear hr
  go_in
  go_wp2
  go_ret
  exact ⟨by first | rfl | (rw [ht]), af _ _⟩
 ·
  have d1 : decide ((0 : Int) ≤ c) = false := by simp; omega
  obtain rfl : r = false := by rw [← hr.out, oN, d1]; rfl
  clear hr
  go_in
  go_wp2
  go_ret
  exact ⟨rfl, af _ _⟩
theorem kT (h : List Int) (hl : Hid (h.length = 32)) (c : Int) (hv : Hid (oN c = true)) (n lo hi : Int) (h1 : lo ≤ n) (h2 : n ≤ hi) (w : World) :
  Calls Tryz.prog 60 #[.agg (aC h c), .int .i64 n, .int .i64 lo, .int .i64 hi] w (Rt w (.int .i64 0)) := by
 have HT0 : Hid (aG (w.alloc (.cells (aC h c) 27)) w.heap.size h c) := aa (aG.new _ _ _)
 have hb0 := af w (.cells (aC h c) 27)
 obtain ⟨W, hW⟩ : ∃ W, w.alloc (.cells (aC h c) 27) = W := ⟨_, rfl⟩
 rw [hW] at HT0 hb0
 have HB0 := aa hb0
 have HW := aa hW
 have d1 : decide (n < lo) = false := by simp; omega
 have d2 : decide (hi < n) = false := by simp; omega
 clear hW hb0
 go_in
 go_upto_region 1 with (fail)
 rw [HW.out]
 clear HW
 go_wp2_with ((with_reducible show wpList _ _ _ (⟨some 10, _, _, _, _, _⟩ :: _) _ _); refine wpList_load_row rfl 27 _ rfl w.heap.size rfl _ _ _ _ HT0.out Tryz.underlying27 rfl (aj hl.out) ?_)
 refine (dN h hl c true hv _).mono ?_
 rintro e w1 ⟨rfl, hb1⟩
 have eP := ag HB0.out hb1
 go_wp2
 go_ret
 exact ⟨rfl, eP⟩
theorem oO (h : List Int) (hl : Hid (h.length = 32)) (c : Int) (hc0 : 0 ≤ c) (hc1 : c ≤ 1099511627776) (w : World) :
  Calls Tryz.prog 106 #[.agg (aC h c)] w (NS .u8 5 (h ++ jh c) w) := by
 obtain ⟨i1, hi1, hy0, hy1, hy2⟩ := info_parts uz
 have HT0 : Hid (aG (w.alloc (.cells (aC h c) 27)) w.heap.size h c) := aa (aG.new _ _ _)
 have hb0 := af w (.cells (aC h c) 27)
 have Dq : Hid ((w.alloc (.cells (aC h c) 27)).heap.size = w.heap.size + 1) := aa (by simp)
 obtain ⟨W, hW⟩ : ∃ W, w.alloc (.cells (aC h c) 27) = W := ⟨_, rfl⟩
 rw [hW] at HT0 hb0 Dq
 have HB0 := aa hb0
 have HW := aa hW
 clear hW hb0
 go_in
 go_upto_region 1 with (fail)
 rw [HW.out]
 clear HW
 have HT1 := aa (HT0.out.below (af W (.cells #[] 5)))
 have hrow : (W.alloc (.cells #[] 5)).ownsRow W.heap.size 5 1 (.slice (some ⟨W.heap.size, 0, none⟩) 0 0) 0 [] := ⟨rfl, Or.inr ⟨W.heap.size, 0, #[], rfl, Nat.le_refl _, heap_alloc_new _ _, Nat.le_refl _, by decide, rfl, rfl⟩⟩
 have b1 : 0 + 32 ≤ maxLen := by unfold maxLen; omega
 have b2 : (0 + 32) * 1 ≤ 140737488355328 := by omega
 have b3 : W.heap.size ≤ (W.alloc (.cells #[] 5)).heap.size := by simp
 have hlen : (h.map (Value.int .u8)).length = 32 * 1 := by simp [hl.out]
 go_upto_region 2 with (at_builtin; refine wpList_append_lies rfl _ _ 132 rfl W.heap.size 5 i1 (.int .u8 0) 1 1 Tryz.underlying132 hi1 hy0 hy1 hy2 rfl (by decide) (.slice (some ⟨W.heap.size, 0, none⟩) 0 0) _ _ rfl hrow ⟨w.heap.size, 0, none⟩ 32 32 (h.map (.int .u8)) rfl hlen HT1.out.sk.news (ints_oneCell .u8 _) (by decide) b1 b2 b3 _ rfl ?_; intro g1 Iu w1 hown1 hgrow1 Nz hlt1)
 have Sv : Hid (bN .u8 5 w1 W.heap.size (.slice (some ⟨g1, 0, none⟩) 32 Iu) (h ++ (jh c).take 0)) := aa (by unfold bN; rw [List.take_zero, List.append_nil, hl.out]; simpa using hown1)
 have HB1 : Hid (Below W.heap.size W w1) := aa (((Below.refl W.heap.size W).alloc (Nat.le_refl _) (.cells #[] 5)).grown hgrow1 (by simp) (fun j hj => by cases hj; exact Nat.le_refl _))
 clear hown1 hgrow1 Nz hlt1 hrow b1 b2 b3 hlen HT1
 go_wp2_with fail
 go_loopw [3, 4] (fun p i u => ∃ k : Nat, k ≤ 8 ∧ i = .int .i64 (56 - 8 * (k : Int)) ∧ Hid (bN .u8 5 u W.heap.size p (h ++ (jh c).take k)) ∧ Hid (Below W.heap.size W u)) (fun _ i _ => (intOf i + 8).toNat)
 case atStart => exact ⟨0, by omega, by simp, Sv, HB1⟩
 case round =>
  obtain ⟨k, hk, rfl, HO, aB⟩ := hrel
  by_cases hlt : k < 8
  ·
   have d1 : decide ((0 : Int) ≤ 56 - 8 * (k : Int)) = true := by simp; omega
   obtain ⟨q, hq⟩ : ∃ q, c / 2 ^ (56 - 8 * k) = q := ⟨_, rfl⟩
   have IC : Hid ((jh c).take (k + 1) = (jh c).take k ++ [q % 256]) := aa (by
    rw [take_one (show k < (jh c).length by rw [fG]; exact hlt)]
    have h2 := Ff (s := 8) (Or.inr rfl) c k hlt
    rw [show Ma 8 c = jh c from rfl] at h2
    rw [h2, ← hq, show 8 * (8 - 1 - k) = 56 - 8 * k by omega])
   have ic : Hid ((h ++ (jh c).take k).length = 32 + k) := aa (by rw [List.length_append, List.length_take, fG, hl.out]; omega)
   have j0 : (0 : Int) ≤ 56 - 8 * (k : Int) := by omega
   have j1 : (56 - 8 * (k : Int)).toNat = 56 - 8 * k := by omega
   have hown := HO.out.row ic.out
   have hbs := aB.out.size
   have hcnt := (HT0.out.below aB.out).count hl.out
   have b1 : 32 + k + 1 ≤ maxLen := by unfold maxLen; omega
   have b2 : (32 + k + 1) * 1 ≤ 140737488355328 := by omega
   have b3 : W.heap.size ≤ (wr.alloc (.cells #[.int .u8 (q % 256)] 5)).heap.size := by simp; omega
   go_wp2_with (at_builtin; refine wpList_append_lies rfl _ _ 132 rfl W.heap.size 5 i1 (.int .u8 0) 1 1 Tryz.underlying132 hi1 hy0 hy1 hy2 rfl (by decide) u3 _ _ rfl (hown.alloc _) ⟨wr.heap.size, 0, none⟩ 1 1 [.int .u8 (q % 256)] rfl rfl (World.news_of_block (cs := #[.int .u8 (q % 256)]) (t := 5) (fr := (0, 0)) (heap_alloc_new wr _)) (by simp [Value.oneCell']) (by decide) b1 b2 b3 _ rfl ?_; intro gg cap wz hown1 hgrow hat hlt2)
   have zI : Hid (bN .u8 5 wz W.heap.size (.slice (some ⟨gg, 0, none⟩) (32 + k + 1) cap) (h ++ (jh c).take (k + 1))) := aa (by
    rw [IC.out, ← List.append_assoc]
    exact bN.app (ys := [q % 256]) ic.out.symm rfl hown1)
   have HB2 : Hid (Below W.heap.size W wz) := aa ((aB.out.alloc hbs (.cells #[.int .u8 (q % 256)] 5)).grown hgrow (by simp; omega) (fun j hj => (World.ownsRow.lt hown j hj).1))
   clear hown1 hgrow hown hat hlt2 b1 b2 b3 hcnt
   go_wp2
   go_roundw
   case rel => exact ⟨k + 1, by omega, by go_num, zI, HB2⟩
   case measure => simp [intOf]; omega
  ·
   obtain rfl : k = 8 := by omega
   have HF : Hid (bN .u8 5 wr W.heap.size u3 (h ++ jh c)) := aa (by
    have h2 := HO.out
    rwa [List.take_of_length_le (by rw [fG]; exact Nat.le_refl _)] at h2)
   have eP := ag HB0.out aB.out
   have hz := HB0.out.size
   clear HO
   go_wp2
   go_ret
   exact ⟨_, rfl, HF.out.mono hz, eP⟩
end Go.Proofs.YticegghameafgaaGreatDoor
namespace Go.Proofs.YticegghameafgaaGreatDoor
open Go.ChangeShapes Go.WideShapes Go.ChangeAt Go.RowKit jk
def xu : Value := .agg (List.replicate 32 (Value.int .u8 0) ++ [Value.int .i64 0]).toArray
def Gz {H : Type} : DataW H := .agg [.agg (List.replicate 32 (.lit (Lit.int .u8 0))), .lit (Lit.int .i64 0)]
theorem uo {cl : List Value} : ∀ (k : Nat), (∀ i, i < k → ∃ z : Int, (cl.drop i).take 1 = [.int .u8 z] ∧ 0 ≤ z ∧ z < 256) → ∃ h : List Int, h.length = k ∧ cl.take k = h.map (.int .u8) ∧ ax h = true
 | 0, _ => ⟨[], rfl, by simp, rfl⟩
 | k + 1, hf => by
  obtain ⟨h, h1, h2, h3⟩ := uo k (fun i hi => hf i (by omega))
  obtain ⟨z, hz, z0, z1⟩ := hf k (by omega)
  refine ⟨h ++ [z], by simp [h1], by rw [List.take_add, h2, hz, List.map_append]; rfl, ?_⟩
  rw [gF, h3]
  simp [ax, z0, z1]
section
variable {H : Type} {enc : TypeId × Value → H} {w : World} {base : Nat} {held : Bool}
theorem zB : Tryz.prog.cellsOf 27 = 33 := by kernel_rfl
theorem zA : Tryz.prog.cellsOf 25 = 32 := by kernel_rfl
theorem yY {r : Reach} {b0 : Nat} {v : Value} {d : DataW H} {ps : List MemPlace} (hval : Value.okWide Tryz.prog w r b0 27 v) (hd : DataW.Trod enc Tryz.prog w base (fun _ => true) held 27 v d ps) :
  ∃ (h : List Int) (c : Int), v = .agg (aC h c) ∧ h.length = 32 ∧ ax h = true := by
 obtain ⟨cs, rfl, hsz⟩ := okWide_struct Tryz.underlying27 hval
 obtain ⟨n, h⟩ := hd
 obtain ⟨xs, m, rfl, _, hl, hxl, hf⟩ := DataW.trod_struct Tryz.underlying27 h
 rw [zB] at hl
 obtain ⟨cl⟩ := cs
 simp only [Value.cells] at hl hf
 have f0 : DataW.trod enc Tryz.prog w base (fun _ => true) held m 25 ((cl.drop 0).take (Tryz.prog.cellsOf 25)) = xs[0]? := hf 0 _ rfl
 have f1 : DataW.trod enc Tryz.prog w base (fun _ => true) held m 3 ((cl.drop 32).take (Tryz.prog.cellsOf 3)) = xs[1]? := hf 1 _ rfl
 rw [zA, List.drop_zero] at f0
 rw [uu] at f1
 have hl2 : xs.length = 2 := hxl
 match xs, hl2 with
 | [x0, x1], _ =>
  obtain ⟨c, hc, _, wc⟩ := DataW.trod_int Tryz.underlying3 f1
  obtain ⟨ys, m', _, _, _, hyl, Ra⟩ := DataW.trod_array Tryz.underlying25 f0
  obtain ⟨hh, h1, h2, h3⟩ := uo (cl := cl.take 32) 32 (fun i hi => by
   have fi := Ra i hi
   rw [yo, Nat.mul_one, List.getElem?_eq_getElem (by rw [hyl]; exact hi)] at fi
   obtain ⟨z, hz, _, wz⟩ := DataW.trod_int Tryz.underlying5 fi
   refine ⟨z, hz, ?_⟩
   simp [Lit.wf, IntKind.min, IntKind.max, IntKind.signed, IntKind.bits] at wz
   omega)
  refine ⟨hh, c, ?_, h1, h3⟩
  rw [List.take_take, Nat.min_self] at h2
  have e : cl = hh.map (.int .u8) ++ [.int .i64 c] := by
   rw [← h2, ← hc, ← List.take_append_drop 32 cl]
   congr 1
   · simp [List.take_append_drop]
   · rw [List.take_append_drop, List.take_of_length_le (by rw [List.length_drop, hl]; exact Nat.le_refl _)]
  rw [e]
  congr 1
  apply Array.ext'
  simp [aC, arr]
end
namespace jk
def Cg (q a b : Int) : Prop := ∃ t, a = b + q * t
theorem Cg.refl (q a : Int) : Cg q a a := ⟨0, by simp⟩
theorem Cg.symm {q a b : Int} (h : Cg q a b) : Cg q b a := by obtain ⟨t, h⟩ := h; exact ⟨-t, by rw [h]; grind⟩
theorem Cg.trans {q a b c : Int} (h : Cg q a b) (h2 : Cg q b c) : Cg q a c := by obtain ⟨t, h⟩ := h; obtain ⟨s, h2⟩ := h2; exact ⟨s + t, by rw [h, h2]; grind⟩
theorem Cg.add {q a b c d : Int} (h : Cg q a b) (h2 : Cg q c d) : Cg q (a + c) (b + d) := by obtain ⟨t, h⟩ := h; obtain ⟨s, h2⟩ := h2; exact ⟨s + t, by rw [h, h2]; grind⟩
theorem Cg.sub {q a b c d : Int} (h : Cg q a b) (h2 : Cg q c d) : Cg q (a - c) (b - d) := by obtain ⟨t, h⟩ := h; obtain ⟨s, h2⟩ := h2; exact ⟨t - s, by rw [h, h2]; grind⟩
theorem Cg.mul {q a b c d : Int} (h : Cg q a b) (h2 : Cg q c d) : Cg q (a * c) (b * d) := by obtain ⟨t, h⟩ := h; obtain ⟨s, h2⟩ := h2; exact ⟨b * s + d * t + q * s * t, by rw [h, h2]; grind⟩
theorem Cg.mod (q a : Int) : Cg q (a % q) a := ⟨-(a / q), by have := Int.emod_add_mul_ediv a q; grind⟩
theorem Cg.of_eq {q a b : Int} (h : a = b) : Cg q a b := h ▸ Cg.refl q a
theorem Cg.eq {q a b : Int} (h : Cg q a b) : a % q = b % q := by obtain ⟨t, h⟩ := h; rw [h, Int.add_mul_emod_self_left]
theorem Cg.of_mod {q a b : Int} (h : a % q = b % q) : Cg q a b := (Cg.mod q a).symm.trans (h ▸ Cg.mod q b)
def tp (xs : Nat → Int) (k : Nat) (x : Int) : Nat → Int
 | 0 => 1
 | m + 1 => if m = k then tp xs k x m else tp xs k x m * (x - xs m)
def gp (xs : Nat → Int) (x : Int) : Nat → Int
 | 0 => 1
 | m + 1 => gp xs x m * (x - xs m)
theorem qj (xs : Nat → Int) (k : Nat) (x : Int) : ∀ m, m ≤ k → tp xs k x m = gp xs x m
 | 0, _ => rfl
 | m + 1, h => by rw [tp, if_neg (by omega), gp, qj xs k x m (by omega)]
theorem qh (xs : Nat → Int) (k : Nat) (x : Int) : ∀ m, k < m → tp xs k x m * (x - xs k) = gp xs x m
 | 0, h => absurd h (by omega)
 | m + 1, h => by
  rw [tp, gp]
  by_cases e : m = k
  · subst e; rw [if_pos rfl, qj xs _ x _ (Nat.le_refl _)]
  · rw [if_neg e, ← qh xs k x m (by omega)]; grind
def sm (f : Nat → Int) : Nat → Int
 | 0 => 0
 | m + 1 => sm f m + f m
theorem Ar {q : Int} {f g : Nat → Int} : ∀ m, (∀ k, k < m → Cg q (f k) (g k)) → Cg q (sm f m) (sm g m)
 | 0, _ => Cg.refl _ _
 | m + 1, h => (Ar m fun k hk => h k (by omega)).add (h m (by omega))
theorem Au (f g : Nat → Int) (c : Int) : ∀ m, sm (fun k => f k + c * g k) m = sm f m + c * sm g m
 | 0 => by simp [sm]
 | m + 1 => by simp only [sm]; rw [Au f g c m]; grind
def nw (xs ys kp : Nat → Int) (x : Int) : Nat → Int
 | 0 => 0
 | m + 1 => nw xs ys kp x m + kp m * gp xs x m
theorem gH {q : Int} {xs ys kp : Nat → Int} {u : Nat → Nat → Int} {n : Nat}
  (hk : ∀ m, m < n → Cg q (kp m * gp xs (xs m) m) (ys m - nw xs ys kp (xs m) m))
  (hu : ∀ m k, m ≤ n → k < m → Cg q (u m k * tp xs k (xs k) m) 1) :
  ∀ m, m ≤ n → ∀ x, Cg q (nw xs ys kp x m) (sm (fun k => ys k * (tp xs k x m * u m k)) m)
 | 0, _, _ => Cg.refl _ _
 | m + 1, hm, x => by
  have ih := gH hk hu m (by omega)
  -- v: the inverse of gp (xs m) m
  have hv : Cg q (u (m + 1) m * gp xs (xs m) m) 1 := by
   have := hu (m + 1) m hm (by omega)
   rwa [tp, if_pos rfl, qj _ _ _ _ (Nat.le_refl _)] at this
  have hkm : Cg q (kp m) ((ys m - nw xs ys kp (xs m) m) * u (m + 1) m) := by
   have h1 : Cg q (kp m * (u (m + 1) m * gp xs (xs m) m)) (kp m * 1) := (Cg.refl _ _).mul hv
   have h2 := ((hk m (by omega)).mul (Cg.refl q (u (m + 1) m)))
   rw [Int.mul_one] at h1
   exact h1.symm.trans ((Cg.of_eq (by grind)).trans h2)
  have hF := ih x
  have hG := ih (xs m)
  -- each term
  have Ke : ∀ k, k < m → Cg q (ys k * (tp xs k x (m + 1) * u (m + 1) k)) (ys k * (tp xs k x m * u m k) + (-(u (m + 1) m * gp xs x m)) * (ys k * (tp xs k (xs m) m * u m k))) := by
   intro k hkm
   have e1 : tp xs k x (m + 1) = tp xs k x m * (x - xs m) := by rw [tp, if_neg (by omega)]
   have e2 : tp xs k (xs k) (m + 1) = tp xs k (xs k) m * (xs k - xs m) := by rw [tp, if_neg (by omega)]
   have e3 := qh xs k x m hkm
   have e4 := qh xs k (xs m) m hkm
   have h1 := hu (m + 1) k hm (by omega)
   have h2 := hu m k (by omega) hkm
   rw [e2] at h1
   rw [← e4] at hv
   rw [e1, ← e3]
   -- names
   generalize tp xs k x m = T at *
   generalize tp xs k (xs m) m = S at *
   generalize tp xs k (xs k) m = B at *
   generalize u (m + 1) k = a at *
   generalize u m k = b at *
   generalize u (m + 1) m = v at *
   generalize xs k = p at *
   generalize xs m = r at *
   -- a B (p - r) ≡ 1, b B ≡ 1, v S (r - p) ≡ 1; show T (x - r) a ≡ T b - v T (x - p) S b
   have hab : Cg q (a * (p - r)) b := by
    -- b ≡ b (a B (p - r)) = (b B) (a (p - r)) ≡ a (p - r)
    have q1 : Cg q (b * (a * (B * (p - r)))) (b * 1) := (Cg.refl _ _).mul h1
    have q2 : Cg q ((b * B) * (a * (p - r))) (1 * (a * (p - r))) := h2.mul (Cg.refl _ _)
    rw [Int.mul_one] at q1; rw [Int.one_mul] at q2
    exact q2.symm.trans ((Cg.of_eq (by grind)).trans q1)
   have hac : Cg q (v * S * b) (-a) := by
    -- v S b ≡ v S a (p - r) = -(v S (r - p)) a ≡ -a
    have q1 : Cg q (v * S * b) (v * S * (a * (p - r))) := (Cg.refl _ _).mul hab.symm
    have q2 : Cg q (v * (S * (r - p)) * (-a)) (1 * (-a)) := hv.mul (Cg.refl _ _)
    rw [Int.one_mul] at q2
    exact q1.trans ((Cg.of_eq (by grind)).trans q2)
   have q3 : Cg q (ys k * (T * b) + (-(T * (x - p))) * ys k * (v * S * b)) (ys k * (T * (a * (p - r))) + (-(T * (x - p))) * ys k * (-a)) :=
    ((Cg.refl _ _).mul ((Cg.refl _ _).mul hab.symm)).add ((Cg.refl _ _).mul hac)
   exact (Cg.of_eq (by grind)).trans (q3.symm.trans (Cg.of_eq (by grind)))
  have hs := Ar m Ke
  rw [Au] at hs
  rw [sm]
  rw [show tp xs m x (m + 1) = gp xs x m by rw [tp, if_pos rfl, qj _ _ _ _ (Nat.le_refl _)]]
  rw [nw]
  have h5 : Cg q (kp m * gp xs x m) ((ys m - sm (fun k => ys k * (tp xs k (xs m) m * u m k)) m) * u (m + 1) m * gp xs x m) :=
   (hkm.trans (((Cg.refl _ _).sub hG).mul (Cg.refl _ _))).mul (Cg.refl _ _)
  exact (hF.add h5).trans ((Cg.of_eq (by grind)).trans (hs.symm.add (Cg.refl _ _)))
def Un (q a : Int) : Prop := ∃ y, Cg q (y * a) 1
theorem Un.one (q : Int) : Un q 1 := ⟨1, Cg.refl _ _⟩
theorem Un.mul {q a b : Int} (h : Un q a) (h2 : Un q b) : Un q (a * b) := by
 obtain ⟨y, h⟩ := h
 obtain ⟨z, h2⟩ := h2
 exact ⟨y * z, (Cg.of_eq (by grind)).trans ((h.mul h2).trans (Cg.of_eq (by grind)))⟩
theorem Un.cg {q a b : Int} (h : Un q a) (h2 : Cg q a b) : Un q b := by
 obtain ⟨y, h⟩ := h
 exact ⟨y, ((Cg.refl q y).mul h2).symm.trans h⟩
theorem Un.neg {q a : Int} (h : Un q a) : Un q (-a) := by
 obtain ⟨y, h⟩ := h
 exact ⟨-y, (Cg.of_eq (by grind)).trans h⟩
theorem B_ {q : Int} {xs : Nat → Int} {x : Int} : ∀ m, (∀ j, j < m → Un q (x - xs j)) → Un q (gp xs x m)
 | 0, _ => Un.one q
 | m + 1, h => (B_ m fun j hj => h j (by omega)).mul (h m (by omega))
theorem Ai {q : Int} {xs : Nat → Int} {x : Int} {k : Nat} : ∀ m, (∀ j, j < m → j ≠ k → Un q (x - xs j)) → Un q (tp xs k x m)
 | 0, _ => Un.one q
 | m + 1, h => by
  rw [tp]
  by_cases e : m = k
  · rw [if_pos e]; exact Ai m fun j hj => h j (by omega)
  · rw [if_neg e]; exact (Ai m fun j hj => h j (by omega)).mul (h m (by omega) e)
def pv : List Int → Int → Int
 | [], _ => 0
 | c :: t, x => c + x * pv t x
def hv (q : Int) : List Int → Int → Int
 | [], _ => 0
 | c :: t, x => (hv q t x * x % q + c) % q
theorem FY (q : Int) : ∀ (f : List Int) (x : Int), Cg q (hv q f x) (pv f x)
 | [], _ => Cg.refl _ _
 | c :: t, x => (Cg.mod _ _).trans ((((Cg.mod _ _).trans ((FY q t x).mul (Cg.refl _ _))).add (Cg.refl _ _)).trans (Cg.of_eq (by rw [pv]; grind)))
theorem kP {q : Int} (hq : 0 < q) : ∀ (f : List Int) (x : Int), 0 ≤ hv q f x ∧ hv q f x < q
 | [], _ => ⟨Int.le_refl _, hq⟩
 | _ :: _, _ => ⟨Int.emod_nonneg _ (by omega), Int.emod_lt_of_pos _ hq⟩
theorem FX {q : Int} (hq : 0 < q) (f : List Int) (x : Int) : hv q f x = pv f x % q := by
 rw [← (FY q f x).eq, Int.emod_eq_of_lt (kP hq f x).1 (kP hq f x).2]
theorem xS {q x : Int} {f : List Int} {k : Nat} (hk : k < f.length) : hv q (f.drop k) x = (hv q (f.drop (k + 1)) x * x % q + f.getD k 0) % q := by
 rw [List.drop_eq_getElem_cons hk, hv, List.getD_eq_getElem?_getD, List.getElem?_eq_getElem hk]; rfl
theorem Bh (x : Int) : ∀ (f : List Int) (n : Nat) (v : Int), n < f.length → pv (f.set n v) x = pv f x + (v - f.getD n 0) * x ^ n
 | [], _, _, h => absurd h (by simp)
 | c :: t, 0, v, _ => by simp only [List.set_cons_zero, pv, List.getD_cons_zero]; grind
 | c :: t, n + 1, v, h => by
  simp only [List.set_cons_succ, pv, List.getD_cons_succ]
  rw [Bh x t n v (by simpa using h)]; grind
theorem iB (x : Int) : ∀ (f : List Int) (n : Nat), n < f.length → pv (f.take (n + 1)) x = pv (f.take n) x + f.getD n 0 * x ^ n
 | [], _, h => absurd h (by simp)
 | c :: t, 0, _ => by simp only [List.take_succ_cons, List.take_zero, pv, List.getD_cons_zero]; grind
 | c :: t, n + 1, h => by
  rw [List.take_succ_cons, List.take_succ_cons]
  simp only [pv, List.getD_cons_succ]
  rw [iB x t n (by simpa using h)]; grind
theorem sM (x : Int) : ∀ n, pv (List.replicate n 0) x = 0
 | 0 => rfl
 | n + 1 => by rw [List.replicate_succ, pv, sM x n]; grind
theorem En {x : Int} {f : List Int} {n : Nat} (hn : n + 1 ≤ f.length) (h0 : f.getD n 0 = 0) : pv (f.take (n + 1)) x = pv (f.take n) x := by
 rw [iB x f n (by omega), h0]; grind
theorem nM {n : Int} : ∀ l : List Int, az n l = some true → n ∈ l
 | [], h => by cases h
 | p :: ps, h => by
  by_cases e : n % p = 0
  ·
   rw [az, if_pos e] at h
   rw [of_decide_eq_true (Option.some.inj h)]; exact List.mem_cons_self ..
  ·
   rw [az, if_neg e] at h
   exact List.mem_cons_of_mem _ (nM ps h)
theorem nL {n : Int} : ∀ l : List Int, az n l = none → ∀ p ∈ l, n % p ≠ 0
 | [], _, p, hp => by cases hp
 | p :: ps, h, x, hx => by
  by_cases e : n % p = 0
  · rw [az, if_pos e] at h; cases h
  ·
   rw [az, if_neg e] at h
   cases hx with
   | head => exact e
   | tail _ hx => exact nL ps h x hx
theorem Bz {q : Int} (h : dB q = true) : q ∈ gI ∨ (q % 2 ≠ 0 ∧ q % 3 ≠ 0 ∧ q % 5 ≠ 0 ∧ q % 7 ≠ 0) := by
 have h2 := fB h
 cases hd : az q gI with
 | some b =>
  obtain rfl : b = true := (nH h2 hd).symm.trans h
  exact Or.inl (nM _ hd)
 | none =>
  have := nL _ hd
  exact Or.inr ⟨this 2 (by decide), this 3 (by decide), this 5 (by decide), this 7 (by decide)⟩
theorem DX : ∀ q ∈ gI, ∀ d ∈ [(1 : Int), 2, 3, 4, 5, 6, 7, 8], d < q → ∃ y ∈ [(1 : Int), 2, 3, 4, 5, 6, 7, 8, 9, 10, 11, 12, 13, 14, 15, 16, 17, 18, 19, 20, 21, 22, 23, 24, 25, 26, 27, 28, 29, 30, 31, 32, 33, 34, 35, 36], y * d % q = 1 := by decide +kernel
theorem JO {q y d : Int} (h : y * d % q = 1) : Un q d := ⟨y, (Cg.mod q (y * d)).symm.trans (Cg.of_eq h)⟩
theorem rY {q d : Int} (h : dB q = true) (h0 : 0 < d) (h8 : d ≤ 8) (hd : d < q) : Un q d := by
 rcases Bz h with hm | ⟨h2, h3, h5, h7⟩
 ·
  have hmem : d ∈ [(1 : Int), 2, 3, 4, 5, 6, 7, 8] := by
   have : d = 1 ∨ d = 2 ∨ d = 3 ∨ d = 4 ∨ d = 5 ∨ d = 6 ∨ d = 7 ∨ d = 8 := by omega
   rcases this with rfl | rfl | rfl | rfl | rfl | rfl | rfl | rfl <;> decide
  obtain ⟨y, _, hy⟩ := DX q hm d hmem hd
  exact JO hy
 ·
  have key : ∃ t y, y * d = 1 + q * t := by
   have : d = 1 ∨ d = 2 ∨ d = 3 ∨ d = 4 ∨ d = 5 ∨ d = 6 ∨ d = 7 ∨ d = 8 := by omega
   rcases this with rfl | rfl | rfl | rfl | rfl | rfl | rfl | rfl
   · exact ⟨0, 1, by omega⟩
   · exact ⟨1, (1 + q) / 2, by omega⟩
   ·
    rcases (show q % 3 = 1 ∨ q % 3 = 2 by omega) with e | e
    · exact ⟨2, (1 + q * 2) / 3, by omega⟩
    · exact ⟨1, (1 + q) / 3, by omega⟩
   ·
    rcases (show q % 4 = 1 ∨ q % 4 = 3 by omega) with e | e
    · exact ⟨3, (1 + q * 3) / 4, by omega⟩
    · exact ⟨1, (1 + q) / 4, by omega⟩
   ·
    rcases (show q % 5 = 1 ∨ q % 5 = 2 ∨ q % 5 = 3 ∨ q % 5 = 4 by omega) with e | e | e | e
    · exact ⟨4, (1 + q * 4) / 5, by omega⟩
    · exact ⟨2, (1 + q * 2) / 5, by omega⟩
    · exact ⟨3, (1 + q * 3) / 5, by omega⟩
    · exact ⟨1, (1 + q) / 5, by omega⟩
   ·
    rcases (show q % 6 = 1 ∨ q % 6 = 5 by omega) with e | e
    · exact ⟨5, (1 + q * 5) / 6, by omega⟩
    · exact ⟨1, (1 + q) / 6, by omega⟩
   ·
    rcases (show q % 7 = 1 ∨ q % 7 = 2 ∨ q % 7 = 3 ∨ q % 7 = 4 ∨ q % 7 = 5 ∨ q % 7 = 6 by omega) with e | e | e | e | e | e
    · exact ⟨6, (1 + q * 6) / 7, by omega⟩
    · exact ⟨3, (1 + q * 3) / 7, by omega⟩
    · exact ⟨2, (1 + q * 2) / 7, by omega⟩
    · exact ⟨5, (1 + q * 5) / 7, by omega⟩
    · exact ⟨4, (1 + q * 4) / 7, by omega⟩
    · exact ⟨1, (1 + q) / 7, by omega⟩
   ·
    rcases (show q % 8 = 1 ∨ q % 8 = 3 ∨ q % 8 = 5 ∨ q % 8 = 7 by omega) with e | e | e | e
    · exact ⟨7, (1 + q * 7) / 8, by omega⟩
    · exact ⟨5, (1 + q * 5) / 8, by omega⟩
    · exact ⟨3, (1 + q * 3) / 8, by omega⟩
    · exact ⟨1, (1 + q) / 8, by omega⟩
  obtain ⟨t, y, e⟩ := key
  exact ⟨y, t, e⟩
theorem qg {q a b : Int} (h : dB q = true) (ha : 1 ≤ a) (Ue : a ≤ 8) (haq : a < q) (hb : 0 ≤ b) (LK : b ≤ 8) (hbq : b < q) (hne : a ≠ b) : Un q (a - b) := by
 by_cases hlt : b < a
 · exact rY h (by omega) (by omega) (by omega)
 ·
  have := (rY h (show 0 < b - a by omega) (by omega) (by omega)).neg
  rwa [show -(b - a) = a - b by omega] at this
end jk
open Go.RowKit jk
def j6 (a m x : Int) : Prop := 0 ≤ x ∧ x < m ∧ (x * a % m = 1 ∨ (x = 0 ∧ ∀ y, y * a % m ≠ 1))
theorem qN {a m x y : Int} (hx : j6 a m x) (hy : j6 a m y) : x = y := by
 obtain ⟨x0, x1, hx⟩ := hx
 obtain ⟨y0, y1, hy⟩ := hy
 rcases hx with hx | ⟨rfl, hx⟩
 ·
  rcases hy with hy | ⟨rfl, hy⟩
  ·
   have h1 : x * (y * a) % m = x % m := by rw [Int.mul_emod, hy, Int.mul_one, Int.emod_emod_of_dvd _ (Int.dvd_refl m)]
   have h2 : x * (y * a) % m = y % m := by
    rw [show x * (y * a) = y * (x * a) by rw [← Int.mul_assoc, ← Int.mul_assoc, Int.mul_comm x y], Int.mul_emod, hx, Int.mul_one, Int.emod_emod_of_dvd _ (Int.dvd_refl m)]
   have h3 := h1.symm.trans h2
   rwa [Int.emod_eq_of_lt x0 x1, Int.emod_eq_of_lt y0 y1] at h3
  · exact absurd hx (hy x)
 ·
  rcases hy with hy | ⟨rfl, hy⟩
  · exact absurd hy (hx y)
  · rfl
theorem GZ {a m d : Int} (h1 : d ∣ a) (h2 : d ∣ m) (h0 : 0 < d) (hne : d ≠ 1) (y : Int) : y * a % m ≠ 1 := by
 intro h
 have h3 : d ∣ y * a := Int.dvd_mul_of_dvd_right h1
 have h4 : d ∣ m * (y * a / m) := Int.dvd_mul_of_dvd_left h2
 have h5 : d ∣ y * a - m * (y * a / m) := Int.dvd_sub h3 h4
 have h6 : y * a - m * (y * a / m) = 1 := by have := Int.emod_add_mul_ediv (y * a) m; omega
 rw [h6] at h5
 have := Int.le_of_dvd (by omega) h5
 omega
def Fs (a m : Int) (w : World) (e : Ending) (w' : World) : Prop :=
 ∃ x r : Int, e = .returned (.tuple #[.int .i64 x, .int .i64 r]) ∧ j6 a m x ∧ ∃ n, w' = w.drewN n
theorem Ad (a m : Int) (h1 : 2 ≤ m) (h2 : m < 2305843009213693952) (ha0 : 0 ≤ a) (ha : a < m) (w : World) :
  Calls Tryz.prog 73 #[.int .i64 a, .int .i64 m] w (Fs a m w) := by
 have hc := aa (nR (by omega) h2 ha0 ha ha0 ha)
 go_in
 go_wp2_with (go_at_call 68; refine (dO _ _ _ _).mono ?_; rintro e w' ⟨rfl, rfl⟩; rw [hc.out])
 refine (vW a m (by omega) h2 ha0 ha _).mono ?_
 rintro e w' ⟨d, x, k, rfl, hx0, hx1, hd1, hd2, hd0, hd, hk, n, rfl⟩
 by_cases tO : d = 1
 ·
  have h1d : (d == 1) = true := by simp [tO]
  have Ru : (d != 1) = false := by simp [tO]
  have HX : Hid (j6 a m x) := aa ⟨hx0, hx1, .inl (by rw [hk, tO, Int.add_mul_emod_self_left]; exact fF h1)⟩
  clear hk hd1 hd2 hd0 hd tO
  go_wp2
  go_ret2
  exact ⟨x, 0, rfl, HX.out, n, rfl⟩
 ·
  have h1d : (d == 1) = false := by simp [tO]
  have Ru : (d != 1) = true := by simp [tO]
  have HX : Hid (j6 a m 0) := aa ⟨by omega, by omega, .inr ⟨rfl, GZ hd1 hd2 hd0 tO⟩⟩
  clear hk hd1 hd2 hd0 hd tO
  go_wp2
  go_ret2
  exact ⟨0, 10, rfl, HX.out, n, rfl⟩
noncomputable def fC (a m : Int) : Int := @dite _ (∃ x, j6 a m x) (Classical.propDecidable _) (fun h => Classical.choose h) (fun _ => 0)
theorem jP {a m x : Int} (h : j6 a m x) : fC a m = x := by
 have he : ∃ x, j6 a m x := ⟨x, h⟩
 unfold fC
 rw [dif_pos he]
 exact qN (Classical.choose_spec he) h
theorem qf (a b m v : Int) (hv : Hid (a * b % m = v)) (h2 : m < 2305843009213693952) (ha0 : 0 ≤ a) (ha : a < m) (hb0 : 0 ≤ b) (hb : b < m) (w : World) :
  Calls Tryz.prog 37 #[.int .i64 a, .int .i64 b, .int .i64 m] w fun e w' => e = .returned (.tuple #[.int .i64 v, .int .i64 0]) ∧ ∃ n, w' = w.drewN n := by
 rw [← hv.out]; exact xw a b m h2 ha0 ha hb0 hb w
theorem kE {Q x : Int} (h : aQ Q x = true) : 0 ≤ x := by simp [aQ] at h; exact h.1
theorem kF {Q x : Int} (h : aQ Q x = true) : x < Q := by simp [aQ] at h; exact h.2
theorem aT.keep {w w' : World} {B : Nat} {v : Value} {xs : List Int} (h : aT w B v xs) (hb : Below w.heap.size w w') : aT w' B v xs := by
 obtain ⟨h1, h2⟩ := h
 refine ⟨h1, h2.imp id ?_⟩
 rintro ⟨g, cap, cur, rfl, hg, hh, rest⟩
 exact ⟨g, cap, cur, rfl, hg, (hb.block g (Array.getElem?_eq_some_iff.1 hh).1).trans hh, rest⟩
theorem aT.mono {w : World} {B B' : Nat} {v : Value} {xs : List Int} (h : aT w B v xs) (hb : B' ≤ B) : aT w B' v xs := by
 obtain ⟨h1, h2⟩ := h
 refine ⟨h1, h2.imp id ?_⟩
 rintro ⟨g, cap, cur, rfl, hg, rest⟩
 exact ⟨g, cap, cur, rfl, by omega, rest⟩
theorem dU {w : World} {b : Nat} {xs : List Int} (h : Cells w b xs) : Sl w (some ⟨b, 0, none⟩) xs := fun k hk => ⟨b, 0, rfl, by rw [Nat.zero_add]; exact h k hk⟩
theorem lW {Q c : Int} (h0 : 0 ≤ c) (h1 : c < Q) : [c].all (aQ Q) = true := by simp [aQ]; omega
end Go.Proofs.YticegghameafgaaGreatDoor