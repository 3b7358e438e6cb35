/- Contracts and lemmas: Sha, Byt, DigA, DigB, DigC, LawKitD, LinA, LinB, Held, Many, Bx, DigD, DigE, DigF, Itm, EncA, EncD, RdgE, TrB, TrF, TrG, DrA, OpD, Base, KnA. -/
import Derived.WalkKit
import Derived.Laws.BitsAllLaws
import Derived.BigRegion
import Derived.Deep.WholeRow
import Derived.Deep.Cut
import Derived.ChangeMaps5
import Derived.Deep.RegionHeld3
import Derived.Deep.AppendLies
import Derived.Deep.MidRow
import Derived.Test.YticegghameafgaaGreatDoorTp1
set_option linter.unusedVariables false
set_option linter.unusedSimpArgs false
set_option maxRecDepth 100000
set_option maxHeartbeats 25600000
namespace Go.Proofs.YticegghameafgaaGreatDoor
open Go.RowKit
structure Kp (p : Prop) : Prop where
 out : p
def fq (x : Int) (n : Nat) : Int := bits .or .u32 (x / 2 ^ n) (IntKind.u32.wrap (x * 2 ^ (32 - n)))
def L_ (x : Int) : Int := bits .xor .u32 (bits .xor .u32 (fq x 7) (fq x 18)) (x / 8)
def L9 (x : Int) : Int := bits .xor .u32 (bits .xor .u32 (fq x 17) (fq x 19)) (x / 1024)
def add32 (x y : Int) : Int := IntKind.u32.wrap (x + y)
def Gm (l : List Int) : Int := add32 (add32 (add32 (l.getD (l.length - 16) 0) (L_ (l.getD (l.length - 15) 0))) (l.getD (l.length - 7) 0)) (L9 (l.getD (l.length - 2) 0))
def jR : Nat → List Int → List Int
 | 0, l => l
 | n + 1, l => jR n l ++ [Gm (jR n l)]
def iw (b : List Int) (i : Nat) : Int := b.getD i 0
def rX (b : List Int) (i : Nat) : Int := ((iw b (4 * i) * 256 + iw b (4 * i + 1)) * 256 + iw b (4 * i + 2)) * 256 + iw b (4 * i + 3)
def bJ (b : List Int) (n : Nat) : List Int := (List.range n).map (rX b)
def aU (b : List Int) : List Int := jR 48 (bJ b 16)
theorem dL (b : List Int) (n : Nat) : (bJ b n).length = n := by simp [bJ]
theorem rY (b : List Int) (n : Nat) : bJ b (n + 1) = bJ b n ++ [rX b n] := by simp [bJ, List.range_succ]
theorem rZ (n : Nat) (l : List Int) : (jR n l).length = l.length + n := by
 induction n with
 | zero => rfl
 | succ n ih => rw [jR, List.length_append, ih]; rfl
theorem gT (b : List Int) : (aU b).length = 64 := by rw [aU, rZ, dL]
structure St where
 (a b c d e f g h : Int)
def PV (x : Int) : Int := bits .xor .u32 (bits .xor .u32 (fq x 2) (fq x 13)) (fq x 22)
def Ma (x : Int) : Int := bits .xor .u32 (bits .xor .u32 (fq x 6) (fq x 11)) (fq x 25)
def Kl (x : Int) : Int := bits .xor .u32 4294967295 x
def Mx (e f g : Int) : Int := bits .xor .u32 (bits .and .u32 e f) (bits .and .u32 (Kl e) g)
def PX (a b c : Int) : Int := bits .xor .u32 (bits .xor .u32 (bits .and .u32 a b) (bits .and .u32 a c)) (bits .and .u32 b c)
def EC (s : St) (k w : Int) : Int := add32 (add32 (add32 (add32 s.h (Ma s.e)) (Mx s.e s.f s.g)) k) w
def Kj (s : St) : Int := add32 (PV s.a) (PX s.a s.b s.c)
def Mc (s : St) (k w : Int) : St := ⟨add32 (EC s k w) (Kj s), s.a, s.b, s.c, add32 s.d (EC s k w), s.e, s.f, s.g⟩
def KL : List Int := [
  0x428a2f98, 0x71374491, 0xb5c0fbcf, 0xe9b5dba5, 0x3956c25b, 0x59f111f1, 0x923f82a4, 0xab1c5ed5,
  0xd807aa98, 0x12835b01, 0x243185be, 0x550c7dc3, 0x72be5d74, 0x80deb1fe, 0x9bdc06a7, 0xc19bf174,
  0xe49b69c1, 0xefbe4786, 0x0fc19dc6, 0x240ca1cc, 0x2de92c6f, 0x4a7484aa, 0x5cb0a9dc, 0x76f988da,
  0x983e5152, 0xa831c66d, 0xb00327c8, 0xbf597fc7, 0xc6e00bf3, 0xd5a79147, 0x06ca6351, 0x14292967,
  0x27b70a85, 0x2e1b2138, 0x4d2c6dfc, 0x53380d13, 0x650a7354, 0x766a0abb, 0x81c2c92e, 0x92722c85,
  0xa2bfe8a1, 0xa81a664b, 0xc24b8b70, 0xc76c51a3, 0xd192e819, 0xd6990624, 0xf40e3585, 0x106aa070,
  0x19a4c116, 0x1e376c08, 0x2748774c, 0x34b0bcb5, 0x391c0cb3, 0x4ed8aa4a, 0x5b9cca4f, 0x682e6ff3,
  0x748f82ee, 0x78a5636f, 0x84c87814, 0x8cc70208, 0x90befffa, 0xa4506ceb, 0xbef9a3f7, 0xc67178f2]
def st0 : St := ⟨0x6a09e667, 0xbb67ae85, 0x3c6ef372, 0xa54ff53a, 0x510e527f, 0x9b05688c, 0x1f83d9ab, 0x5be0cd19⟩
def vC (ws : List Int) (s : St) : Nat → St
 | 0 => s
 | n + 1 => Mc (vC ws s n) (KL.getD n 0) (ws.getD n 0)
def Ja (s t : St) : St := ⟨add32 s.a t.a, add32 s.b t.b, add32 s.c t.c, add32 s.d t.d, add32 s.e t.e, add32 s.f t.f, add32 s.g t.g, add32 s.h t.h⟩
def vP (s : St) (b : List Int) : St := Ja s (vC (aU b) s 64)
def eO (p : List Int) (n : Nat) : List Int := (p.drop (64 * n)).take 64
def jk (p : List Int) : Nat → St
 | 0 => st0
 | n + 1 => vP (jk p n) (eO p n)
def jO (n : Int) : List Int := [n / 72057594037927936 % 256, n / 281474976710656 % 256, n / 1099511627776 % 256, n / 4294967296 % 256, n / 16777216 % 256, n / 65536 % 256, n / 256 % 256, n % 256]
def j5 (n : Nat) : Nat := (119 - n % 64) % 64
def j6 (b : List Int) : List Int := b ++ [128] ++ List.replicate (j5 b.length) 0 ++ jO (8 * b.length)
def St.list (s : St) : List Int := [s.a, s.b, s.c, s.d, s.e, s.f, s.g, s.h]
def nR (v : Int) : List Int := [v / 16777216 % 256, v / 65536 % 256, v / 256 % 256, v % 256]
def jH (s : St) : List Int := nR s.a ++ nR s.b ++ nR s.c ++ nR s.d ++ nR s.e ++ nR s.f ++ nR s.g ++ nR s.h
def xN (b : List Int) : List Int := jH (jk (j6 b) ((j6 b).length / 64))
def aA (l : List Int) : Bool := l.all fun x => decide (0 ≤ x) && decide (x < 256)
theorem fZ (n : Int) : (jO n).length = 8 := rfl
theorem jb (b : List Int) : (xN b).length = 32 := rfl
theorem nL (b : List Int) : (j6 b).length = b.length + 9 + j5 b.length := by simp [j6, fZ]; omega
theorem BH (b : List Int) : (j6 b).length % 64 = 0 := by rw [nL, j5]; omega
theorem tC (n : Int) : (decide (0 ≤ n % 256) && decide (n % 256 < 256)) = true := by simp; omega
theorem iq {a b : List Int} : aA (a ++ b) = (aA a && aA b) := by simp [aA]
theorem qp (n : Int) : aA (jO n) = true := by simp [aA, jO, tC]
theorem vJ (n : Int) : aA (nR n) = true := by simp [aA, nR, tC]
theorem vI (s : St) : aA (jH s) = true := by simp only [jH, iq, vJ, Bool.and_self]
theorem y8 (b : List Int) : aA (xN b) = true := vI _
theorem vH {b : List Int} (h : aA b = true) : aA (j6 b) = true := by
 simp only [j6, iq, h, qp, Bool.true_and, Bool.and_true]
 simp [aA]
theorem fJ {l : List Int} (h : aA l = true) (i : Nat) : 0 ≤ l.getD i 0 ∧ l.getD i 0 < 256 := by
 by_cases hi : i < l.length
 ·
  have := List.all_eq_true.1 h _ (List.getElem_mem hi)
  rw [List.getD_eq_getElem?_getD, List.getElem?_eq_getElem hi]
  simpa using this
 · rw [List.getD_eq_getElem?_getD, List.getElem?_eq_none (by omega)]; simp
theorem uE {l : List Int} (h : aA l = true) (n : Nat) : aA (l.take n) = true :=
 List.all_eq_true.2 fun x hx => List.all_eq_true.1 h x (List.mem_of_mem_take hx)
theorem uF {l : List Int} (h : aA l = true) (n : Nat) : aA (l.drop n) = true :=
 List.all_eq_true.2 fun x hx => List.all_eq_true.1 h x (List.mem_of_mem_drop hx)
theorem pF {p : List Int} (h : aA p = true) (n : Nat) : aA (eO p n) = true := uE (uF h _) _
theorem uH {p : List Int} {n : Nat} (h : 64 * n + 64 ≤ p.length) : (eO p n).length = 64 := by simp [eO]; omega
theorem rA (a b : Int) : bits .or .u32 a b = bits .or .u32 b a := by
 simp only [bits]
 rw [BitVec.or_comm]
end Go.Proofs.YticegghameafgaaGreatDoor
namespace Go.Proofs.YticegghameafgaaGreatDoor
open Go.RowKit jq
def Sk (K : IntKind) (w : World) (A : Option Addr) (xs : List Int) : Prop := ∀ j, j < xs.length → ∃ b o, A = some ⟨b, o, none⟩ ∧ w.cell? ⟨b, o + j, none⟩ = some (.int K (xs.getD j 0))
variable {K : IntKind}
theorem PU (w : World) (A : Option Addr) : Sk K w A [] := fun k hk => absurd hk (by simp)
theorem Sk.below {w w' : World} {A : Option Addr} {xs : List Int} (h : Sk K w A xs) (hb : Below w.heap.size w w') : Sk K w' A xs := fun k hk => by
 obtain ⟨b, o, h1, h2⟩ := h k hk
 exact ⟨b, o, h1, (hb.cell (World.block_lt_of_cell? _ _ h2)).trans h2⟩
theorem Sk.lt {w : World} {b o : Nat} {xs : List Int} (h : Sk K w (some ⟨b, o, none⟩) xs) (h0 : 0 < xs.length) : b < w.heap.size := by
 obtain ⟨b', o', e, hc⟩ := h 0 h0
 cases e
 exact World.block_lt_of_cell? _ _ hc
theorem Sk.cell {w : World} {b o : Nat} {xs : List Int} (h : Sk K w (some ⟨b, o, none⟩) xs) {j : Nat} (hj : j < xs.length) : w.cell? ⟨b, o + j, none⟩ = some (.int K (xs.getD j 0)) := by
 obtain ⟨b', o', e, hc⟩ := h j hj
 cases e
 exact hc
theorem Sk.drop {w : World} {b o n : Nat} {xs : List Int} (h : Sk K w (some ⟨b, o, none⟩) xs) : Sk K w (some ⟨b, o + n, none⟩) (xs.drop n) := fun j hj => by
 rw [List.length_drop] at hj
 refine ⟨b, o + n, rfl, ?_⟩
 rw [Nat.add_assoc, h.cell (j := n + j) (by omega)]
 simp [List.getD_eq_getElem?_getD, List.getElem?_drop]
theorem Sk.take {w : World} {A : Option Addr} {n : Nat} {xs : List Int} (h : Sk K w A xs) : Sk K w A (xs.take n) := fun j hj => by
 rw [List.length_take] at hj
 obtain ⟨b, o, h1, h2⟩ := h j (by omega)
 refine ⟨b, o, h1, ?_⟩
 rw [h2]
 simp [List.getD_eq_getElem?_getD, List.getElem?_take_of_lt (show j < n by omega)]
theorem Sk.nil_of {w : World} {A : Option Addr} {xs : List Int} (h : xs.length = 0) : Sk K w A xs := fun k hk => by omega
def dh (K : IntKind) (T : TypeId) (w : World) (base : Nat) (v : Value) (xs : List Int) : Prop := w.ownsRow base T 1 v xs.length (xs.map (Value.int K))
variable {T : TypeId}
theorem dh.app {w1 : World} {base k : Nat} {v' : Value} {xs ys : List Int} {m : Nat} (hk : k = xs.length) (hm : m = ys.length)
  (h : w1.ownsRow base T 1 v' (k + m) (xs.map (Value.int K) ++ ys.map (Value.int K))) : dh K T w1 base v' (xs ++ ys) := by
 unfold dh
 rw [List.length_append, List.map_append, ← hk, ← hm]
 exact h
theorem dh.below {w w1 wr : World} {B : Nat} {o : Obj} {v : Value} {xs : List Int} (h : dh K T wr B v xs) (hb : Below B w wr) (hB : B ≤ wr.heap.size) (hg : (wr.alloc o).grownBy w1 v.ownBlock) : Below B w w1 :=
 (hb.alloc hB o).grown hg (by simp; omega) (fun j hj => (World.ownsRow.lt h j hj).1)
theorem dh.below0 {w w1 wr : World} {B : Nat} {v : Value} {xs : List Int} (h : dh K T wr B v xs) (hb : Below B w wr) (hB : B ≤ wr.heap.size) (hg : wr.grownBy w1 v.ownBlock) : Below B w w1 :=
 hb.grown hg (by omega) (fun j hj => (World.ownsRow.lt h j hj).1)
theorem dh.cells {w : World} {B : Nat} {v : Value} {xs : List Int} (h : dh K T w B v xs) (hne : 0 < xs.length) : ∃ g cap, v = .slice (some ⟨g, 0, none⟩) xs.length cap ∧ B ≤ g ∧ xs.length ≤ cap ∧ cap ≤ maxLen ∧ Sk K w (some ⟨g, 0, none⟩) xs := by
 obtain ⟨h1, h2⟩ := h
 rcases h2 with ⟨_, h0⟩ | ⟨g, cap, cur, rfl, hg, hh, hn, hc, hs, ht⟩
 · omega
 ·
  refine ⟨g, cap, rfl, hg, hn, hc, fun j hj => ⟨g, 0, rfl, ?_⟩⟩
  rw [Nat.zero_add, ax hh]
  have e : cur.toList[j]? = (xs.map (Value.int K))[j]? := by
   rw [← ht, List.getElem?_take_of_lt (by omega)]
  rw [← Array.getElem?_toList, e, List.getElem?_map, List.getElem?_eq_getElem hj, List.getD_eq_getElem?_getD, List.getElem?_eq_getElem hj]
  rfl
theorem dh.sk {w : World} {B : Nat} {v : Value} {xs : List Int} (h : dh K T w B v xs) : ∃ A c, v = .slice A xs.length c ∧ Sk K w A xs ∧ (0 < xs.length → ∃ g, A = some ⟨g, 0, none⟩ ∧ B ≤ g) ∧ xs.length ≤ c := by
 by_cases h0 : 0 < xs.length
 ·
  obtain ⟨g, cap, rfl, hg, hn, _, hc⟩ := dh.cells h h0
  exact ⟨some ⟨g, 0, none⟩, cap, rfl, hc, fun _ => ⟨g, rfl, hg⟩, hn⟩
 ·
  have e : xs = [] := List.eq_nil_of_length_eq_zero (by omega)
  subst e
  obtain ⟨_, h2⟩ := h
  rcases h2 with ⟨hv, _⟩ | ⟨g, cap, cur, hv, _⟩
  · exact ⟨none, 0, hv, PU _ _, fun h => absurd h (by simp), by simp⟩
  · exact ⟨_, cap, hv, PU _ _, fun h => absurd h (by simp), by simp⟩
theorem dh.keep {w w' : World} {B : Nat} {v : Value} {xs : List Int} (h : dh K T w B v xs) (hb : Below w.heap.size w w') : dh K T w' B v xs := by
 obtain ⟨h1, h2⟩ := h
 refine ⟨h1, h2.imp id ?_⟩
 rintro ⟨g, cap, cur, rfl, hg, hh, rest⟩
 exact ⟨g, cap, cur, rfl, hg, (hb.block g (Array.getElem?_eq_some_iff.1 hh).1).trans hh, rest⟩
theorem dh.mono {w : World} {B B' : Nat} {v : Value} {xs : List Int} (h : dh K T w B v xs) (hb : B' ≤ B) : dh K T w B' v xs := by
 obtain ⟨h1, h2⟩ := h
 refine ⟨h1, h2.imp id ?_⟩
 rintro ⟨g, cap, cur, rfl, hg, rest⟩
 exact ⟨g, cap, cur, rfl, by omega, rest⟩
theorem dh.row {w : World} {B n : Nat} {v : Value} {xs : List Int} (h : dh K T w B v xs) (hn : xs.length = n) : w.ownsRow B T 1 v n (xs.map (Value.int K)) := by
 subst hn; exact h
def OC (K : IntKind) (T : TypeId) (xs : List Int) (w : World) (e : Ending) (w' : World) : Prop := ∃ v, e = .returned v ∧ dh K T w' w.heap.size v xs ∧ Below w.heap.size w w'
theorem wm {xs ys : List Int} {j : Nat} (h : j < xs.length) : (xs ++ ys).getD j 0 = xs.getD j 0 := by
 simp [List.getD_eq_getElem?_getD, List.getElem?_append_left h]
theorem wh {xs ys : List Int} {j : Nat} (h : xs.length ≤ j) : (xs ++ ys).getD j 0 = ys.getD (j - xs.length) 0 := by
 simp [List.getD_eq_getElem?_getD, List.getElem?_append_right h]
theorem take_one {xs : List Int} {k : Nat} (hk : k < xs.length) : xs.take (k + 1) = xs.take k ++ [xs.getD k 0] := by
 rw [List.take_add_one, List.getElem?_eq_getElem hk, List.getD_eq_getElem?_getD, List.getElem?_eq_getElem hk]
 rfl
def arr (K : IntKind) (l : List Int) : Array Value := (l.map (Value.int K)).toArray
theorem aS (l : List Int) : (arr K l).size = l.length := by simp [arr]
def bD (K : IntKind) (T : TypeId) (w : World) (b : Nat) (l : List Int) : Prop := w.heap[b]? = some (.cells (arr K l) T (0, 0))
theorem bD.below {w w' : World} {b : Nat} {l : List Int} (h : bD K T w b l) (hb : Below w.heap.size w w') : bD K T w' b l :=
 (hb.block b (Array.getElem?_eq_some_iff.1 h).1).trans h
theorem bD.keepB {w w' : World} {b B : Nat} {l : List Int} (h : bD K T w b l) (hlt : b < B) (hb : Below B w w') : bD K T w' b l := (hb.block b hlt).trans h
theorem bD.lt {w : World} {b : Nat} {l : List Int} (h : bD K T w b l) : b < w.heap.size := (Array.getElem?_eq_some_iff.1 h).1
theorem yK {l : List Int} {j : Nat} (hj : j < l.length) : (arr K l)[j]? = some (.int K (l.getD j 0)) := by
 simp [arr, List.getD_eq_getElem?_getD, List.getElem?_eq_getElem hj]
theorem bD.cell {w : World} {b j : Nat} {l : List Int} (h : bD K T w b l) (hj : j < l.length) : w.cell? ⟨b, j, none⟩ = some (.int K (l.getD j 0)) := (ax h j).trans (yK hj)
theorem bD.free {w : World} {b : Nat} {l : List Int} (h : bD K T w b l) (j : Nat) : w.frozen? ⟨b, j, none⟩ = false := bn h j
theorem FR {l : List Int} {j : Nat} {v : Int} : (arr K l).setIfInBounds j (.int K v) = arr K (l.set j v) := by
 apply Array.ext'
 simp [arr, List.map_set]
theorem bD.set {w : World} {b j : Nat} {l : List Int} {v : Int} (h : bD K T w b l) : bD K T (w.setCell ⟨b, j, none⟩ (.int K v)) b (l.set j v) := by
 unfold bD
 rw [heap_setCell_same w b j _ T _ h, FR]
theorem bD.set_ne {w : World} {b a j : Nat} {l : List Int} {v : Value} (h : bD K T w b l) (hne : b ≠ a) : bD K T (w.setCell ⟨a, j, none⟩ v) b l :=
 (heap_setCell_other w _ b v hne).trans h
theorem bD.setRow {w : World} {b : Nat} {l l' : List Int} (h : bD K T w b l) : bD K T (w.setRow b (arr K l')) b l' := setRow_heap w b _ _ T _ h
theorem bD.new (w : World) (l : List Int) : bD K T (w.alloc (.cells (arr K l) T)) w.heap.size l := heap_alloc_new _ _
theorem bD.old {w : World} {b : Nat} {l : List Int} (h : bD K T w b l) (o : Obj) : bD K T (w.alloc o) b l := (Below.heap_alloc w o b h.lt).trans h
theorem bD.drew {w : World} {b : Nat} {l : List Int} (h : bD K T w b l) (n : Nat) : bD K T (w.drewN n) b l := h.below (ay (Below.refl _ _) n)
theorem bD.sk {w : World} {b : Nat} {l : List Int} (h : bD K T w b l) : Sk K w (some ⟨b, 0, none⟩) l := fun j hj => ⟨b, 0, rfl, by rw [Nat.zero_add]; exact h.cell hj⟩
theorem dU (l : List Int) : (arr K l).all (·.oneCell') = true := by simp [arr, Value.oneCell']
theorem aj {B b : Nat} {w0 w : World} {cs : Array Value} (h : Below B w0 w) (hb : B ≤ b) : Below B w0 (w.setRow b cs) :=
 h.trans ⟨rfl, rfl, rfl, by simp [World.setRow], fun k hk => setRow_other w b k cs (by omega)⟩
end Go.Proofs.YticegghameafgaaGreatDoor
namespace Go.Proofs.YticegghameafgaaGreatDoor
open Go.RowKit
theorem KV : ∀ n : Nat, n < 32 → 1 ≤ n → bits .and .u64 (IntKind.u64.wrap (-(n : Int))) 31 = 32 - (n : Int) := by decide
theorem gu (x : Int) : IntKind.u32.wrap x = x % 4294967296 := by simp [IntKind.wrap, IntKind.bits, IntKind.signed]
theorem EB (x m s : Int) (n : Nat) (hs : Hid (bits .and .u64 (IntKind.u64.wrap m) 31 = s)) (hn : Hid (s = 32 - n)) (h0 : 0 ≤ s) (h1 : s ≤ 31) (w : World) :
  Calls Tryz.prog 119 #[.int .u32 x, .int .i64 m] w fun e w' => e = .returned (.int .u32 (fq x n)) ∧ w = w' := by
 have g1 : IntKind.u64.wrap (32 - s) = 32 - s := by simp [IntKind.wrap, IntKind.bits, IntKind.signed]; omega
 have g2 : 0 ≤ 32 - s := by omega
 have hs' := hs.out
 have HR : Hid (bits .or .u32 (x * 2 ^ s.toNat % 4294967296) (x / 2 ^ (32 - s).toNat) = fq x n) := aa (by
  have e1 : s.toNat = 32 - n := by have := hn.out; omega
  have e2 : (32 - s).toNat = n := by have := hn.out; omega
  rw [e1, e2, fq, rA, gu])
 clear hs hn
 go_in
 go_wp2
 go_ret
 exact ⟨by rw [HR.out]; rfl, rfl⟩
theorem eZ (x N : Int) (n : Nat) (hN : N = n) (h1 : 1 ≤ n) (h2 : n < 32) (w : World) :
  Calls Tryz.prog 118 #[.int .u32 x, .int .i64 N] w fun e w' => e = .returned (.int .u32 (fq x n)) ∧ w = w' := by
 subst hN
 have HS := aa (KV n h2 h1)
 have hm' : wrap64 (-(n : Int)) = -(n : Int) := IntWalk.wrap64_in _ (by omega)
 go_in
 go_wp2_with fail
 refine (EB x _ _ n HS (aa rfl) (by omega) (by omega) _).mono ?_
 rintro e w' ⟨rfl, rfl⟩
 go_wp2
 go_ret
 exact ⟨rfl, rfl⟩
theorem zh (x N : Int) (h1 : 1 ≤ N) (h2 : N < 32) (w : World) :
  Calls Tryz.prog 118 #[.int .u32 x, .int .i64 N] w fun e w' => e = .returned (.int .u32 (fq x N.toNat)) ∧ w = w' :=
 eZ x N N.toNat (by omega) (by omega) (by omega) w
end Go.Proofs.YticegghameafgaaGreatDoor
namespace Go.Proofs.YticegghameafgaaGreatDoor
open Go.RowKit jq
theorem EX {p c : Int} (h0 : 0 ≤ p) (h1 : p < 16777216) (c0 : 0 ≤ c) (c1 : c < 256) : bits .or .u32 (p * 256) c = p * 256 + c := by
 obtain ⟨P, rfl⟩ := Int.eq_ofNat_of_zero_le h0
 obtain ⟨C, rfl⟩ := Int.eq_ofNat_of_zero_le c0
 have e1 : ((P : Int) * 256) = ((P * 256 : Nat) : Int) := by omega
 rw [e1, u32_or _ _ (by omega) (by omega) (by omega) (by omega)]
 have e2 : 2 ^ 8 * P + C = 2 ^ 8 * P ||| C := Nat.two_pow_add_eq_or_of_lt (by omega) P
 have e3 : P * 256 ||| C = P * 256 + C := by rw [show P * 256 = 2 ^ 8 * P by omega, ← e2]
 simp only [Int.toNat_natCast]
 rw [e3]
 omega
def part (b : List Int) (i : Nat) : Nat → Int
 | 0 => 0
 | m + 1 => part b i m * 256 + iw b (4 * i + m)
theorem Kk (b : List Int) (i : Nat) : part b i 4 = rX b i := by simp [part, rX]
theorem ES {b : List Int} (h : aA b = true) (i m : Nat) : 0 ≤ part b i m := by
 induction m with
 | zero => exact Int.le_refl _
 | succ m ih => have := (fJ h (4 * i + m)).1; simp only [part, iw]; omega
theorem ET {b : List Int} (h : aA b = true) (i m : Nat) (hm : m ≤ 3) : part b i m < 16777216 := by
 have h0 := fJ h (4 * i)
 have h1 := fJ h (4 * i + 1)
 have h2 := fJ h (4 * i + 2)
 rcases (show m = 0 ∨ m = 1 ∨ m = 2 ∨ m = 3 by omega) with rfl | rfl | rfl | rfl
 · simp [part]
 · simp only [part, iw, Nat.add_zero]; omega
 · simp only [part, iw, Nat.add_zero]; omega
 · simp only [part, iw, Nat.add_zero]; omega
def aT (n : Nat) : List Int := List.replicate n 0
theorem GI : (#[.int .u32 0, .int .u32 0, .int .u32 0, .int .u32 0, .int .u32 0, .int .u32 0, .int .u32 0, .int .u32 0, .int .u32 0, .int .u32 0, .int .u32 0, .int .u32 0, .int .u32 0, .int .u32 0, .int .u32 0, .int .u32 0, .int .u32 0, .int .u32 0, .int .u32 0, .int .u32 0, .int .u32 0, .int .u32 0, .int .u32 0, .int .u32 0, .int .u32 0, .int .u32 0, .int .u32 0, .int .u32 0, .int .u32 0, .int .u32 0, .int .u32 0, .int .u32 0, .int .u32 0, .int .u32 0, .int .u32 0, .int .u32 0, .int .u32 0, .int .u32 0, .int .u32 0, .int .u32 0, .int .u32 0, .int .u32 0, .int .u32 0, .int .u32 0, .int .u32 0, .int .u32 0, .int .u32 0, .int .u32 0, .int .u32 0, .int .u32 0, .int .u32 0, .int .u32 0, .int .u32 0, .int .u32 0, .int .u32 0, .int .u32 0, .int .u32 0, .int .u32 0, .int .u32 0, .int .u32 0, .int .u32 0, .int .u32 0, .int .u32 0, .int .u32 0] : Array Value) = arr .u32 (aT 64) := by rfl
def wz (l : List Int) : List Int := l ++ aT (64 - l.length)
theorem uW {l : List Int} (h : l.length ≤ 64) : (wz l).length = 64 := by simp [wz, aT]; omega
theorem Ao {l : List Int} {x : Int} (h : l.length < 64) : (wz l).set l.length x = wz (l ++ [x]) := by
 obtain ⟨m, hm⟩ : ∃ m, 64 - l.length = m + 1 := ⟨63 - l.length, by omega⟩
 have hm2 : 64 - (l ++ [x]).length = m := by rw [List.length_append, List.length_singleton]; omega
 rw [wz, wz, hm, hm2, aT, List.replicate_succ, List.set_append_right _ _ (Nat.le_refl _), Nat.sub_self, List.set_cons_zero]
 simp [aT]
theorem J9 {l : List Int} : (wz l).getD l.length 0 = 0 := by
 rw [wz, wh (Nat.le_refl _), Nat.sub_self, aT, List.getD_eq_getElem?_getD, List.getElem?_replicate]
 split <;> rfl
theorem G5 {l : List Int} {j : Nat} (h : j < l.length) : (wz l).getD j 0 = l.getD j 0 := wm h
theorem set_self {l : List Int} {k : Nat} {x : Int} (h : l.getD k 0 = x) : l.set k x = l := by
 by_cases hk : k < l.length
 ·
  rw [List.getD_eq_getElem?_getD, List.getElem?_eq_getElem hk] at h
  subst h
  exact List.set_getElem_self hk
 · exact List.set_eq_of_length_le (by omega)
theorem uf {l : List Int} {k : Nat} {x : Int} (h : k < l.length) : (l.set k x).getD k 0 = x := by
 simp [List.getD_eq_getElem?_getD, h]
theorem Ap (b : List Int) : wz (jR 48 (bJ b 16)) = aU b := by
 have h := gT b
 unfold aU at h ⊢
 unfold wz
 rw [h]
 simp [aT]
theorem Ip : (Tryz.prog.info? 141).map (·.size) = some 64 := by kernel_rfl
theorem gQ (b : List Int) : (Tryz.prog.info? 141).map (·.size) = some (arr .u32 (aU b)).size := Ip.trans (congrArg some (by rw [aS, gT]))
theorem sK (b : List Int) : (arr .u32 (aT 64)).size = (arr .u32 (aU b)).size := by rw [aS, aS, gT]; rfl
theorem ze (b o cap : Nat) (blk : List Int) (hlen : Hid (blk.length = 64)) (hby : Hid (aA blk = true)) (w : World) (hs : Hid (Sk .u8 w (some ⟨b, o, none⟩) blk)) (hcap : 64 ≤ cap) (hcm : cap ≤ 9223372036854775807) :
  Calls Tryz.prog 117 #[.slice (some ⟨b, o, none⟩) 64 cap] w (Rt w (.agg (arr .u32 (aU blk)))) := by
 obtain ⟨W, hW⟩ : ∃ W, (w.alloc (.cells #[.int .u32 0, .int .u32 0, .int .u32 0, .int .u32 0, .int .u32 0, .int .u32 0, .int .u32 0, .int .u32 0, .int .u32 0, .int .u32 0, .int .u32 0, .int .u32 0, .int .u32 0, .int .u32 0, .int .u32 0, .int .u32 0, .int .u32 0, .int .u32 0, .int .u32 0, .int .u32 0, .int .u32 0, .int .u32 0, .int .u32 0, .int .u32 0, .int .u32 0, .int .u32 0, .int .u32 0, .int .u32 0, .int .u32 0, .int .u32 0, .int .u32 0, .int .u32 0, .int .u32 0, .int .u32 0, .int .u32 0, .int .u32 0, .int .u32 0, .int .u32 0, .int .u32 0, .int .u32 0, .int .u32 0, .int .u32 0, .int .u32 0, .int .u32 0, .int .u32 0, .int .u32 0, .int .u32 0, .int .u32 0, .int .u32 0, .int .u32 0, .int .u32 0, .int .u32 0, .int .u32 0, .int .u32 0, .int .u32 0, .int .u32 0, .int .u32 0, .int .u32 0, .int .u32 0, .int .u32 0, .int .u32 0, .int .u32 0, .int .u32 0, .int .u32 0] 141)).alloc (.cells #[.int .u32 0, .int .u32 0, .int .u32 0, .int .u32 0, .int .u32 0, .int .u32 0, .int .u32 0, .int .u32 0, .int .u32 0, .int .u32 0, .int .u32 0, .int .u32 0, .int .u32 0, .int .u32 0, .int .u32 0, .int .u32 0, .int .u32 0, .int .u32 0, .int .u32 0, .int .u32 0, .int .u32 0, .int .u32 0, .int .u32 0, .int .u32 0, .int .u32 0, .int .u32 0, .int .u32 0, .int .u32 0, .int .u32 0, .int .u32 0, .int .u32 0, .int .u32 0, .int .u32 0, .int .u32 0, .int .u32 0, .int .u32 0, .int .u32 0, .int .u32 0, .int .u32 0, .int .u32 0, .int .u32 0, .int .u32 0, .int .u32 0, .int .u32 0, .int .u32 0, .int .u32 0, .int .u32 0, .int .u32 0, .int .u32 0, .int .u32 0, .int .u32 0, .int .u32 0, .int .u32 0, .int .u32 0, .int .u32 0, .int .u32 0, .int .u32 0, .int .u32 0, .int .u32 0, .int .u32 0, .int .u32 0, .int .u32 0, .int .u32 0, .int .u32 0] 141) = W := ⟨_, rfl⟩
 have jr : Hid (Below w.heap.size w W) := aa (by rw [← hW]; exact aI (Below.refl _ _))
 have HB0 : Hid (bD .u32 141 W (w.heap.size + 1) (wz (bJ blk 0))) := aa (by
  rw [← hW, GI]
  exact heap_alloc2_new _ _ _)
 have mI : Hid (bD .u32 141 W w.heap.size (aT 64)) := aa (by
  rw [← hW, GI]
  exact heap_alloc2_old _ _ _)
 have D6 : Hid (W.heap.size = w.heap.size + 2) := aa (by rw [← hW]; simp)
 have HS := aa hs.out
 have HW := aa hW
 clear hW hs
 go_in
 go_wp2
 rw [HW.out]
 go_loopw [12] (fun i wr => ∃ k : Nat, k ≤ 16 ∧ i = .int .i64 k ∧ Hid (bD .u32 141 wr (w.heap.size + 1) (wz (bJ blk k))) ∧ Hid (Below (w.heap.size + 1) W wr)) (fun i _ => 16 - (intOf i).toNat)
 case atStart => exact ⟨0, by omega, rfl, HB0, aa (Below.refl _ _)⟩
 case round =>
  obtain ⟨k, hk, rfl, HB, aB⟩ := hrel
  by_cases hlt : k < 16
  ·
   clear HW
   have Gg : Hid (bD .u32 141 wr (w.heap.size + 1) ((wz (bJ blk k)).set k (part blk k 0))) := aa (by
    rw [set_self (by have := J9 (l := bJ blk k); rwa [dL] at this)]
    exact HB.out)
   go_wp2
   go_loopw [23] (fun j u => ∃ m : Nat, m ≤ 4 ∧ j = .int .i64 m ∧ Hid (bD .u32 141 u (w.heap.size + 1) ((wz (bJ blk k)).set k (part blk k m))) ∧ Hid (Below (w.heap.size + 1) W u)) (fun j _ => 4 - (intOf j).toNat)
   case atStart => exact ⟨0, by omega, rfl, Gg, aB⟩
   case round =>
    obtain ⟨m, hm, rfl, qB, lH⟩ := hrel
    by_cases hlm : m < 4
    ·
     have hc0 := qB.out.cell (j := k) (by rw [List.length_set, uW (by rw [dL]; omega)]; omega)
     rw [uf (by rw [uW (by rw [dL]; omega)]; omega)] at hc0
     have hf0 := qB.out.free k
     have hc1 := (HS.out.below (jr.out.trans (lH.out.mono (Nat.le_succ _)))).cell (j := 4 * k + m) (by have := hlen.out; omega)
     obtain ⟨c0, c1⟩ := fJ hby.out (4 * k + m)
     have hpn : part blk k (m + 1) = part blk k m * 256 + blk.getD (4 * k + m) 0 := rfl
     have p0 := ES hby.out k m
     have p1 := ET hby.out k m (by omega)
     obtain ⟨c, hcc⟩ : ∃ c, blk.getD (4 * k + m) 0 = c := ⟨_, rfl⟩
     rw [hcc] at hc1 c0 c1 hpn
     rw [← Nat.add_assoc] at hc1
     obtain ⟨p, hp⟩ : ∃ p, part blk k m = p := ⟨_, rfl⟩
     rw [hp] at hc0 p0 p1 hpn
     have hor := EX p0 p1 c0 c1
     obtain ⟨q, hq⟩ : ∃ q, p * 256 + c = q := ⟨_, rfl⟩
     rw [hq] at hor hpn
     have HB2 : Hid (bD .u32 141 (wr.setCell ⟨w.heap.size + 1, k, none⟩ (.int .u32 q)) (w.heap.size + 1) ((wz (bJ blk k)).set k (part blk k (m + 1)))) := aa (by
      rw [hpn]
      have h := qB.out.set (j := k) (v := q)
      rwa [List.set_set] at h)
     have xB : Hid (Below (w.heap.size + 1) W (wr.setCell ⟨w.heap.size + 1, k, none⟩ (.int .u32 q))) := aa (lH.out.setCell (Nat.le_refl _) _)
     clear hcc hp hq hpn qB lH
     go_wp2
     go_roundw
     case rel => exact ⟨m + 1, by omega, by go_num, HB2, xB⟩
     case measure => simp [intOf]; omega
    ·
     obtain rfl : m = 4 := by omega
     have HB2 : Hid (bD .u32 141 wr (w.heap.size + 1) (wz (bJ blk (k + 1)))) := aa (by
      have h := qB.out
      have e := Ao (l := bJ blk k) (x := rX blk k) (by rw [dL]; omega)
      rw [dL] at e
      rw [Kk, e, ← rY] at h
      exact h)
     clear qB
     go_wp2
     go_roundw
     case rel => exact ⟨k + 1, by omega, by go_num, HB2, lH⟩
     case measure => simp [intOf]; omega
  ·
   obtain rfl : k = 16 := by omega
   clear HW hlt
   have PN : Hid (bD .u32 141 wr (w.heap.size + 1) (wz (jR (16 - 16) (bJ blk 16)))) := aa (by rw [show 16 - 16 = 0 from rfl, jR]; exact HB.out)
   clear HB
   go_wp2
   rw [show (((16 : Nat) : Int)) = 16 from rfl]
   go_loopw [7] (fun i u => ∃ t : Nat, 16 ≤ t ∧ t ≤ 64 ∧ i = .int .i64 t ∧ Hid (bD .u32 141 u (w.heap.size + 1) (wz (jR (t - 16) (bJ blk 16)))) ∧ Hid (Below (w.heap.size + 1) W u)) (fun i _ => 64 - (intOf i).toNat)
   case atStart => exact ⟨16, by omega, by omega, rfl, PN, aB⟩
   case round =>
    obtain ⟨t, ht0, ht, rfl, xC, lH⟩ := hrel
    by_cases hlt : t < 64
    ·
     obtain ⟨L, hL⟩ : ∃ L, jR (t - 16) (bJ blk 16) = L := ⟨_, rfl⟩
     have hLn : L.length = t := by rw [← hL, rZ, dL]; omega
     have hwz : (wz L).length = 64 := uW (by omega)
     rw [hL] at xC
     have Ox := xC.out.cell (j := t - 15) (by omega)
     have h2 := xC.out.cell (j := t - 2) (by omega)
     have h16 := xC.out.cell (j := t - 16) (by omega)
     have h7 := xC.out.cell (j := t - 7) (by omega)
     have ht0' := xC.out.cell (j := t) (by omega)
     have hfr := xC.out.free t
     rw [G5 (by omega)] at Ox h2 h16 h7
     have hnx : jR (t + 1 - 16) (bJ blk 16) = L ++ [add32 (add32 (add32 (L.getD (t - 16) 0) (L_ (L.getD (t - 15) 0))) (L.getD (t - 7) 0)) (L9 (L.getD (t - 2) 0))] := by
      rw [show t + 1 - 16 = (t - 16) + 1 by omega, jR, hL, Gm, hLn]
     obtain ⟨Jz, e15⟩ : ∃ x, L.getD (t - 15) 0 = x := ⟨_, rfl⟩
     obtain ⟨x2, e2⟩ : ∃ x, L.getD (t - 2) 0 = x := ⟨_, rfl⟩
     obtain ⟨PS, e16⟩ : ∃ x, L.getD (t - 16) 0 = x := ⟨_, rfl⟩
     obtain ⟨x7, e7⟩ : ∃ x, L.getD (t - 7) 0 = x := ⟨_, rfl⟩
     rw [e15] at Ox hnx
     rw [e2] at h2 hnx
     rw [e16] at h16 hnx
     rw [e7] at h7 hnx
     have Gb := aa hnx
     have ng := aa hLn
     have i15 : ((t : Int) - 15).toNat = t - 15 := by omega
     have i2 : ((t : Int) - 2).toNat = t - 2 := by omega
     have i16 : ((t : Int) - 16).toNat = t - 16 := by omega
     have i7 : ((t : Int) - 7).toNat = t - 7 := by omega
     have U4 : (0 : Int) ≤ (t : Int) - 15 := by omega
     have j2 : (0 : Int) ≤ (t : Int) - 2 := by omega
     have U3 : (0 : Int) ≤ (t : Int) - 16 := by omega
     have j7 : (0 : Int) ≤ (t : Int) - 7 := by omega
     clear hnx e15 e2 e16 e7 hL hLn hwz
     go_wp2
     go_quiet (fail)
     have xB := aa (ay lH.out nq)
     have LV := aa (xC.out.drew nq)
     obtain ⟨w2, hw2⟩ : ∃ u, wr.drewN nq = u := ⟨_, rfl⟩
     rw [hw2] at xB LV
     have HW2 := aa hw2
     have g16 : w2.cell? ⟨w.heap.size + 1, t - 16, none⟩ = some (.int .u32 PS) := by rw [← hw2]; simpa using h16
     have g7 : w2.cell? ⟨w.heap.size + 1, t - 7, none⟩ = some (.int .u32 x7) := by rw [← hw2]; simpa using h7
     have gt : w2.cell? ⟨w.heap.size + 1, t, none⟩ = some (.int .u32 ((wz L).getD t 0)) := by rw [← hw2]; simpa using ht0'
     have gf : w2.frozen? ⟨w.heap.size + 1, t, none⟩ = false := by rw [← hw2]; simpa using hfr
     clear hw2 Ox h2 h16 h7 ht0' hfr lH xC
     go_wp2_with fail
     rw [HW2.out]
     refine (eZ Jz 7 7 rfl (by decide) (by decide) _).mono ?_
     rintro e w' ⟨rfl, rfl⟩
     go_wp2_with fail
     refine (eZ Jz 18 18 rfl (by decide) (by decide) _).mono ?_
     rintro e w' ⟨rfl, rfl⟩
     go_wp2_with fail
     refine (eZ x2 17 17 rfl (by decide) (by decide) _).mono ?_
     rintro e w' ⟨rfl, rfl⟩
     go_wp2_with fail
     refine (eZ x2 19 19 rfl (by decide) (by decide) _).mono ?_
     rintro e w' ⟨rfl, rfl⟩
     obtain ⟨r7, NR⟩ : ∃ r, fq Jz 7 = r := ⟨_, rfl⟩
     obtain ⟨RV, Iy⟩ : ∃ r, fq Jz 18 = r := ⟨_, rfl⟩
     obtain ⟨RX, Iz⟩ : ∃ r, fq x2 17 = r := ⟨_, rfl⟩
     obtain ⟨RU, Iw⟩ : ∃ r, fq x2 19 = r := ⟨_, rfl⟩
     rw [NR, Iy, Iz, Iw]
     obtain ⟨s0, hs0⟩ : ∃ r, bits .xor .u32 (bits .xor .u32 r7 RV) (Jz / 8) = r := ⟨_, rfl⟩
     obtain ⟨s1, hs1⟩ : ∃ r, bits .xor .u32 (bits .xor .u32 RX RU) (x2 / 1024) = r := ⟨_, rfl⟩
     have UN : Hid (L_ Jz = s0) := aa (by rw [L_, NR, Iy, hs0])
     have UM : Hid (L9 x2 = s1) := aa (by rw [L9, Iz, Iw, hs1])
     clear NR Iy Iz Iw
     go_wp2
     clear hs0 hs1
     obtain ⟨V, hV⟩ : ∃ V, (PS + s0 + x7 + s1) % 4294967296 = V := ⟨_, rfl⟩
     have HV := aa hV
     have HN : Hid (jR (t + 1 - 16) (bJ blk 16) = L ++ [V]) := aa (by
      rw [Gb.out, UN.out, UM.out, ← hV]
      simp only [add32, gu]
      congr 2
      omega)
     have HB3 : Hid (bD .u32 141 (w2.setCell ⟨w.heap.size + 1, t, none⟩ (.int .u32 V)).drew (w.heap.size + 1) (wz (jR (t + 1 - 16) (bJ blk 16)))) := aa (by
      rw [HN.out]
      have h := LV.out.set (j := t) (v := V)
      have e := Ao (l := L) (x := V) (by have := ng.out; omega)
      rw [ng.out] at e
      rw [e] at h
      exact h)
     have PE : Hid (Below (w.heap.size + 1) W (w2.setCell ⟨w.heap.size + 1, t, none⟩ (.int .u32 V)).drew) := aa (xB.out.setCell (Nat.le_refl _) _).drew
     clear hV
     go_region
     rw [HV.out]
     clear g16 g7 gt gf
     go_wp2
     go_roundw
     case rel => exact ⟨t + 1, by omega, by omega, by go_num, HB3, PE⟩
     case measure => simp [intOf]; omega
    ·
     have Jt : Hid (bD .u32 141 wr (w.heap.size + 1) (aU blk)) := aa (by
      have h := xC.out
      rwa [show t - 16 = 48 by omega, Ap] at h)
     have Lm : Hid (bD .u32 141 wr w.heap.size (aT 64)) := aa (mI.out.keepB (Nat.lt_succ_self _) lH.out)
     have oP : Hid (Below w.heap.size w (wr.setRow w.heap.size (arr .u32 (aU blk)))) := aa (aj (jr.out.trans (lH.out.mono (Nat.le_succ _))) (Nat.le_refl _))
     have HRR : Hid (bD .u32 141 (wr.setRow w.heap.size (arr .u32 (aU blk))) w.heap.size (aU blk)) := aa (Lm.out.setRow)
     clear xC
     go_wp2_with (first
      | ((with_reducible show wpList _ _ _ (⟨some 81, _, _, _, _, _⟩ :: _) _ _); refine wpList_load_row rfl 141 _ rfl (w.heap.size + 1) rfl _ _ _ _ Jt.out Tryz.underlying141 rfl (gQ blk) ?_)
      | ((with_reducible show wpList _ _ _ (⟨none, _, _, _, _, _⟩ :: _) _ _); refine wpList_store_row rfl 141 _ _ rfl w.heap.size (arr .u32 (aU blk)) rfl rfl _ _ Lm.out (gQ blk) (sK blk) (dU _) ?_))
     exact bodyPost_ret (v := .agg (arr .u32 (aU blk))) (results_cell_row (p := 2) (ty := 141) rfl _ _ w.heap.size _ _ _ _ rfl HRR.out Tryz.underlying141 rfl (gQ blk)) rfl ⟨rfl, oP.out⟩
def dQ (w : World) : Prop := (∀ k, k < 64 → w.cell? ⟨5, k, none⟩ = some (.int .u32 (KL.getD k 0))) ∧ (∀ k, k < 8 → w.cell? ⟨4, k, none⟩ = some (.int .u32 (st0.list.getD k 0)))
theorem dQ.below {w w' : World} (h : dQ w) (hb : Below w.heap.size w w') : dQ w' := ⟨fun k hk => cell_below (h.1 k hk) hb, fun k hk => cell_below (h.2 k hk) hb⟩
def lu (s v : List Int) (k : Nat) : List Int := (List.range 8).map fun j => if j < k then add32 (s.getD j 0) (v.getD j 0) else s.getD j 0
theorem lq (s v : List Int) (k : Nat) : (lu s v k).length = 8 := by simp [lu]
theorem Dl {s v : List Int} {k : Nat} (h : k < 8) : (lu s v k).getD k 0 = s.getD k 0 := by
 simp [lu, List.getD_eq_getElem?_getD, h]
theorem Dk {s v : List Int} {k : Nat} (h : k < 8) : (lu s v k).set k (add32 (s.getD k 0) (v.getD k 0)) = lu s v (k + 1) := by
 apply List.ext_getElem?
 intro i
 by_cases hi : i < 8
 ·
  by_cases e : k = i
  · subst e; simp [lu, List.getElem?_set, h]
  ·
   have e2 : (i < k + 1) ↔ (i < k) := by omega
   simp [lu, List.getElem?_set, hi, e, e2]
 · rw [List.getElem?_eq_none (by rw [List.length_set, lq]; omega), List.getElem?_eq_none (by rw [lq]; omega)]
theorem zX {s v : List Int} (h : s.length = 8) : lu s v 0 = s := by
 apply List.ext_getElem?
 intro i
 by_cases hi : i < 8
 · simp [lu, hi, h]
 · rw [List.getElem?_eq_none (by rw [lq]; omega), List.getElem?_eq_none (by omega)]
theorem Dm (s v : St) : lu s.list v.list 8 = (Ja s v).list := rfl
theorem FU (xa xb xc xd xe xf xg xh : Int) : (#[.int .u32 xa, .int .u32 xb, .int .u32 xc, .int .u32 xd, .int .u32 xe, .int .u32 xf, .int .u32 xg, .int .u32 xh] : Array Value) = arr .u32 (St.mk xa xb xc xd xe xf xg xh).list := rfl
theorem J7 : (#[.int .u32 0, .int .u32 0, .int .u32 0, .int .u32 0, .int .u32 0, .int .u32 0, .int .u32 0, .int .u32 0] : Array Value) = arr .u32 (aT 8) := rfl
theorem Kq : (Tryz.prog.info? 138).map (·.size) = some 8 := by kernel_rfl
theorem eu (s : St) : (Tryz.prog.info? 138).map (·.size) = some (arr .u32 s.list).size := Kq
theorem Kr (xa xb xc xd xe xf xg xh : Int) : ∀ k : Nat, k < 8 → ∀ w, (Instr.index 138 (.agg #[.int .u32 xa, .int .u32 xb, .int .u32 xc, .int .u32 xd, .int .u32 xe, .int .u32 xf, .int .u32 xg, .int .u32 xh]) (.int .i64 (k : Int))).run Tryz.prog w = .ok (.int .u32 ((St.mk xa xb xc xd xe xf xg xh).list.getD k 0)) w
 | 0, _ => fun w => by kernel_rfl
 | 1, _ => fun w => by kernel_rfl
 | 2, _ => fun w => by kernel_rfl
 | 3, _ => fun w => by kernel_rfl
 | 4, _ => fun w => by kernel_rfl
 | 5, _ => fun w => by kernel_rfl
 | 6, _ => fun w => by kernel_rfl
 | 7, _ => fun w => by kernel_rfl
 | k + 8, h => absurd h (by omega)
theorem KT (e f g : Int) : bits .xor .u32 (bits .and .u32 e f) (bits .and .u32 (bits .xor .u32 (if IntKind.u32.signed = true then -1 else IntKind.u32.max) e) g) = Mx e f g := rfl
theorem He (e : Int) : bits .xor .u32 (bits .xor .u32 (fq e 6) (fq e 11)) (fq e 25) = Ma e := rfl
def JB (e f g h k w : Int) : Int := ((h + Ma e + Mx e f g + k) % 4294967296 + w) % 4294967296
theorem Ki (e f g h k w : Int) : ((h + Ma e + Mx e f g + k) % 4294967296 + w) % 4294967296 = JB e f g h k w := rfl
def ND (a b c : Int) : Int := (PV a + PX a b c) % 4294967296
theorem Hu (a b c d e f g h k w : Int) : Mc ⟨a, b, c, d, e, f, g, h⟩ k w = ⟨(JB e f g h k w + ND a b c) % 4294967296, a, b, c, (d + JB e f g h k w) % 4294967296, e, f, g⟩ := by
 have hx : EC ⟨a, b, c, d, e, f, g, h⟩ k w = JB e f g h k w := by
  simp only [EC, JB, add32, gu]
  omega
 simp only [Mc, hx, Kj, ND, add32, gu]
theorem EJ {P : Program} {f : FuncId} {args : Array Value} {w : World} {n : Nat} {v : Value}
  (h : Calls P f args (w.drewN n) fun e w' => e = .returned v ∧ w.drewN n = w') : Calls P f args (w.drewN n) fun e w'' => e = .returned v ∧ ∃ m, w'' = w.drewN m :=
 h.mono fun _ _ ⟨he, hm⟩ => ⟨he, n, hm.symm⟩
theorem E_ (s : St) (b o cap : Nat) (blk : List Int) (hlen : Hid (blk.length = 64)) (hby : Hid (aA blk = true)) (w : World) (hs : Hid (Sk .u8 w (some ⟨b, o, none⟩) blk)) (hcap : 64 ≤ cap) (hcm : cap ≤ 9223372036854775807) (hv : Hid (dQ w)) :
  Calls Tryz.prog 115 #[.agg (arr .u32 s.list), .slice (some ⟨b, o, none⟩) 64 cap] w (Rt w (.agg (arr .u32 (vP s blk).list))) := by
 obtain ⟨xa, xb, xc, xd, xe, xf, xg, xh⟩ := s
 rw [← FU]
 obtain ⟨W, hW⟩ : ∃ W, (w.alloc (.cells #[.int .u32 xa, .int .u32 xb, .int .u32 xc, .int .u32 xd, .int .u32 xe, .int .u32 xf, .int .u32 xg, .int .u32 xh] 138)).alloc (.cells #[.int .u32 0, .int .u32 0, .int .u32 0, .int .u32 0, .int .u32 0, .int .u32 0, .int .u32 0, .int .u32 0] 138) = W := ⟨_, rfl⟩
 have jr : Hid (Below w.heap.size w W) := aa (by rw [← hW]; exact aI (Below.refl _ _))
 have HB0 : Hid (bD .u32 138 W w.heap.size (St.mk xa xb xc xd xe xf xg xh).list) := aa (by
  rw [← hW, FU]
  exact heap_alloc2_old _ _ _)
 have HZ0 : Hid (bD .u32 138 W (w.heap.size + 1) (aT 8)) := aa (by
  rw [← hW, J7]
  exact heap_alloc2_new _ _ _)
 have HS := aa (hs.out.below jr.out)
 have HV := aa (hv.out.below jr.out)
 have HW := aa hW
 have D6 : Hid (w.heap.size + 2 = W.heap.size) := aa (by rw [← hW]; simp)
 clear hW hs hv
 go_in
 go_wp2_with fail
 rw [HW.out]
 refine (ze b o cap blk hlen hby _ HS hcap hcm).mono ?_
 rintro e w1 ⟨rfl, hb1⟩
 have HB1 := aa (HB0.out.below hb1)
 have HZ1 := aa (HZ0.out.below hb1)
 have rG := aa (HV.out.below hb1)
 have TJ : Hid (w.heap.size + 2 ≤ w1.heap.size) := aa (by have := hb1.size; have := D6.out; omega)
 have rO := aa (ag jr.out hb1)
 clear hb1 HW
 go_wp2_with ((with_reducible show wpList _ _ _ (⟨none, _, _, _, _, _⟩ :: _) _ _); refine wpList_store_row rfl 141 _ _ rfl w1.heap.size (arr .u32 (aU blk)) rfl rfl _ _ (heap_alloc_new _ _) (gQ blk) (sK blk) (dU _) ?_)
 rw [World.setRow_alloc_new]
 have uP := aa (ag rO.out (af w1 (.cells (arr .u32 (aU blk)) 141)))
 have HB2 := aa (HB1.out.below (af w1 (.cells (arr .u32 (aU blk)) 141)))
 have HZ2 := aa (HZ1.out.below (af w1 (.cells (arr .u32 (aU blk)) 141)))
 have w_ := aa (rG.out.below (af w1 (.cells (arr .u32 (aU blk)) 141)))
 have HW2 : Hid (bD .u32 141 (w1.alloc (.cells (arr .u32 (aU blk)) 141)) w1.heap.size (aU blk)) := aa (bD.new _ _)
 obtain ⟨W2, hW2⟩ : ∃ u, w1.alloc (.cells (arr .u32 (aU blk)) 141) = u := ⟨_, rfl⟩
 have TI : Hid (w1.heap.size < W2.heap.size) := aa (by rw [← hW2]; simp)
 rw [hW2] at uP HB2 HZ2 w_ HW2 ⊢
 clear hW2 HB1 HZ1 rG rO HB0 HZ0 HV HS
 obtain ⟨g0, g1, g2, g3, g4, g5, g6, g7⟩ : W2.cell? ⟨w.heap.size, 0, none⟩ = some (.int .u32 xa) ∧ W2.cell? ⟨w.heap.size, 1, none⟩ = some (.int .u32 xb) ∧ W2.cell? ⟨w.heap.size, 2, none⟩ = some (.int .u32 xc) ∧ W2.cell? ⟨w.heap.size, 3, none⟩ = some (.int .u32 xd) ∧ W2.cell? ⟨w.heap.size, 4, none⟩ = some (.int .u32 xe) ∧ W2.cell? ⟨w.heap.size, 5, none⟩ = some (.int .u32 xf) ∧ W2.cell? ⟨w.heap.size, 6, none⟩ = some (.int .u32 xg) ∧ W2.cell? ⟨w.heap.size, 7, none⟩ = some (.int .u32 xh) :=
  ⟨HB2.out.cell (j := 0) (show 0 < 8 by decide), HB2.out.cell (j := 1) (show 1 < 8 by decide), HB2.out.cell (j := 2) (show 2 < 8 by decide), HB2.out.cell (j := 3) (show 3 < 8 by decide), HB2.out.cell (j := 4) (show 4 < 8 by decide), HB2.out.cell (j := 5) (show 5 < 8 by decide), HB2.out.cell (j := 6) (show 6 < 8 by decide), HB2.out.cell (j := 7) (show 7 < 8 by decide)⟩
 obtain ⟨ws, hws⟩ : ∃ l, aU blk = l := ⟨_, rfl⟩
 have QI : Kp (aU blk = ws) := ⟨hws⟩
 have QJ : Hid (ws.length = 64) := aa (by rw [← hws, gT])
 rw [hws] at HW2
 rw [hws]
 clear hws
 go_wp2
 go_quiet (fail)
 have LW := aa (ay (Below.refl W2.heap.size W2) nq)
 clear g0 g1 g2 g3 g4 g5 g6 g7
 go_wp2
 go_loopw [6, 7, 8, 9, 10, 11, 12, 13, 37] (fun a b c d e f g h i u => ∃ (k : Nat) (ya yb yc yd ye yf yg yh : Int), k ≤ 64 ∧ i = .int .i64 k ∧ a = .int .u32 ya ∧ b = .int .u32 yb ∧ c = .int .u32 yc ∧ d = .int .u32 yd ∧ e = .int .u32 ye ∧ f = .int .u32 yf ∧ g = .int .u32 yg ∧ h = .int .u32 yh ∧ Hid (vC ws ⟨xa, xb, xc, xd, xe, xf, xg, xh⟩ k = ⟨ya, yb, yc, yd, ye, yf, yg, yh⟩) ∧ Hid (Below W2.heap.size W2 u)) (fun _ _ _ _ _ _ _ _ i _ => 64 - (intOf i).toNat)
 case atStart => exact ⟨0, xa, xb, xc, xd, xe, xf, xg, xh, by omega, rfl, rfl, rfl, rfl, rfl, rfl, rfl, rfl, rfl, aa rfl, LW⟩
 case round =>
  obtain ⟨k, ya, yb, yc, yd, ye, yf, yg, yh, hk, rfl, rfl, rfl, rfl, rfl, rfl, rfl, rfl, rfl, HR, lH⟩ := hrel
  by_cases hlt : k < 64
  ·
   have hk0 := (w_.out.below lH.out).1 k hlt
   have hk1 := (HW2.out.below lH.out).cell (j := k) (by have := QJ.out; omega)
   have hnx : vC ws ⟨xa, xb, xc, xd, xe, xf, xg, xh⟩ (k + 1) = Mc ⟨ya, yb, yc, yd, ye, yf, yg, yh⟩ (KL.getD k 0) (ws.getD k 0) := by rw [vC, HR.out]
   obtain ⟨kc, Qx⟩ : ∃ x, KL.getD k 0 = x := ⟨_, rfl⟩
   obtain ⟨wc, Qw⟩ : ∃ x, ws.getD k 0 = x := ⟨_, rfl⟩
   rw [Qx] at hk0 hnx
   rw [Qw] at hk1 hnx
   have Gb := aa hnx
   clear hnx Qx Qw
   go_wp2_with fail
   go_quiet ((go_at_call 118; exact EJ (zh _ _ (by decide) (by decide) _)))
   rw [KT, He, Ki]
   obtain ⟨X, hX⟩ : ∃ X, JB ye yf yg yh kc wc = X := ⟨_, rfl⟩
   rw [hX]
   have HX := aa hX
   have xB := aa (ay lH.out nq)
   obtain ⟨w3, hw3⟩ : ∃ u, wr.drewN nq = u := ⟨_, rfl⟩
   rw [hw3] at xB ⊢
   clear hX hw3 hk0 hk1 lH
   go_wp2_with fail
   refine (eZ ya 2 2 rfl (by decide) (by decide) _).mono ?_
   rintro e w' ⟨rfl, rfl⟩
   go_wp2_with fail
   refine (eZ ya 13 13 rfl (by decide) (by decide) _).mono ?_
   rintro e w' ⟨rfl, rfl⟩
   go_wp2_with fail
   refine (eZ ya 22 22 rfl (by decide) (by decide) _).mono ?_
   rintro e w' ⟨rfl, rfl⟩
   obtain ⟨r2, hr2⟩ : ∃ r, fq ya 2 = r := ⟨_, rfl⟩
   obtain ⟨RY, IA⟩ : ∃ r, fq ya 13 = r := ⟨_, rfl⟩
   obtain ⟨RS, Iu⟩ : ∃ r, fq ya 22 = r := ⟨_, rfl⟩
   rw [hr2, IA, Iu]
   obtain ⟨Y, hY⟩ : ∃ Y, ND ya yb yc = Y := ⟨_, rfl⟩
   have HY : Kp ((bits .xor .u32 (bits .xor .u32 r2 RY) RS + bits .xor .u32 (bits .xor .u32 (bits .and .u32 ya yb) (bits .and .u32 ya yc)) (bits .and .u32 yb yc)) % 4294967296 = Y) := ⟨by rw [← hY, ← hr2, ← IA, ← Iu]; rfl⟩
   have JL := aa hY
   have HR2 : Hid (vC ws ⟨xa, xb, xc, xd, xe, xf, xg, xh⟩ (k + 1) = ⟨(X + Y) % 4294967296, ya, yb, yc, (yd + X) % 4294967296, ye, yf, yg⟩) := aa (by
    rw [Gb.out, Hu, HX.out, JL.out])
   clear hr2 IA Iu hY Gb
   go_wp2_with fail
   go_roundw
   case rel => exact ⟨k + 1, _, _, _, _, _, _, _, _, by omega, by go_num, rfl, rfl, rfl, rfl, rfl, rfl, rfl, rfl, by rw [HY.out]; exact HR2, xB⟩
   case measure => simp [intOf]; omega
  ·
   have QZ : Kp (vC (aU blk) ⟨xa, xb, xc, xd, xe, xf, xg, xh⟩ 64 = ⟨ya, yb, yc, yd, ye, yf, yg, yh⟩) := ⟨by
    have h := HR.out
    rwa [show k = 64 by omega, ← QI.out] at h⟩
   have HB3 : Hid (bD .u32 138 wr w.heap.size (lu (St.mk xa xb xc xd xe xf xg xh).list (St.mk ya yb yc yd ye yf yg yh).list 0)) := aa (by
    rw [zX rfl]
    exact HB2.out.below lH.out)
   have HZ3 := aa (HZ2.out.below lH.out)
   have PI := aa (ag uP.out lH.out)
   clear HR lH HB2 HZ2 uP HW2 w_ QJ QI LW
   go_wp2
   go_loopw [109] (fun i u => ∃ m : Nat, m ≤ 8 ∧ i = .int .i64 m ∧ Hid (bD .u32 138 u w.heap.size (lu (St.mk xa xb xc xd xe xf xg xh).list (St.mk ya yb yc yd ye yf yg yh).list m)) ∧ Hid (bD .u32 138 u (w.heap.size + 1) (aT 8)) ∧ Hid (Below w.heap.size w u)) (fun i _ => 8 - (intOf i).toNat)
   case atStart => exact ⟨0, by omega, rfl, HB3, HZ3, PI⟩
   case round =>
    obtain ⟨m, hm, rfl, qB, ML, lH⟩ := hrel
    by_cases hlm : m < 8
    ·
     have hi := Kr ya yb yc yd ye yf yg yh m hlm
     have hc := qB.out.cell (j := m) (by rw [lq]; exact hlm)
     have hf := qB.out.free m
     rw [Dl hlm] at hc
     obtain ⟨s0, e0⟩ : ∃ x, (St.mk xa xb xc xd xe xf xg xh).list.getD m 0 = x := ⟨_, rfl⟩
     obtain ⟨v0, e1⟩ : ∃ x, (St.mk ya yb yc yd ye yf yg yh).list.getD m 0 = x := ⟨_, rfl⟩
     have hst := Dk (s := (St.mk xa xb xc xd xe xf xg xh).list) (v := (St.mk ya yb yc yd ye yf yg yh).list) hlm
     rw [e0, e1, add32, gu] at hst
     rw [e0] at hc
     rw [e1] at hi
     have yT : Hid (bD .u32 138 (wr.setCell ⟨w.heap.size, m, none⟩ (.int .u32 ((s0 + v0) % 4294967296))) w.heap.size (lu (St.mk xa xb xc xd xe xf xg xh).list (St.mk ya yb yc yd ye yf yg yh).list (m + 1))) := aa (by
      rw [← hst]
      exact qB.out.set)
     have DZ : Hid (bD .u32 138 (wr.setCell ⟨w.heap.size, m, none⟩ (.int .u32 ((s0 + v0) % 4294967296))) (w.heap.size + 1) (aT 8)) := aa (ML.out.set_ne (by omega))
     have GX : Hid (Below w.heap.size w (wr.setCell ⟨w.heap.size, m, none⟩ (.int .u32 ((s0 + v0) % 4294967296)))) := aa (lH.out.setCell (Nat.le_refl _) _)
     clear hst e0 e1 qB ML lH
     go_wp2
     go_roundw
     case rel => exact ⟨m + 1, by omega, by go_num, yT, DZ, GX⟩
     case measure => simp [intOf]; omega
    ·
     obtain ⟨T, hT⟩ : ∃ T, Ja ⟨xa, xb, xc, xd, xe, xf, xg, xh⟩ ⟨ya, yb, yc, yd, ye, yf, yg, yh⟩ = T := ⟨_, rfl⟩
     have Jt : Hid (bD .u32 138 wr w.heap.size T.list) := aa (by
      have h := qB.out
      rwa [show m = 8 by omega, Dm, hT] at h)
     have HT : Kp (vP ⟨xa, xb, xc, xd, xe, xf, xg, xh⟩ blk = T) := ⟨by rw [vP, QZ.out, hT]⟩
     have HRR : Hid (bD .u32 138 (wr.setRow (w.heap.size + 1) (arr .u32 T.list)) (w.heap.size + 1) T.list) := aa ML.out.setRow
     have oP : Hid (Below w.heap.size w (wr.setRow (w.heap.size + 1) (arr .u32 T.list))) := aa (aj lH.out (Nat.le_succ _))
     clear hT QZ qB
     go_wp2_with (first
      | ((with_reducible show wpList _ _ _ (⟨some 120, _, _, _, _, _⟩ :: _) _ _); refine wpList_load_row rfl 138 _ rfl w.heap.size rfl _ _ _ _ Jt.out Tryz.underlying138 rfl (eu T) ?_)
      | ((with_reducible show wpList _ _ _ (⟨none, _, _, _, _, _⟩ :: _) _ _); refine wpList_store_row rfl 138 _ _ rfl (w.heap.size + 1) (arr .u32 T.list) rfl rfl _ _ ML.out (eu T) rfl (dU _) ?_))
     rw [HT.out]
     exact bodyPost_ret (v := .agg (arr .u32 T.list)) (results_cell_row (p := 4) (ty := 138) rfl _ _ (w.heap.size + 1) _ _ _ _ rfl HRR.out Tryz.underlying138 rfl (eu T)) rfl ⟨rfl, oP.out⟩
end Go.Proofs.YticegghameafgaaGreatDoor
namespace Go.Proofs.YticegghameafgaaGreatDoor
open Go.ChangeShapes Go.WideShapes Go.ChangeAt Go.RowKit jq
theorem Cz : Tryz.prog.globalNamed "specie/digest.constants" = some 5 := by kernel_rfl
theorem wu : (Tryz.prog.globals[5]?).map (·.type) = some 141 := by kernel_rfl
theorem Cy : Tryz.prog.globalNamed "specie/digest.start" = some 4 := by kernel_rfl
theorem wo : (Tryz.prog.globals[4]?).map (·.type) = some 138 := by kernel_rfl
theorem wT : Tryz.prog.cellsOf 141 = 64 := by kernel_rfl
theorem wO : Tryz.prog.cellsOf 138 = 8 := by kernel_rfl
theorem uC : Tryz.prog.cellsOf 124 = 1 := by kernel_rfl
theorem o6 {W : World} (h : laidMetH Tryz.prog [("math/bits.deBruijn64tab", Rows.laid_math_bits_deBruijn64tab), ("specie/prime.bases", Rows.laid_specie_prime_bases), ("specie/digest.constants", Rows.laid_specie_digest_constants), ("specie/digest.start", Rows.laid_specie_digest_start)] W) : Vars W ∧ dQ W := by
 have h1 : laidMet Tryz.prog [("math/bits.deBruijn64tab", Rows.laid_math_bits_deBruijn64tab), ("specie/prime.bases", Rows.laid_specie_prime_bases), ("specie/digest.constants", Rows.laid_specie_digest_constants), ("specie/digest.start", Rows.laid_specie_digest_start)] W := h
 have t1 : Lib.TabIs Tryz.prog W "math/bits.deBruijn64tab" .u8 (Lib.deBruijn64tab.map Int.ofNat) := Lib.tabIs_of_head (rest := [("specie/prime.bases", Rows.laid_specie_prime_bases), ("specie/digest.constants", Rows.laid_specie_digest_constants), ("specie/digest.start", Rows.laid_specie_digest_start)]) KN Cx Tryz.underlying129 Tryz.underlying5 yI Da h1
 have t2 : Lib.TabIs Tryz.prog W "specie/prime.bases" .u64 [2, 3, 5, 7, 11, 13, 17, 19, 23, 29, 31, 37] := Lib.tabIs_of_head (rest := [("specie/digest.constants", Rows.laid_specie_digest_constants), ("specie/digest.start", Rows.laid_specie_digest_start)]) CB wC Tryz.underlying110 Tryz.underlying109 C_ wU h1.tail
 have t3 : Lib.TabIs Tryz.prog W "specie/digest.constants" .u32 KL := Lib.tabIs_of_head (rest := [("specie/digest.start", Rows.laid_specie_digest_start)]) Cz wu Tryz.underlying141 Tryz.underlying124 uC wT h1.tail.tail
 have t4 : Lib.TabIs Tryz.prog W "specie/digest.start" .u32 st0.list := Lib.tabIs_of_head (rest := []) Cy wo Tryz.underlying138 Tryz.underlying124 uC wO h1.tail.tail.tail
 refine ⟨⟨fun k hk => ?_, fun j hj => ?_⟩, fun k hk => ?_, fun k hk => ?_⟩
 · rw [t2.cell CB k hk]; rfl
 ·
  rw [t1.cell KN j (by simpa using hj)]
  rw [List.getD_eq_getElem?_getD, List.getD_eq_getElem?_getD, List.getElem?_map]
  rw [List.getElem?_eq_getElem hj]
  rfl
 · rw [t3.cell Cz k hk]
 · rw [t4.cell Cy k hk]
def BU : Obj → Obj
 | .cells _ t frozen => .cells (KL.map fun n => Value.int .u32 n).toArray t frozen
 | o => o
def BS : Obj → Obj
 | .cells _ t frozen => .cells (st0.list.map fun n => Value.int .u32 n).toArray t frozen
 | o => o
noncomputable def jI (os : Os) : World :=
 { World.holding Tryz.prog os ⟨#[], #[], []⟩ with heap := ((((World.holding Tryz.prog os ⟨#[], #[], []⟩).heap.modify 0 BV).modify 1 Ih).modify 5 BU).modify 4 BS }
end Go.Proofs.YticegghameafgaaGreatDoor
namespace Go.Proofs.YticegghameafgaaGreatDoor
open Go.RowKit jq
def bf (Q x : Int) : Bool := decide (0 ≤ x) && decide (x < Q)
theorem uI {f : Int → Bool} {xs : List Int} : (xs.any fun x => !f x) = !(xs.all f) := by
 induction xs with
 | nil => rfl
 | cons x xs ih => rw [List.any_cons, List.all_cons, ih, Bool.not_and]
structure Row where
 p : Option Addr
 n : Nat
 c : Nat
 xs : List Int
abbrev Row.val (r : Row) : Value := .slice r.p r.n r.c
abbrev nU : Row := ⟨none, 0, 0, []⟩
def uK (w : World) (r : Row) : Prop := r.xs.length = r.n ∧ Sl w r.p r.xs
theorem uK.below {w w' : World} {r : Row} (h : uK w r) (hb : Below w.heap.size w w') : uK w' r := ⟨h.1, h.2.below hb⟩
def Rw (w : World) (A : Option Addr) (rs : List Row) : Prop := ∀ k, k < rs.length → (∃ b o, A = some ⟨b, o, none⟩ ∧ w.cell? ⟨b, o + k, none⟩ = some (rs.getD k nU).val) ∧ uK w (rs.getD k nU)
theorem Rw.below {w w' : World} {A : Option Addr} {rs : List Row} (h : Rw w A rs) (hb : Below w.heap.size w w') : Rw w' A rs := fun k hk => by
 obtain ⟨⟨b, o, h1, h2⟩, h3⟩ := h k hk
 exact ⟨⟨b, o, h1, (hb.cell (World.block_lt_of_cell? _ _ h2)).trans h2⟩, h3.below hb⟩
def Dn (g : FuncId) (caps : Array Value) (p : Row → Bool) (W : World) : Prop :=
 ∀ (r : Row) (w1 : World), Below W.heap.size W w1 → uK w1 r → Calls Tryz.prog g (#[r.val] ++ caps) w1 fun e w' => e = .returned (.bool (p r)) ∧ Below w1.heap.size w1 w'
theorem zV {f : Row → Bool} {xs : List Row} {k : Nat} (hk : k < xs.length) (h : f (xs.getD k nU) = false) : (xs.drop k).any f = (xs.drop (k + 1)).any f := by
 rw [List.drop_eq_getElem_cons hk, List.any_cons]
 rw [List.getD_eq_getElem?_getD, List.getElem?_eq_getElem hk] at h
 simp at h
 rw [h, Bool.false_or]
theorem Di {f : Row → Bool} {xs : List Row} {k : Nat} (hk : k < xs.length) (h : f (xs.getD k nU) = true) : (xs.drop k).any f = true := by
 rw [List.drop_eq_getElem_cons hk, List.any_cons]
 rw [List.getD_eq_getElem?_getD, List.getElem?_eq_getElem hk] at h
 simp at h
 rw [h, Bool.true_or]
def FX (p : Row → Bool) (xs : List Row) (w : World) (e : Ending) (w' : World) : Prop := ∃ i : Int, e = .returned (.int .i64 i) ∧ decide (0 ≤ i) = xs.any p ∧ Below w.heap.size w w'
end Go.Proofs.YticegghameafgaaGreatDoor
namespace Go.Proofs.YticegghameafgaaGreatDoor
open Go
section
variable {P : Program} {ops : Array Oper} {Q : Exit → Act → World → Prop} {md : Region.Mode} {S : World → Prop} {E : List Nat}
def gz (P : Program) (md : Region.Mode) (ops : Array Oper) (Q : Exit → Act → World → Prop) (S : World → Prop) (E : List Nat) : Nat → Array Bool → Act → World → Prop
 | 0, listed, a, w => Region.ready md ops listed = [] ∧ Q .normal a w
 | fuel + 1, listed, a, w =>
  (Region.ready md ops listed = [] → Q .normal a w) ∧
  ∀ i ∈ Region.ready md ops listed, wpOp P ops Q i (fun a' w' => (i ∉ E → S w') ∧ gz P md ops Q S E fuel (listed.setIfInBounds i true) a' w') a w
theorem jy : ∀ (fuel : Nat) (listed : Array Bool) (a : Act) (w : World), gz P md ops Q S E fuel listed a w → wpAny P md ops Q fuel listed a w
 | 0, _, _, _, h => h
 | fuel + 1, _, _, _, h => ⟨h.1, fun i hi => wpOp_mono (fun a' w' h' => jy fuel _ a' w' h'.2) (h.2 i hi)⟩
def oG (md : Region.Mode) (ops : Array Oper) (i : Nat) : List Nat :=
 (List.range ops.size).foldl (fun C x => if ((ops[x]?).map (·.after.any fun e => Region.binds md e && (e.on == i || C.contains e.on))).getD false then x :: C else C) []
def kG (md : Region.Mode) (ops : Array Oper) (listed : Array Bool) (i : Nat) (E : List Nat) : Bool :=
 (E.all fun s => (oG md ops i).contains s) && (oG md ops i).all fun x => !listed.getD x true && ((ops[x]?).map (·.after.any fun e => Region.binds md e && (e.on == i || (oG md ops i).contains e.on))).getD false
def Late (md : Region.Mode) (ops : Array Oper) (C : List Nat) (listed : Array Bool) (i : Nat) : Prop :=
 ∀ x ∈ C, listed.getD x true = false ∧ ∃ o, ops[x]? = some o ∧ ∃ e ∈ o.after, Region.binds md e = true ∧ (e.on = i ∨ e.on ∈ C)
theorem og {listed : Array Bool} {i : Nat} (h : kG md ops listed i E = true) : (∀ s ∈ E, s ∈ oG md ops i) ∧ Late md ops (oG md ops i) listed i := by
 unfold kG at h
 rw [Bool.and_eq_true] at h
 refine ⟨fun s hs => by simpa using List.all_eq_true.1 h.1 s hs, fun x hx => ?_⟩
 have h2 := List.all_eq_true.1 h.2 x hx
 rw [Bool.and_eq_true] at h2
 refine ⟨by simpa using h2.1, ?_⟩
 have h3 := h2.2
 cases ho : ops[x]? with
 | none => rw [ho] at h3; simp at h3
 | some o =>
  rw [ho] at h3
  simp only [Option.map_some, Option.getD_some] at h3
  obtain ⟨e, he, hb⟩ := Array.any_eq_true'.1 h3
  simp only [Bool.and_eq_true, Bool.or_eq_true, beq_iff_eq] at hb
  exact ⟨o, rfl, e, he, hb.1, hb.2.imp id (by simp)⟩
theorem Late.not_ready {C : List Nat} {listed : Array Bool} {i j : Nat} (h : Late md ops C listed i) (hi : listed.getD i true = false) (hj : j ∈ Region.ready md ops listed) : j ∉ C := fun hc => by
 obtain ⟨_, o, ho, e, he, hb, h4⟩ := h j hc
 obtain ⟨_, o', ho', hall⟩ := mem_ready.1 hj
 rw [ho] at ho'
 cases ho'
 have h5 := hall e he hb
 have h6 : listed.getD e.on true = false := by
  rcases h4 with h4 | h4
  · rw [h4]; exact hi
  · exact (h _ h4).1
 rcases Nat.lt_or_ge e.on listed.size with h' | h'
 · simp [h'] at h5 h6; rw [h6] at h5; cases h5
 · simp [Array.getElem?_eq_none h'] at h5
theorem Late.step {C : List Nat} {listed : Array Bool} {i j : Nat} (h : Late md ops C listed i) (hj : j ∉ C) : Late md ops C (listed.setIfInBounds j true) i := fun x hx => by
 obtain ⟨h1, h2⟩ := h x hx
 have hne : j ≠ x := fun e => hj (by rw [e]; exact hx)
 exact ⟨by rw [getD_set_ne true hne]; exact h1, h2⟩
theorem yU {i : Nat} {oi : Oper} {v : Value} {C : List Nat} (hs : ∀ s ∈ E, s ∈ C) (hi : ops[i]? = some oi) (hsel : ∀ (j : Nat) (o : Oper) cs b, ops[j]? = some o → o.op ≠ .select cs b)
  (hQ : ∀ c a w, Q (.panic c) (a.put oi.dst v) w → Q (.panic c) a w) :
  ∀ (fuel : Nat) (listed : Array Bool) (a : Act) (w : World),
   (∀ j oj, ops[j]? = some oj → j ≠ i → listed.getD j true = false → (∀ e ∈ oj.after, Region.binds md e = true → e.on ≠ i) → oi.apart ops oj = true) →
   Late md ops C listed i → i ∈ Region.ready md ops listed → YieldsIf P ops S oi v a → S w →
   gz P md ops Q S E fuel (listed.setIfInBounds i true) (a.put oi.dst v) w → gz P md ops Q S E (fuel + 1) listed a w := by
 intro fuel
 induction fuel with
 | zero =>
  intro listed a w _ _ hr hy hS H
  refine ⟨fun h => (by rw [h] at hr; cases hr), fun j hj => ?_⟩
  by_cases hji : j = i
  · subst hji; exact hy.wpOp hi hS ⟨fun _ => hS, H⟩
  ·
   have := ready_mono hj hji
   rw [H.1] at this
   cases this
 | succ fuel ih =>
  intro listed a w hfree Gw hr hy hS H
  refine ⟨fun h => (by rw [h] at hr; cases hr), fun j hj => ?_⟩
  by_cases hji : j = i
  · subst hji; exact hy.wpOp hi hS ⟨fun _ => hS, H⟩
  ·
   have h1 := H.2 j (ready_mono hj hji)
   have Ob := (mem_ready.1 hr).1
   have Qa := Gw.not_ready Ob hj
   have hjs : j ∉ E := fun e => Qa (hs j e)
   obtain ⟨hjun, oj, hoj, hall⟩ := mem_ready.1 hj
   have hnot : ∀ e ∈ oj.after, Region.binds md e = true → e.on ≠ i := fun e he hb heq => by
    have h1 := hall e he hb
    have h0 := (mem_ready.1 hr).1
    rw [heq] at h1
    rcases Nat.lt_or_ge i listed.size with h' | h'
    · simp [h'] at h0 h1; rw [h0] at h1; cases h1
    · simp [Array.getElem?_eq_none h'] at h1
   have h2 := wpOp_putIf hoj (hfree j oj hoj hji hjun hnot) (fun cs b => hsel i oi cs b hi) (fun cs b => hsel j oj cs b hoj) hQ hy h1
   have hfree' : ∀ k ok, ops[k]? = some ok → k ≠ i → (listed.setIfInBounds j true).getD k true = false →
     (∀ e ∈ ok.after, Region.binds md e = true → e.on ≠ i) → oi.apart ops ok = true := fun k ok hk hki hun hno => by
    refine hfree k ok hk hki ?_ hno
    by_cases hjk : j = k
    · subst hjk; exact hjun
    · rw [getD_set_ne true hjk] at hun; exact hun
   refine wpOp_mono (fun a' w' h3 => ⟨fun _ => h3.2.1 hjs, ih (listed.setIfInBounds j true) a' w' hfree' (Gw.step Qa) (ready_mono hr (Ne.symm hji)) h3.1 (h3.2.1 hjs) ?_⟩) h2
   rw [Array.setIfInBounds_comm _ _ hji]
   exact h3.2.2
theorem fG {i : Nat} {oi : Oper} {v : Value} {fuel : Nat} {listed : Array Bool} {a : Act} {w : World} (hi : ops[i]? = some oi)
  (hs : Region.noSelect ops = true) (hf : Region.free md ops listed i = true) (hr : (Region.ready md ops listed).contains i = true) (hl : kG md ops listed i E = true)
  (hQ : ∀ c a w, Q (.panic c) (a.put oi.dst v) w → Q (.panic c) a w) (hy : YieldsIf P ops S oi v a) (hS : S w)
  (h : gz P md ops Q S E fuel (listed.setIfInBounds i true) (a.put oi.dst v) w) : gz P md ops Q S E (fuel + 1) listed a w :=
 yU (og hl).1 hi (Region.noSelect_spec hs) hQ fuel listed a w (Region.free_spec hi hf) (og hl).2 (by simpa using hr) hy hS h
theorem Ee {i : Nat} {o : Oper} {fuel : Nat} {listed : Array Bool} {a : Act} {w : World} (hr : Region.ready md ops listed = [i]) (ho : ops[i]? = some o)
  (h : ∀ K' : Act → World → Prop, Shut (∀ a w, S w → (S w → gz P md ops Q S E fuel (listed.setIfInBounds i true) a w) → K' a w) → if Region.wanted o (yielded ops a.tmps) = true then Oper.wp P o a w K' Q else K' (a.put o.dst undef) w) :
  gz P md ops Q S E (fuel + 1) listed a w :=
 ⟨fun h0 => absurd (hr ▸ h0) (by simp), fun j hj => by
  rw [hr] at hj
  obtain rfl : j = i := by simpa using hj
  exact wpOp_step ho (fun K' hK => h K' (fun a w hS hW => hK a w ⟨fun _ => hS, hW hS⟩))⟩
theorem a_ {α : Type _} {xs : List α} {i : Nat} (h : i < xs.toArray.size) : xs.toArray[i] = xs[i]'(by simpa using h) := rfl
theorem aZ {α : Type _} (a : α) (l : List α) (h : 0 < (a :: l).length) : getElem (a :: l) 0 h = a := rfl
theorem aY {α : Type _} (a : α) (l : List α) (i : Nat) (h : i + 1 < (a :: l).length) : getElem (a :: l) (i+1) h = getElem l i (Nat.lt_of_succ_lt_succ h) := rfl
theorem aX {α : Type _} (l : List α) (i : Nat) (a : α) : l.toArray.setIfInBounds i a = (l.set i a).toArray := List.setIfInBounds_toArray l i a
theorem aW {α : Type _} {x : α} {xs : List α} {a : α} : (x :: xs).set 0 a = a :: xs := rfl
theorem aV {α : Type _} {x : α} {xs : List α} {i : Nat} {a : α} : (x :: xs).set (i + 1) a = x :: xs.set i a := rfl
theorem UX (i : Nat) {oi : Oper} {v : Value} {fuel : Nat} {listed : Array Bool} {a : Act} {w : World} (h : gz P md ops Q S E fuel (listed.setIfInBounds i true) (a.put oi.dst v) w) (hi : ops[i]? = some oi := by rfl)
  (hs : Region.noSelect ops = true := by kernel_rfl) (hf : Region.free md ops listed i = true := by kernel_rfl) (hr : (Region.ready md ops listed).contains i = true := by kernel_rfl) (hl : kG md ops listed i E = true := by kernel_rfl)
  (hQ : ∀ c a w, Q (.panic c) (a.put oi.dst v) w → Q (.panic c) a w := by exact fun _ _ _ h => h) (hw : Region.wanted oi (yielded ops a.tmps) = true := by rfl)
  (hy : ∀ w, S w → (execOp a.eval oi).run P w = .ok (.value v) w := by intro wS hSw; (try dsimp only at hSw); go_simp <;> with_reducible rfl) (hS : S w := by assumption) : gz P md ops Q S E (fuel + 1) listed a w :=
 fG hi hs hf hr hl hQ (Or.inl ⟨hw, hy⟩) hS h
theorem UY (i : Nat) {oi : Oper} {fuel : Nat} {listed : Array Bool} {a : Act} {w : World} (h : gz P md ops Q S E fuel (listed.setIfInBounds i true) (a.put oi.dst undef) w) (hi : ops[i]? = some oi := by rfl)
  (hs : Region.noSelect ops = true := by kernel_rfl) (hf : Region.free md ops listed i = true := by kernel_rfl) (hr : (Region.ready md ops listed).contains i = true := by kernel_rfl) (hl : kG md ops listed i E = true := by kernel_rfl)
  (hQ : ∀ c a w, Q (.panic c) (a.put oi.dst undef) w → Q (.panic c) a w := by exact fun _ _ _ h => h) (hw : Region.wanted oi (yielded ops a.tmps) = false := by rfl) (hS : S w := by assumption) : gz P md ops Q S E (fuel + 1) listed a w :=
 fG hi hs hf hr hl hQ (Or.inr ⟨hw, rfl⟩) hS h
theorem iY {i1 i2 : Nat} {o1 o2 : Oper} {fuel : Nat} {listed : Array Bool} {a : Act} {w : World} (hr : Region.ready md ops listed = [i1, i2]) (ho1 : ops[i1]? = some o1) (ho2 : ops[i2]? = some o2)
  (h1 : ∀ K' : Act → World → Prop, Shut (∀ a w, S w → (S w → gz P md ops Q S E fuel (listed.setIfInBounds i1 true) a w) → K' a w) → if Region.wanted o1 (yielded ops a.tmps) = true then Oper.wp P o1 a w K' Q else K' (a.put o1.dst undef) w)
  (h2 : ∀ K' : Act → World → Prop, Shut (∀ a w, S w → (S w → gz P md ops Q S E fuel (listed.setIfInBounds i2 true) a w) → K' a w) → if Region.wanted o2 (yielded ops a.tmps) = true then Oper.wp P o2 a w K' Q else K' (a.put o2.dst undef) w) :
  gz P md ops Q S E (fuel + 1) listed a w :=
 ⟨fun h0 => absurd (hr ▸ h0) (by simp), fun j hj => by
  rw [hr] at hj
  rcases (by simpa using hj : j = i1 ∨ j = i2) with rfl | rfl
  · exact wpOp_step ho1 (fun K' hK => h1 K' (fun a w hS hW => hK a w ⟨fun _ => hS, hW hS⟩))
  · exact wpOp_step ho2 (fun K' hK => h2 K' (fun a w hS hW => hK a w ⟨fun _ => hS, hW hS⟩))⟩
theorem Ar {i : Nat} {o : Oper} {fuel : Nat} {listed : Array Bool} {a : Act} {w : World} (hr : Region.ready md ops listed = [i]) (hE : i ∈ E) (ho : ops[i]? = some o)
  (h : ∀ K' : Act → World → Prop, Shut (∀ a w, gz P md ops Q S E fuel (listed.setIfInBounds i true) a w → K' a w) → if Region.wanted o (yielded ops a.tmps) = true then Oper.wp P o a w K' Q else K' (a.put o.dst undef) w) :
  gz P md ops Q S E (fuel + 1) listed a w :=
 ⟨fun h0 => absurd (hr ▸ h0) (by simp), fun j hj => by
  rw [hr] at hj
  obtain rfl : j = i := by simpa using hj
  exact wpOp_step ho (fun K' hK => h K' (fun a w hW => hK a w ⟨fun h => absurd hE h, hW⟩))⟩
theorem Au {listed : Array Bool} {a : Act} {w : World} (hr : Region.ready md ops listed = []) (h : Q .normal a w) : ∀ fuel, gz P md ops Q S E fuel listed a w
 | 0 => ⟨hr, h⟩
 | _ + 1 => ⟨fun _ => h, by rw [hr]; simp⟩
theorem di {id : Nat} {a : Act} {w : World} (hm : P.follows .mixedOrders = true) (hS : S w.drew)
  (h : S w.drew → gz P .any ops Q S E ops.size (Array.replicate ops.size false) a w.drew) : (Code.region id ops true).wp P Q a w :=
 wp_region_any hm (jy _ _ _ _ (h hS))
end
section
variable {P : Program} {ops : Array Oper} {Q : Exit → Act → World → Prop} {md : Region.Mode} {S : World → Prop} {E : List Nat}
theorem lI {fuel : Nat} {listed : Array Bool} {a : Act} {w : World} (h : ∀ (T : Nat → Array Bool → Act → World → Prop) (a0 : Act), T = gz P md ops Q S E → a0 = a → T fuel listed a0 w) : gz P md ops Q S E fuel listed a w := h _ _ rfl rfl
end
end Go.Proofs.YticegghameafgaaGreatDoor
namespace Go.Proofs.YticegghameafgaaGreatDoor
open Go.RowKit jq
theorem FL {b c u : World} (h : Hid (Below b.heap.size b c)) (h2 : Hid (Below c.heap.size c u)) : Hid (Below b.heap.size b u) := aa (ag h.out h2.out)
theorem yJ {b c u : World} (h : Hid (Below b.heap.size b c)) (h2 : Below c.heap.size c u) : Hid (Below b.heap.size b u) := aa (ag h.out h2)
theorem bb2 {a b u u2 : World} (h : Hid (Below a.heap.size a u ∧ Below b.heap.size b u)) (q : Below u.heap.size u u2) : Hid (Below a.heap.size a u2 ∧ Below b.heap.size b u2) := aa ⟨ag h.out.1 q, ag h.out.2 q⟩
theorem bb3 {a b c u u2 : World} (h : Hid (Below a.heap.size a u ∧ Below b.heap.size b u ∧ Below c.heap.size c u)) (q : Below u.heap.size u u2) : Hid (Below a.heap.size a u2 ∧ Below b.heap.size b u2 ∧ Below c.heap.size c u2) := aa ⟨ag h.out.1 q, ag h.out.2.1 q, ag h.out.2.2 q⟩
theorem Vw {a b c d u u2 : World} (h : Hid (Below a.heap.size a u ∧ Below b.heap.size b u ∧ Below c.heap.size c u ∧ Below d.heap.size d u)) (q : Below u.heap.size u u2) : Hid (Below a.heap.size a u2 ∧ Below b.heap.size b u2 ∧ Below c.heap.size c u2 ∧ Below d.heap.size d u2) := aa ⟨ag h.out.1 q, ag h.out.2.1 q, ag h.out.2.2.1 q, ag h.out.2.2.2 q⟩
theorem Mw {P : Program} {f : Nat} {args : Array Value} {b w : World} {E0 : Ending} {Q : Ending → World → Prop} (hB : Hid (Below b.heap.size b w)) (h : Calls P f args w fun e w' => e = E0 ∧ Below w.heap.size w w') (k : ∀ w', Hid (Below b.heap.size b w') → Q E0 w') : Calls P f args w Q :=
 h.mono (fun e w' he => by obtain ⟨rfl, hb⟩ := he; exact k w' (yJ hB hb))
theorem gM {P : Program} {f : Nat} {args : Array Value} {b w : World} {E0 : Ending} {Q : Ending → World → Prop} {C : World → Prop} (kC : Hid (∀ u, Hid (Below b.heap.size b u) → C u)) (hB : Hid (Below b.heap.size b w)) (h : Calls P f args w fun e w' => e = E0 ∧ Below w.heap.size w w') (k : ∀ w', Hid (Below b.heap.size b w') → C w' → Q E0 w') : Calls P f args w Q :=
 Mw hB h (fun w' h' => k w' h' (kC.out _ h'))
theorem KS {P : Program} {f : Nat} {args : Array Value} {b c w : World} {E0 : Ending} {Q : Ending → World → Prop} (hB : Hid (Below b.heap.size b w)) (hC : Hid (Below c.heap.size c w)) (h : Calls P f args w fun e w' => e = E0 ∧ Below w.heap.size w w') (k : ∀ w', Hid (Below b.heap.size b w') → Hid (Below c.heap.size c w') → Q E0 w') : Calls P f args w Q :=
 h.mono (fun e w' he => by obtain ⟨rfl, hb⟩ := he; exact k w' (yJ hB hb) (yJ hC hb))
theorem wM {P : Program} {f : Nat} {args : Array Value} {b c d w : World} {E0 : Ending} {Q : Ending → World → Prop} (hB : Hid (Below b.heap.size b w)) (hC : Hid (Below c.heap.size c w)) (hD : Hid (Below d.heap.size d w)) (h : Calls P f args w fun e w' => e = E0 ∧ Below w.heap.size w w') (k : ∀ w', Hid (Below b.heap.size b w') → Hid (Below c.heap.size c w') → Hid (Below d.heap.size d w') → Q E0 w') : Calls P f args w Q :=
 h.mono (fun e w' he => by obtain ⟨rfl, hb⟩ := he; exact k w' (yJ hB hb) (yJ hC hb) (yJ hD hb))
theorem iH (b : World) : Hid (Below b.heap.size b b) := aa (Below.refl _ _)
theorem Me {w w0 : World} (φ : World → Prop) (hb : Hid (Below w.heap.size w w0)) (h : Hid (φ w)) (st : ∀ {u}, φ w → Below w.heap.size w u → φ u) : Hid (∀ u : World, Hid (Below w0.heap.size w0 u) → Hid (φ u)) :=
 aa (fun u hu => aa (st h.out (ag hb.out hu.out)))
theorem JC {w : World} (φ : World → Prop) (h : φ w) (st : ∀ {u}, φ w → Below w.heap.size w u → φ u) : Hid (∀ u : World, Hid (Below w.heap.size w u) → Hid (φ u)) :=
 aa (fun u hu => aa (st h hu.out))
theorem mkS {w w0 : World} {A : Option Addr} {xs : List Int} (hb : Hid (Below w.heap.size w w0)) (h : Hid (Sl w A xs)) : Hid (∀ u : World, Hid (Below w0.heap.size w0 u) → Hid (Sl u A xs)) := Me (fun u => Sl u A xs) hb h (·.below)
theorem mkV {w w0 : World} (hb : Hid (Below w.heap.size w w0)) (h : Hid (Vars w)) : Hid (∀ u : World, Hid (Below w0.heap.size w0 u) → Hid (Vars u)) := Me (fun u => Vars u) hb h (·.below)
theorem NH {w0 : World} {p : Addr} {v : Value} (h : w0.cell? p = some v) : Hid (∀ u : World, Hid (Below w0.heap.size w0 u) → u.cell? p = some v) := aa (fun u hu => cell_below h hu.out)
theorem qo {w w0 u : World} (h : Hid (Below w.heap.size w w0)) (h2 : Hid (Below w0.heap.size w0 u)) : Below w.heap.size w u := ag h.out h2.out
def BO (u : World) (b : Nat) (o : Obj) : Prop := ∃ c T, o = .cells c T ∧ ∀ (j : Nat) v, c[j]? = some v → Own u ⟨b, j, none⟩ v
theorem BO.new (w : World) (c : Array Value) (T : TypeId) : BO (w.alloc (.cells c T)) w.heap.size (.cells c T) := ⟨c, T, rfl, fun _ _ h => wZ rfl h⟩
theorem BO.below {u u2 : World} {b : Nat} {o : Obj} (h : BO u b o) (hb : Below u.heap.size u u2) : BO u2 b o := by
 obtain ⟨c, T, e, h⟩ := h
 exact ⟨c, T, e, fun j v hj => (h j v hj).below hb⟩
theorem BO.get {u : World} {b : Nat} {c : Array Value} {T : TypeId} (h : BO u b (.cells c T)) (j : Nat) {v : Value} (hj : c[j]? = some v) : Own u ⟨b, j, none⟩ v := by
 obtain ⟨c', T', e, h⟩ := h
 cases e
 exact h j v hj
theorem Tm {a0 : Value} {r : List Value} {T : TypeId} (u : World) (b : Nat) (h : BO u b (.cells (a0 :: r).toArray T)) : u.cell? ⟨b, 0, none⟩ = some a0 := (h.get 0 (by simp)).1
theorem GH {a0 a1 : Value} {r : List Value} {T : TypeId} (u : World) (b : Nat) (h : BO u b (.cells (a0 :: a1 :: r).toArray T)) : u.cell? ⟨b, 0, none⟩ = some a0 ∧ u.cell? ⟨b, 1, none⟩ = some a1 := ⟨(h.get 0 (by simp)).1, (h.get 1 (by simp)).1⟩
theorem uR {a0 a1 a2 : Value} {r : List Value} {T : TypeId} (u : World) (b : Nat) (h : BO u b (.cells (a0 :: a1 :: a2 :: r).toArray T)) : u.cell? ⟨b, 0, none⟩ = some a0 ∧ u.cell? ⟨b, 1, none⟩ = some a1 ∧ u.cell? ⟨b, 2, none⟩ = some a2 := ⟨(h.get 0 (by simp)).1, (h.get 1 (by simp)).1, (h.get 2 (by simp)).1⟩
theorem OB {a0 : Value} {r : List Value} {T : TypeId} (u : World) (b : Nat) (R : Prop) (h : BO u b (.cells (a0 :: r).toArray T)) (g : R) : u.cell? ⟨b, 0, none⟩ = some a0 ∧ R := ⟨(h.get 0 (by simp)).1, g⟩
theorem qm {a0 a1 a2 : Value} {r : List Value} {T : TypeId} (u : World) (b : Nat) (R : Prop) (h : BO u b (.cells (a0 :: a1 :: a2 :: r).toArray T)) (g : R) : u.cell? ⟨b, 0, none⟩ = some a0 ∧ u.cell? ⟨b, 1, none⟩ = some a1 ∧ u.cell? ⟨b, 2, none⟩ = some a2 ∧ R := ⟨(h.get 0 (by simp)).1, (h.get 1 (by simp)).1, (h.get 2 (by simp)).1, g⟩
theorem st1 {c0 : Array Value} {T0 : TypeId} {C0 : World → Nat → Prop} (o0 : Obj) (h0 : ∀ u b, BO u b (.cells c0 T0) → C0 u b) (w : World) (q0 : o0 = .cells c0 T0 := by rfl) : ∃ w0, Hid ((w.alloc o0) = w0) ∧ Hid (Below w.heap.size w w0) ∧ Hid (∀ u : World, Hid (Below w0.heap.size w0 u) → C0 u (w.heap.size)) := by
 subst q0
 have p0 : BO ((w.alloc (.cells c0 T0))) (w.heap.size) (.cells c0 T0) := BO.new w c0 T0
 exact ⟨_, aa rfl, aa (af _ _), aa (fun u h => h0 _ _ (p0.below h.out))⟩
theorem st2 {c0 c1 : Array Value} {T0 T1 : TypeId} {C0 : World → Nat → Prop → Prop} {C1 : World → Nat → Prop} (o0 : Obj) (h0 : ∀ u b R, BO u b (.cells c0 T0) → R → C0 u b R) (o1 : Obj) (h1 : ∀ u b, BO u b (.cells c1 T1) → C1 u b) (w : World) (q0 : o0 = .cells c0 T0 := by rfl) (q1 : o1 = .cells c1 T1 := by rfl) : ∃ w0, Hid (((w.alloc o0).alloc o1) = w0) ∧ Hid (Below w.heap.size w w0) ∧ Hid (∀ u : World, Hid (Below w0.heap.size w0 u) → C0 u (w.heap.size) (C1 u (w.heap.size + 1))) := by
 subst q0 q1
 have p0 : BO (((w.alloc (.cells c0 T0)).alloc (.cells c1 T1))) (w.heap.size) (.cells c0 T0) := BO.below (BO.new w c0 T0) (af _ _)
 have p1 : BO (((w.alloc (.cells c0 T0)).alloc (.cells c1 T1))) (w.heap.size + 1) (.cells c1 T1) := (show (w.alloc (.cells c0 T0)).heap.size = w.heap.size + 1 by simp) ▸ BO.new (w.alloc (.cells c0 T0)) c1 T1
 exact ⟨_, aa rfl, aa (ag (af _ _) (af _ _)), aa (fun u h => h0 _ _ _ (p0.below h.out) (h1 _ _ (p1.below h.out)))⟩
theorem NC {c0 c1 c2 : Array Value} {T0 T1 T2 : TypeId} {C0 : World → Nat → Prop → Prop} {C1 : World → Nat → Prop → Prop} {C2 : World → Nat → Prop} (o0 : Obj) (h0 : ∀ u b R, BO u b (.cells c0 T0) → R → C0 u b R) (o1 : Obj) (h1 : ∀ u b R, BO u b (.cells c1 T1) → R → C1 u b R) (o2 : Obj) (h2 : ∀ u b, BO u b (.cells c2 T2) → C2 u b) (w : World) (q0 : o0 = .cells c0 T0 := by rfl) (q1 : o1 = .cells c1 T1 := by rfl) (q2 : o2 = .cells c2 T2 := by rfl) : ∃ w0, Hid ((((w.alloc o0).alloc o1).alloc o2) = w0) ∧ Hid (Below w.heap.size w w0) ∧ Hid (∀ u : World, Hid (Below w0.heap.size w0 u) → C0 u (w.heap.size) (C1 u (w.heap.size + 1) (C2 u (w.heap.size + 2)))) := by
 subst q0 q1 q2
 have p0 : BO ((((w.alloc (.cells c0 T0)).alloc (.cells c1 T1)).alloc (.cells c2 T2))) (w.heap.size) (.cells c0 T0) := BO.below (BO.below (BO.new w c0 T0) (af _ _)) (af _ _)
 have p1 : BO ((((w.alloc (.cells c0 T0)).alloc (.cells c1 T1)).alloc (.cells c2 T2))) (w.heap.size + 1) (.cells c1 T1) := BO.below ((show (w.alloc (.cells c0 T0)).heap.size = w.heap.size + 1 by simp) ▸ BO.new (w.alloc (.cells c0 T0)) c1 T1) (af _ _)
 have p2 : BO ((((w.alloc (.cells c0 T0)).alloc (.cells c1 T1)).alloc (.cells c2 T2))) (w.heap.size + 2) (.cells c2 T2) := (show ((w.alloc (.cells c0 T0)).alloc (.cells c1 T1)).heap.size = w.heap.size + 2 by simp) ▸ BO.new ((w.alloc (.cells c0 T0)).alloc (.cells c1 T1)) c2 T2
 exact ⟨_, aa rfl, aa (ag (ag (af _ _) (af _ _)) (af _ _)), aa (fun u h => h0 _ _ _ (p0.below h.out) (h1 _ _ _ (p1.below h.out) (h2 _ _ (p2.below h.out))))⟩
theorem RQ {c0 c1 c2 c3 : Array Value} {T0 T1 T2 T3 : TypeId} {C0 : World → Nat → Prop → Prop} {C1 : World → Nat → Prop → Prop} {C2 : World → Nat → Prop → Prop} {C3 : World → Nat → Prop} (o0 : Obj) (h0 : ∀ u b R, BO u b (.cells c0 T0) → R → C0 u b R) (o1 : Obj) (h1 : ∀ u b R, BO u b (.cells c1 T1) → R → C1 u b R) (o2 : Obj) (h2 : ∀ u b R, BO u b (.cells c2 T2) → R → C2 u b R) (o3 : Obj) (h3 : ∀ u b, BO u b (.cells c3 T3) → C3 u b) (w : World) (q0 : o0 = .cells c0 T0 := by rfl) (q1 : o1 = .cells c1 T1 := by rfl) (q2 : o2 = .cells c2 T2 := by rfl) (q3 : o3 = .cells c3 T3 := by rfl) : ∃ w0, Hid (((((w.alloc o0).alloc o1).alloc o2).alloc o3) = w0) ∧ Hid (Below w.heap.size w w0) ∧ Hid (∀ u : World, Hid (Below w0.heap.size w0 u) → C0 u (w.heap.size) (C1 u (w.heap.size + 1) (C2 u (w.heap.size + 2) (C3 u (w.heap.size + 3))))) := by
 subst q0 q1 q2 q3
 have p0 : BO (((((w.alloc (.cells c0 T0)).alloc (.cells c1 T1)).alloc (.cells c2 T2)).alloc (.cells c3 T3))) (w.heap.size) (.cells c0 T0) := BO.below (BO.below (BO.below (BO.new w c0 T0) (af _ _)) (af _ _)) (af _ _)
 have p1 : BO (((((w.alloc (.cells c0 T0)).alloc (.cells c1 T1)).alloc (.cells c2 T2)).alloc (.cells c3 T3))) (w.heap.size + 1) (.cells c1 T1) := BO.below (BO.below ((show (w.alloc (.cells c0 T0)).heap.size = w.heap.size + 1 by simp) ▸ BO.new (w.alloc (.cells c0 T0)) c1 T1) (af _ _)) (af _ _)
 have p2 : BO (((((w.alloc (.cells c0 T0)).alloc (.cells c1 T1)).alloc (.cells c2 T2)).alloc (.cells c3 T3))) (w.heap.size + 2) (.cells c2 T2) := BO.below ((show ((w.alloc (.cells c0 T0)).alloc (.cells c1 T1)).heap.size = w.heap.size + 2 by simp) ▸ BO.new ((w.alloc (.cells c0 T0)).alloc (.cells c1 T1)) c2 T2) (af _ _)
 have p3 : BO (((((w.alloc (.cells c0 T0)).alloc (.cells c1 T1)).alloc (.cells c2 T2)).alloc (.cells c3 T3))) (w.heap.size + 3) (.cells c3 T3) := (show (((w.alloc (.cells c0 T0)).alloc (.cells c1 T1)).alloc (.cells c2 T2)).heap.size = w.heap.size + 3 by simp) ▸ BO.new (((w.alloc (.cells c0 T0)).alloc (.cells c1 T1)).alloc (.cells c2 T2)) c3 T3
 exact ⟨_, aa rfl, aa (ag (ag (ag (af _ _) (af _ _)) (af _ _)) (af _ _)), aa (fun u h => h0 _ _ _ (p0.below h.out) (h1 _ _ _ (p1.below h.out) (h2 _ _ _ (p2.below h.out) (h3 _ _ (p3.below h.out)))))⟩
theorem KU {c : Array Value} {T : TypeId} {C : World → Nat → Prop} (o : Obj) (e : ∀ u b, BO u b (.cells c T) → C u b) (w : World) (q : o = .cells c T := by rfl) : ∃ w2, w.alloc o = w2 ∧ Hid (Below w.heap.size w w2) ∧ Hid (w2.heap.size = w.heap.size + 1) ∧ Hid (w2.heap[w.heap.size]? = some o) ∧ Hid (∀ u : World, Hid (Below w2.heap.size w2 u) → C u w.heap.size) := by
 subst q
 exact ⟨_, rfl, aa (af _ _), aa (by simp), aa (heap_alloc_new _ _), aa (fun u h => e _ _ ((BO.new w c T).below h.out))⟩
theorem qq : (∀ {α : Type} (xs : List α) (i : Nat) (h : i < xs.toArray.size), xs.toArray[i] = xs[i]'(by simpa using h)) ∧ (∀ {α : Type} (a : α) (l : List α) (h : 0 < (a :: l).length), getElem (a :: l) 0 h = a) ∧
  (∀ {α : Type} (a : α) (l : List α) (i : Nat) (h : i + 1 < (a :: l).length), getElem (a :: l) (i+1) h = getElem l i (Nat.lt_of_succ_lt_succ h)) ∧
  (∀ (a : Act) (d : Tmp) (v : Value), a.put (some d) v = { a with tmps := a.tmps.setIfInBounds d v }) ∧ (∀ (a : Act) (v : Value), a.put none v = a) ∧
  (∀ {α : Type} (l : List α) (i : Nat) (a : α), l.toArray.setIfInBounds i a = (l.set i a).toArray) ∧ (∀ {α : Type} (x : α) (xs : List α) (a : α), (x :: xs).set 0 a = a :: xs) ∧ (∀ {α : Type} (x : α) (xs : List α) (i : Nat) (a : α), (x :: xs).set (i + 1) a = x :: xs.set i a) ∧
  (∀ a b : Value, cond true a b = a) ∧ (∀ a b : Value, cond false a b = b) :=
 ⟨fun _ _ _ => rfl, fun _ _ _ => rfl, fun _ _ _ _ => rfl, fun _ _ _ => rfl, fun _ _ => rfl, fun l i a => List.setIfInBounds_toArray l i a, fun _ _ _ => rfl, fun _ _ _ _ => rfl, fun _ _ => rfl, fun _ _ => rfl⟩
section
variable {P : Program} {ops : Array Oper} {Q : Exit → Act → World → Prop} {md : Region.Mode} {S : World → Prop} {E : List Nat}
theorem sD (i : Nat) {oi : Oper} {v : Value} {fuel : Nat} {listed l2 : Array Bool} {a a2 : Act} {w : World} (h : gz P md ops Q S E fuel l2 a2 w) (hi : ops[i]? = some oi := by rfl)
  (hs : Region.noSelect ops = true := by kernel_rfl) (hf : Region.free md ops listed i = true := by kernel_rfl) (hr : (Region.ready md ops listed).contains i = true := by kernel_rfl) (hl : kG md ops listed i E = true := by kernel_rfl)
  (hQ : ∀ c a w, Q (.panic c) (a.put oi.dst v) w → Q (.panic c) a w := by exact fun _ _ _ h => h) (hw : Region.wanted oi (yielded ops a.tmps) = true := by rfl)
  (hy : ∀ w, S w → (execOp a.eval oi).run P w = .ok (.value v) w := by intro wS hSw; have zS := hO.out wS hSw; go_simp <;> with_reducible rfl) (hS : S w := by assumption) (hn : listed.setIfInBounds i true = l2 ∧ a.put oi.dst v = a2 := by refine ⟨?_, ?_⟩ <;> (try simp only [qq]) <;> rfl) : gz P md ops Q S E (fuel + 1) listed a w :=
 fG hi hs hf hr hl hQ (Or.inl ⟨hw, hy⟩) hS (hn.1 ▸ hn.2 ▸ h)
theorem lG (i : Nat) {oi : Oper} {v : Value} {fuel : Nat} {listed l2 : Array Bool} {a a2 : Act} {w : World} (h : gz P md ops Q S E fuel l2 a2 w) (hi : ops[i]? = some oi := by rfl)
  (hs : Region.noSelect ops = true := by kernel_rfl) (hf : Region.free md ops listed i = true := by kernel_rfl) (hr : (Region.ready md ops listed).contains i = true := by kernel_rfl) (hl : kG md ops listed i E = true := by kernel_rfl)
  (hQ : ∀ c a w, Q (.panic c) (a.put oi.dst v) w → Q (.panic c) a w := by exact fun _ _ _ h => h) (hw : Region.wanted oi (yielded ops a.tmps) = true := by rfl)
  (hy : ∀ w, S w → (execOp a.eval oi).run P w = .ok (.value v) w := by intro wS hSw; (try dsimp only at hSw); go_simp <;> with_reducible rfl) (hS : S w := by assumption) (hn : listed.setIfInBounds i true = l2 ∧ a.put oi.dst v = a2 := by refine ⟨?_, ?_⟩ <;> (try simp only [qq]) <;> rfl) : gz P md ops Q S E (fuel + 1) listed a w :=
 fG hi hs hf hr hl hQ (Or.inl ⟨hw, hy⟩) hS (hn.1 ▸ hn.2 ▸ h)
theorem PT (i : Nat) {oi : Oper} (v : Value) {fuel : Nat} {listed l2 : Array Bool} {a a2 : Act} {w : World} (hi : ops[i]? = some oi) (hy : ∀ w, S w → (execOp a.eval oi).run P w = .ok (.value v) w) (h : gz P md ops Q S E fuel l2 a2 w)
  (hs : Region.noSelect ops = true := by kernel_rfl) (hf : Region.free md ops listed i = true := by kernel_rfl) (hr : (Region.ready md ops listed).contains i = true := by kernel_rfl) (hl : kG md ops listed i E = true := by kernel_rfl)
  (hQ : ∀ c a w, Q (.panic c) (a.put oi.dst v) w → Q (.panic c) a w := by exact fun _ _ _ h => h) (hw : Region.wanted oi (yielded ops a.tmps) = true := by rfl) (hS : S w := by assumption) (hn : listed.setIfInBounds i true = l2 ∧ a.put oi.dst v = a2 := by refine ⟨?_, ?_⟩ <;> (try simp only [qq]) <;> rfl) : gz P md ops Q S E (fuel + 1) listed a w :=
 fG hi hs hf hr hl hQ (Or.inl ⟨hw, hy⟩) hS (hn.1 ▸ hn.2 ▸ h)
theorem mP (i : Nat) {o : Oper} {fuel : Nat} {listed : Array Bool} {a : Act} {w : World}
  (h : ∀ K' : Act → World → Prop, Shut (∀ a w, S w → (S w → gz P md ops Q S E fuel (listed.setIfInBounds i true) a w) → K' a w) → if Region.wanted o (yielded ops a.tmps) = true then Oper.wp P o a w K' Q else K' (a.put o.dst undef) w)
  (hr : Region.ready md ops listed = [i] := by kernel_rfl) (ho : ops[i]? = some o := by rfl) : gz P md ops Q S E (fuel + 1) listed a w := Ee hr ho h
def Gq (md : Region.Mode) (ops : Array Oper) (E : List Nat) (l : Array Bool) (i : Nat) : Bool := Region.noSelect ops && (Region.free md ops l i && ((Region.ready md ops l).contains i && kG md ops l i E))
theorem yj {i : Nat} {o : Oper} {v : Value} {fuel : Nat} {l l2 : Array Bool} {a a2 : Act} {w : World} (g : ops[i]? = some o) (c : Gq md ops E l i = true) (hw : Region.wanted o (yielded ops a.tmps) = true) (y : ∀ w, S w → (execOp a.eval o).run P w = .ok (.value v) w) (hS : S w) (n : l.setIfInBounds i true = l2 ∧ a.put o.dst v = a2)
    (q : ∀ d v c a w, Q (.panic c) (Act.put a d v) w → Q (.panic c) a w) (h : gz P md ops Q S E fuel l2 a2 w) : gz P md ops Q S E (fuel + 1) l a w := by
  simp only [Gq, Bool.and_eq_true] at c
  obtain ⟨rfl, rfl⟩ := n
  exact fG g c.1 c.2.1 c.2.2.1 c.2.2.2 (q _ _) (Or.inl ⟨hw, y⟩) hS h
theorem PW {i : Nat} {o : Oper} {fuel : Nat} {l l2 : Array Bool} {a a2 : Act} {w : World} (g : ops[i]? = some o) (c : Gq md ops E l i = true) (hw : Region.wanted o (yielded ops a.tmps) = false) (hS : S w) (n : l.setIfInBounds i true = l2 ∧ a.put o.dst undef = a2)
    (q : ∀ d v c a w, Q (.panic c) (Act.put a d v) w → Q (.panic c) a w) (h : gz P md ops Q S E fuel l2 a2 w) : gz P md ops Q S E (fuel + 1) l a w := by
  simp only [Gq, Bool.and_eq_true] at c
  obtain ⟨rfl, rfl⟩ := n
  exact fG g c.1 c.2.1 c.2.2.1 c.2.2.2 (q _ _) (Or.inr ⟨hw, rfl⟩) hS h
theorem jT (i0 i1 i2 i3 : Nat) {o0 o1 o2 o3 : Oper} {v0 v1 v2 v3 : Value} {fuel : Nat} {l0 l1 l2 l3 l4 : Array Bool} {a0 a1 a2 a3 a4 : Act} {w : World} (h : gz P md ops Q S E fuel l4 a4 w)
    (g0 : ops[i0]? = some o0 := by rfl) (c0 : Gq md ops E l0 i0 = true := by kernel_rfl) (w0 : Region.wanted o0 (yielded ops a0.tmps) = true := by rfl) (y0 : ∀ w, S w → (execOp a0.eval o0).run P w = .ok (.value v0) w := by intro wS hSw; have zS := hO.out wS hSw; go_simp <;> with_reducible rfl) (n0 : l0.setIfInBounds i0 true = l1 ∧ a0.put o0.dst v0 = a1 := by refine ⟨?_, ?_⟩ <;> (try simp only [qq]) <;> rfl)
    (g1 : ops[i1]? = some o1 := by rfl) (c1 : Gq md ops E l1 i1 = true := by kernel_rfl) (w1 : Region.wanted o1 (yielded ops a1.tmps) = true := by rfl) (y1 : ∀ w, S w → (execOp a1.eval o1).run P w = .ok (.value v1) w := by intro wS hSw; have zS := hO.out wS hSw; go_simp <;> with_reducible rfl) (n1 : l1.setIfInBounds i1 true = l2 ∧ a1.put o1.dst v1 = a2 := by refine ⟨?_, ?_⟩ <;> (try simp only [qq]) <;> rfl)
    (g2 : ops[i2]? = some o2 := by rfl) (c2 : Gq md ops E l2 i2 = true := by kernel_rfl) (w2 : Region.wanted o2 (yielded ops a2.tmps) = true := by rfl) (y2 : ∀ w, S w → (execOp a2.eval o2).run P w = .ok (.value v2) w := by intro wS hSw; have zS := hO.out wS hSw; go_simp <;> with_reducible rfl) (n2 : l2.setIfInBounds i2 true = l3 ∧ a2.put o2.dst v2 = a3 := by refine ⟨?_, ?_⟩ <;> (try simp only [qq]) <;> rfl)
    (g3 : ops[i3]? = some o3 := by rfl) (c3 : Gq md ops E l3 i3 = true := by kernel_rfl) (w3 : Region.wanted o3 (yielded ops a3.tmps) = true := by rfl) (y3 : ∀ w, S w → (execOp a3.eval o3).run P w = .ok (.value v3) w := by intro wS hSw; have zS := hO.out wS hSw; go_simp <;> with_reducible rfl) (n3 : l3.setIfInBounds i3 true = l4 ∧ a3.put o3.dst v3 = a4 := by refine ⟨?_, ?_⟩ <;> (try simp only [qq]) <;> rfl)
    (S0 : S w := by assumption) (q : ∀ d v c a w, Q (.panic c) (Act.put a d v) w → Q (.panic c) a w := by first | exact fun _ _ _ _ _ h => h | (intro d v c a w h; cases d <;> exact h)) : gz P md ops Q S E (fuel + 4) l0 a0 w := yj g0 c0 w0 y0 S0 n0 q (yj g1 c1 w1 y1 S0 n1 q (yj g2 c2 w2 y2 S0 n2 q (yj g3 c3 w3 y3 S0 n3 q h)))
theorem JA (i : Nat) {o : Oper} {fuel : Nat} {listed : Array Bool} {a : Act} {w : World}
  (h : ∀ K' : Act → World → Prop, Shut (∀ a w, gz P md ops Q S E fuel (listed.setIfInBounds i true) a w → K' a w) → if Region.wanted o (yielded ops a.tmps) = true then Oper.wp P o a w K' Q else K' (a.put o.dst undef) w)
  (hr : Region.ready md ops listed = [i] := by kernel_rfl) (hE : i ∈ E := by simp) (ho : ops[i]? = some o := by rfl) : gz P md ops Q S E (fuel + 1) listed a w := Ar hr hE ho h
theorem AA {fuel : Nat} {listed : Array Bool} {a : Act} {w : World} (h : Q .normal a w) (hr : Region.ready md ops listed = [] := by kernel_rfl) : gz P md ops Q S E fuel listed a w := Au hr h fuel
theorem Md {id : Nat} {a : Act} {w : World} (B : World → Prop) (E : List Nat) (hS : Hid (B w.drew)) (h : Hid (B w.drew) → gz P .any ops Q (fun u => Hid (B u)) E ops.size (Array.replicate ops.size false) a w.drew)
  (hm : P.follows .mixedOrders = true := by kernel_rfl) : (Code.region id ops true).wp P Q a w := di hm hS h
theorem NG {id : Nat} {a : Act} {w b : World} (E : List Nat) (hS : Hid (Below b.heap.size b w)) (h : Hid (Below b.heap.size b w.drew) → gz P .any ops Q (fun u => Hid (Below b.heap.size b u)) E ops.size (Array.replicate ops.size false) a w.drew)
  (hm : P.follows .mixedOrders = true := by kernel_rfl) : (Code.region id ops true).wp P Q a w := di hm (yJ hS (Below.refl _ _).drew) h
end
def pz (N : Nat) (l : List Int) : List Int := l ++ aT (N - l.length)
theorem Bt {N : Nat} {l : List Int} (h : l.length ≤ N) : (pz N l).length = N := by simp [pz, aT]; omega
theorem Hy {N : Nat} {l : List Int} {x : Int} (h : l.length < N) : (pz N l).set l.length x = pz N (l ++ [x]) := by
 obtain ⟨m, hm⟩ : ∃ m, N - l.length = m + 1 := ⟨N - l.length - 1, by omega⟩
 have hm2 : N - (l ++ [x]).length = m := by rw [List.length_append, List.length_singleton]; omega
 rw [pz, pz, hm, hm2, aT, List.replicate_succ, List.set_append_right _ _ (Nat.le_refl _), Nat.sub_self, List.set_cons_zero]
 simp [aT]
theorem xS {N : Nat} {l : List Int} (h : l.length = N) : pz N l = l := by simp [pz, aT, h]
theorem xR {N k : Nat} {l : List Int} (h : k < l.length) (h2 : k < N) : (pz N (l.take k)).set k (l.getD k 0) = pz N (l.take (k + 1)) := by
 have e := Hy (N := N) (l := l.take k) (x := l.getD k 0) (by rw [List.length_take]; omega)
 rw [List.length_take, Nat.min_eq_left (by omega)] at e
 rw [e, take_one h]
theorem J6 : (#[.int .u8 0, .int .u8 0, .int .u8 0, .int .u8 0, .int .u8 0, .int .u8 0, .int .u8 0, .int .u8 0] : Array Value) = arr .u8 (aT 8) := rfl
theorem FP (n : Int) : ∀ k : Nat, k < 8 → (jO n).getD k 0 = n / 2 ^ (56 - 8 * k) % 256
 | 0, _ => rfl
 | 1, _ => rfl
 | 2, _ => rfl
 | 3, _ => rfl
 | 4, _ => rfl
 | 5, _ => rfl
 | 6, _ => rfl
 | 7, _ => by simp [jO]
 | k + 8, h => absurd h (by omega)
theorem zO (n : Int) (w : World) :
  Calls Tryz.prog 114 #[.int .u64 n] w fun e w' => e = .returned (.slice (some ⟨w.heap.size, 0, none⟩) 8 8) ∧ bD .u8 5 w' w.heap.size (jO n) ∧ Below w.heap.size w w' := by
 obtain ⟨W, hW⟩ : ∃ W, w.alloc (.cells #[.int .u8 0, .int .u8 0, .int .u8 0, .int .u8 0, .int .u8 0, .int .u8 0, .int .u8 0, .int .u8 0] 5) = W := ⟨_, rfl⟩
 have jr : Hid (Below w.heap.size w W) := aa (by rw [← hW]; exact af _ _)
 have HB0 : Hid (bD .u8 5 W w.heap.size (pz 8 ((jO n).take 0))) := aa (by
  rw [← hW, J6]
  exact bD.new _ _)
 have hmk : ∀ w, (Instr.makeSlice 132 (.int .i64 8) (.int .i64 8)).run Tryz.prog w = .ok (.slice (some ⟨w.heap.size, 0, none⟩) 8 8) (w.alloc (.cells #[.int .u8 0, .int .u8 0, .int .u8 0, .int .u8 0, .int .u8 0, .int .u8 0, .int .u8 0, .int .u8 0] 5)) := fun _ => by kernel_rfl
 have HW := aa hW
 clear hW
 go_in
 go_wp2
 rw [HW.out]
 clear HW hmk
 go_loopw [8] (fun i u => ∃ k : Nat, k ≤ 8 ∧ i = .int .i64 k ∧ Hid (bD .u8 5 u w.heap.size (pz 8 ((jO n).take k))) ∧ Hid (Below w.heap.size w u)) (fun i _ => 8 - (intOf i).toNat)
 case atStart => exact ⟨0, by omega, rfl, HB0, jr⟩
 case round =>
  obtain ⟨k, hk, rfl, HB, aB⟩ := hrel
  by_cases hlt : k < 8
  ·
   have hc := HB.out.cell (j := k) (by rw [Bt (by rw [List.length_take, fZ]; omega)]; exact hlt)
   have hf := HB.out.free k
   have hst := xR (N := 8) (k := k) (l := jO n) hlt hlt
   rw [FP n k hlt] at hst
   obtain ⟨q, hq⟩ : ∃ q, n / 2 ^ (56 - 8 * k) = q := ⟨_, rfl⟩
   rw [hq] at hst
   have j0 : (0 : Int) ≤ 56 - 8 * k := by omega
   have j1 : (56 - 8 * (k : Int)).toNat = 56 - 8 * k := by omega
   have HB2 : Hid (bD .u8 5 (wr.setCell ⟨w.heap.size, k, none⟩ (.int .u8 (q % 256))) w.heap.size (pz 8 ((jO n).take (k + 1)))) := aa (by
    rw [← hst]
    exact HB.out.set)
   have DT : Hid (Below w.heap.size w (wr.setCell ⟨w.heap.size, k, none⟩ (.int .u8 (q % 256)))) := aa (aB.out.setCell (Nat.le_refl _) _)
   clear hst HB aB
   go_wp2
   try go_region
   try (rw [hq])
   go_wp2
   go_roundw
   case rel => exact ⟨k + 1, by omega, by go_num, HB2, DT⟩
   case measure => simp [intOf]; omega
  ·
   have Jt : Hid (bD .u8 5 wr w.heap.size (jO n)) := aa (by
    have h := HB.out
    rwa [show k = (jO n).length by rw [fZ]; omega, List.take_length, xS (fZ n)] at h)
   clear HB
   go_wp2
   go_ret
   exact ⟨rfl, Jt.out, aB.out⟩
theorem yN (b o i : Nat) : (⟨b, o, none⟩ : Addr).add i = ⟨b, o + i, none⟩ := by unfold Addr.add; split <;> simp_all
theorem Sk.news {K : IntKind} {w : World} {b o : Nat} {l : List Int} (h : Sk K w (some ⟨b, o, none⟩) l) : ∀ j u, (l.map (Value.int K))[j]? = some u → w.cell? ((⟨b, o, none⟩ : Addr).add j) = some u := fun j u hj => by
 rw [List.getElem?_map] at hj
 by_cases hl : j < l.length
 ·
  rw [List.getElem?_eq_getElem hl] at hj
  rw [yN, h.cell hl, List.getD_eq_getElem?_getD, List.getElem?_eq_getElem hl]
  exact hj
 · rw [List.getElem?_eq_none (by omega)] at hj; cases hj
theorem Sk.at_add {K : IntKind} {w : World} {b o n : Nat} {l : List Int} (h : Sk K w (some ⟨b, o, none⟩) l) (hn : l.length = n) : ∀ i, i < n → w.cell? ((⟨b, o, none⟩ : Addr).add i) = some (.int K (l.getD i 0)) := fun i hi => by
 rw [yN]; exact h.cell (by omega)
theorem Sk.setRow_ne {K : IntKind} {w : World} {a : Nat} {A : Option Addr} {l : List Int} {cs : Array Value} (h : Sk K w A l) (hne : ∀ b o, A = some ⟨b, o, none⟩ → b ≠ a) : Sk K (w.setRow a cs) A l := fun j hj => by
 obtain ⟨b, o, e, hc⟩ := h j hj
 exact ⟨b, o, e, by rw [cell_setRow_other _ _ _ _ (hne b o e)]; exact hc⟩
theorem uG : (Tryz.prog.info? 5).map (fun i => (i.zero, i.size, i.bytes)) = some (some (.int .u8 0), 1, 1) := by kernel_rfl
theorem Kn : (Tryz.prog.info? 25).map (·.size) = some 32 := by kernel_rfl
theorem bE {l : List Int} (h : l.length = 32) : (Tryz.prog.info? 25).map (·.size) = some (arr .u8 l).size := Kn.trans (congrArg some (by rw [aS, h]))
theorem jf {l m : List Int} (h : l.length = 32) (h2 : m.length = 32) : (arr .u8 l).size = (arr .u8 m).size := by rw [aS, aS, h, h2]
theorem xE : (z32 : Array Value) = arr .u8 (aT 32) := rfl
theorem EW (s : St) : ∀ k : Nat, k < 8 → ∀ m : Nat, m < 4 → (jH s).getD (4 * k + m) 0 = s.list.getD k 0 / 2 ^ (24 - 8 * m) % 256 := by
 intro k hk m hm
 obtain ⟨a, b, c, d, e, f, g, h⟩ := s
 rcases (show k = 0 ∨ k = 1 ∨ k = 2 ∨ k = 3 ∨ k = 4 ∨ k = 5 ∨ k = 6 ∨ k = 7 by omega) with rfl | rfl | rfl | rfl | rfl | rfl | rfl | rfl <;>
 rcases (show m = 0 ∨ m = 1 ∨ m = 2 ∨ m = 3 by omega) with rfl | rfl | rfl | rfl <;>
 simp [jH, nR, St.list]
theorem nQ (s : St) : (jH s).length = 32 := rfl
def lenOf : Value → Nat
 | .slice _ n _ => n
 | _ => 0
theorem Bq (m : Nat) : List.replicate (m + 1) (0 : Int) = List.replicate m 0 ++ [0] := List.replicate_succ' ..
theorem E9 (xa xb xc xd xe xf xg xh : Int) (b o cap : Nat) (blk : List Int) (hlen : Hid (blk.length = 64)) (hby : Hid (aA blk = true)) (w : World) (hs : Hid (Sk .u8 w (some ⟨b, o, none⟩) blk)) (hcap : 64 ≤ cap) (hcm : cap ≤ 9223372036854775807) (hv : Hid (dQ w)) :
  Calls Tryz.prog 115 #[.agg #[.int .u32 xa, .int .u32 xb, .int .u32 xc, .int .u32 xd, .int .u32 xe, .int .u32 xf, .int .u32 xg, .int .u32 xh], .slice (some ⟨b, o, none⟩) 64 cap] w (Rt w (.agg (arr .u32 (vP ⟨xa, xb, xc, xd, xe, xf, xg, xh⟩ blk).list))) := by
 rw [FU]
 exact E_ ⟨xa, xb, xc, xd, xe, xf, xg, xh⟩ b o cap blk hlen hby w hs hcap hcm hv
theorem Ew (b o c : Nat) (l : List Int) (n : Nat) (hn : Hid (l.length = n)) (hbig : n ≤ 1000000) (hby : Hid (aA l = true)) (w : World) (hs : Hid (Sk .u8 w (some ⟨b, o, none⟩) l)) (hv : Hid (dQ w)) :
  Calls Tryz.prog 105 #[.slice (some ⟨b, o, none⟩) n c] w (Rt w (.agg (arr .u8 (xN l)))) := by
 obtain ⟨i0, hi, hz0, hz1, hz2⟩ := info_parts uG
 obtain ⟨W, hW⟩ : ∃ W, w.alloc (.cells z32 25) = W := ⟨_, rfl⟩
 have jr : Hid (Below w.heap.size w W) := aa (by rw [← hW]; exact af _ _)
 have mI : Hid (bD .u8 25 W w.heap.size (aT 32)) := aa (by
  rw [← hW, xE]
  exact bD.new _ _)
 have D6 : Hid (W.heap.size = w.heap.size + 1) := aa (by rw [← hW]; simp)
 have HS := aa (hs.out.below jr.out)
 have HV := aa (hv.out.below jr.out)
 have HW := aa hW
 clear hW hs hv
 go_in
 go_wp2_with fail
 rw [HW.out]
 refine (Tryz.bytes_Clone_at ⟨b, o, none⟩ n c l _ hn.out (by omega) (HS.out.at_add hn.out)).mono ?_
 rintro e w1 ⟨v1, rfl, ho1, hne1, hb1⟩
 have D9 : Hid (dh .u8 5 w1 W.heap.size v1 l) := aa (by unfold dh; rw [hn.out]; exact ho1)
 have HB1 := hb1
 have LU := aa hb1
 have hbs := hb1.size
 clear HW hne1 HB1 hb1
 have hown := D9.out.row hn.out
 clear ho1
 go_wp2_with (at_builtin; refine wpList_append_own _ rfl _ _ 132 rfl W.heap.size 5 i0 (.int .u8 0) 1 1 Tryz.underlying132 hi hz0 hz1 hz2 rfl (by decide) _ _ _ rfl (hown.alloc _) ⟨w1.heap.size, 0, none⟩ 1 1 [.int .u8 128] rfl rfl (cell_one_new _ _ _) (ints_oneCell .u8 [128]) (by unfold maxLen; omega) (by omega) (by simp; omega) ?_; intro v2 w2 hown2 hgrow2 _)
 have GQ : Hid (dh .u8 5 w2 W.heap.size v2 (l ++ [128])) := aa (dh.app hn.out.symm rfl hown2)
 have Py : Hid (Below W.heap.size W w2) := aa (D9.out.below LU.out hbs hgrow2)
 clear hown hown2 hgrow2 D9 hbs LU
 obtain ⟨A2, c2, e2, _⟩ := GQ.out.sk
 rw [List.length_append, hn.out, List.length_singleton] at e2
 subst e2
 go_loopw [3] (fun p u => ∃ (N : Nat) (A : Option Addr) (cap : Nat), n + 1 ≤ N ∧ N ≤ n + 1 + j5 n ∧ p = .slice A N cap ∧ Hid (dh .u8 5 u W.heap.size p (l ++ [128] ++ List.replicate (N - n - 1) 0)) ∧ Hid (Below W.heap.size W u)) (fun p _ => n + 65 - lenOf p)
 case atStart => exact ⟨n + 1, A2, c2, Nat.le_refl _, by omega, rfl, aa (by rw [show n + 1 - n - 1 = 0 by omega]; simpa using GQ.out), Py⟩
 case round =>
  obtain ⟨N, A, cap, hN0, hN1, rfl, HO, aB⟩ := hrel
  have hpz : j5 n < 64 := by unfold j5; omega
  have hll : (l ++ [128] ++ List.replicate (N - n - 1) 0).length = N := by simp [hn.out]; omega
  by_cases hend : N % 64 = 56
  ·
   have HN : Hid (N = n + 1 + j5 n) := aa (by unfold j5 at hN1 hpz ⊢; omega)
   have t1 : ((N : Int) % 64 == 56) = true := by simp; omega
   have t2 : ((N : Int) % 64 != 56) = false := by simp; omega
   clear hend
   go_wp2_with fail
   refine (zO _ _).mono ?_
   rintro e w3 ⟨rfl, hbl, hb3⟩
   have GN := aa (HO.out.keep hb3)
   have DR := aa (aB.out.trans (hb3.mono aB.out.size))
   have Rv := aa hbl
   have hbs := DR.out.size
   have hown := GN.out.row hll
   have uM := aa hll
   clear hbl hb3 HO aB hll
   go_upto_region 5 with (at_builtin; refine wpList_append_own _ rfl _ _ 132 rfl W.heap.size 5 i0 (.int .u8 0) 1 1 Tryz.underlying132 hi hz0 hz1 hz2 rfl (by decide) _ _ _ rfl hown ⟨wr.heap.size, 0, none⟩ 8 8 ((jO (8 * (n : Int))).map (.int .u8)) rfl rfl (Rv.out.sk.news) (ints_oneCell .u8 (jO (8 * (n : Int)))) (by unfold maxLen j5 at *; omega) (by unfold j5 at *; omega) (by omega) ?_; intro v4 w4 hown2 hgrow2 _)
   have Jm : Hid (dh .u8 5 w4 W.heap.size v4 (j6 l)) := aa (by
    have h := dh.app (ys := jO (8 * (n : Int))) uM.out.symm rfl hown2
    have e : l ++ [128] ++ List.replicate (N - n - 1) 0 ++ jO (8 * (n : Int)) = j6 l := by
     rw [j6, hn.out, show N - n - 1 = j5 n by have := HN.out; omega]
    rwa [e] at h)
   have DN : Hid (Below W.heap.size W w4) := aa (GN.out.below0 DR.out hbs hgrow2)
   clear hown hown2 hgrow2 GN Rv DR hbs
   obtain ⟨M, hM⟩ : ∃ M, (j6 l).length = 64 * M := ⟨(j6 l).length / 64, by have := BH l; omega⟩
   have hM1 : 1 ≤ M := by rw [nL] at hM; omega
   have hM2 : 64 * M ≤ n + 200 := by rw [nL, hn.out, j5] at hM; omega
   obtain ⟨g4, cap4, e4, hg4, hcap, Gx, Fj⟩ := Jm.out.cells (by omega)
   rw [hM] at e4 hcap
   obtain ⟨P, hP⟩ : ∃ P, j6 l = P := ⟨_, rfl⟩
   have Qk : aA P = true := by rw [← hP]; exact vH hby.out
   rw [hP] at Fj hM Jm
   have HP : Kp (j6 l = P) := ⟨hP⟩
   have HM := aa hM
   have TS := aa Qk
   have Dw := aa Fj
   have hcm : cap4 ≤ 9223372036854775807 := by simpa [maxLen] using Gx
   have Sq : g4 < w4.heap.size := Fj.lt (by omega)
   subst e4
   clear hP hM Qk Fj Gx Jm uM t1 t2
   have Aj := aa (HV.out.below DN.out)
   obtain ⟨s0, s1, s2, s3, s4, s5, s6, s7⟩ : w4.cell? ⟨4, 0, none⟩ = some (.int .u32 1779033703) ∧ w4.cell? ⟨4, 1, none⟩ = some (.int .u32 3144134277) ∧ w4.cell? ⟨4, 2, none⟩ = some (.int .u32 1013904242) ∧ w4.cell? ⟨4, 3, none⟩ = some (.int .u32 2773480762) ∧ w4.cell? ⟨4, 4, none⟩ = some (.int .u32 1359893119) ∧ w4.cell? ⟨4, 5, none⟩ = some (.int .u32 2600822924) ∧ w4.cell? ⟨4, 6, none⟩ = some (.int .u32 528734635) ∧ w4.cell? ⟨4, 7, none⟩ = some (.int .u32 1541459225) :=
    ⟨Aj.out.2 0 (by decide), Aj.out.2 1 (by decide), Aj.out.2 2 (by decide), Aj.out.2 3 (by decide), Aj.out.2 4 (by decide), Aj.out.2 5 (by decide), Aj.out.2 6 (by decide), Aj.out.2 7 (by decide)⟩
   go_wp2_with ((with_reducible show wpList _ _ _ (⟨none, _, _, _, _, _⟩ :: _) _ _); refine wpList_store_row rfl 138 _ _ rfl w4.heap.size (arr .u32 st0.list) rfl rfl _ _ (heap_alloc_new _ _) (eu st0) rfl (dU _) ?_)
   clear s0 s1 s2 s3 s4 s5 s6 s7
   rw [World.setRow_alloc_new]
   simp only [Act.put]
   have LQ : Hid (Below W.heap.size W (w4.alloc (.cells (arr .u32 st0.list) 138))) := aa (DN.out.alloc DN.out.size _)
   have Le : Hid (bD .u32 138 (w4.alloc (.cells (arr .u32 st0.list) 138)) w4.heap.size (jk P 0).list) := aa (bD.new _ _)
   have Lg : Hid (Sk .u8 (w4.alloc (.cells (arr .u32 st0.list) 138)) (some ⟨g4, 0, none⟩) (P.drop (64 * 0))) := aa (by
    rw [Nat.mul_zero, List.drop_zero]
    exact Dw.out.below (af _ _))
   have Oe := DN.out.size
   obtain ⟨W5, Qe⟩ : ∃ u, w4.alloc (.cells (arr .u32 st0.list) 138) = u := ⟨_, rfl⟩
   rw [Qe] at LQ Le Lg ⊢
   clear Qe Dw DN Aj
   go_loopw [3] (fun p u => ∃ (k R off cp : Nat), k ≤ M ∧ Hid (64 * k + R = 64 * M) ∧ p = .slice (some ⟨g4, off, none⟩) R cp ∧ R ≤ cp ∧ cp ≤ 9223372036854775807 ∧ Hid (Sk .u8 u (some ⟨g4, off, none⟩) (P.drop (64 * k))) ∧ Hid (bD .u32 138 u w4.heap.size (jk P k).list) ∧ Hid (Below W.heap.size W u)) (fun p _ => lenOf p)
   case atStart => exact ⟨0, 64 * M, 0, cap4, by omega, aa (by omega), rfl, hcap, hcm, Lg, Le, LQ⟩
   case round =>
    obtain ⟨k, R, off, cp, hk, HR, rfl, Vo, hcp, mH, yS, aB⟩ := hrel
    by_cases hR0 : 0 < R
    ·
     have SL : 64 ≤ R := by have := HR.out; omega
     have Sz : (64 : Int) ≤ (cp : Int) := by omega
     have U_ : k < M := by have := HR.out; omega
     have PK : Hid ((eO P k).length = 64) := aa (uH (by have := HM.out; omega))
     have Gh : Hid (aA (eO P k) = true) := aa (pF TS.out k)
     obtain ⟨⟨xa, xb, xc, xd, xe, xf, xg, xh⟩, hS⟩ : ∃ T, jk P k = T := ⟨_, rfl⟩
     rw [hS] at yS
     have Du : Kp (jk P k = ⟨xa, xb, xc, xd, xe, xf, xg, xh⟩) := ⟨hS⟩
     clear hS
     have Ld : Hid (Sk .u8 wr (some ⟨g4, off, none⟩) (eO P k)) := aa (mH.out.take)
     have zZ := aa (HV.out.below aB.out)
     have Ro : Hid (wr.cell? ⟨w4.heap.size, 0, none⟩ = some (.int .u32 xa) ∧ wr.cell? ⟨w4.heap.size, 1, none⟩ = some (.int .u32 xb) ∧ wr.cell? ⟨w4.heap.size, 2, none⟩ = some (.int .u32 xc) ∧ wr.cell? ⟨w4.heap.size, 3, none⟩ = some (.int .u32 xd) ∧ wr.cell? ⟨w4.heap.size, 4, none⟩ = some (.int .u32 xe) ∧ wr.cell? ⟨w4.heap.size, 5, none⟩ = some (.int .u32 xf) ∧ wr.cell? ⟨w4.heap.size, 6, none⟩ = some (.int .u32 xg) ∧ wr.cell? ⟨w4.heap.size, 7, none⟩ = some (.int .u32 xh)) := aa ⟨yS.out.cell (j := 0) (show 0 < 8 by decide), yS.out.cell (j := 1) (show 1 < 8 by decide), yS.out.cell (j := 2) (show 2 < 8 by decide), yS.out.cell (j := 3) (show 3 < 8 by decide), yS.out.cell (j := 4) (show 4 < 8 by decide), yS.out.cell (j := 5) (show 5 < 8 by decide), yS.out.cell (j := 6) (show 6 < 8 by decide), yS.out.cell (j := 7) (show 7 < 8 by decide)⟩
     obtain ⟨T, hT⟩ : ∃ T, vP ⟨xa, xb, xc, xd, xe, xf, xg, xh⟩ (eO P k) = T := ⟨_, rfl⟩
     have HT : Kp (vP ⟨xa, xb, xc, xd, xe, xf, xg, xh⟩ (eO P k) = T) := ⟨hT⟩
     have JO : Kp (jk P (k + 1) = T) := ⟨by rw [jk, Du.out, hT]⟩
     clear hT
     go_wp2_with fail
     refine di (S := fun w' => w'.cell? ⟨w4.heap.size, 0, none⟩ = some (.int .u32 xa) ∧ w'.cell? ⟨w4.heap.size, 1, none⟩ = some (.int .u32 xb) ∧ w'.cell? ⟨w4.heap.size, 2, none⟩ = some (.int .u32 xc) ∧ w'.cell? ⟨w4.heap.size, 3, none⟩ = some (.int .u32 xd) ∧ w'.cell? ⟨w4.heap.size, 4, none⟩ = some (.int .u32 xe) ∧ w'.cell? ⟨w4.heap.size, 5, none⟩ = some (.int .u32 xf) ∧ w'.cell? ⟨w4.heap.size, 6, none⟩ = some (.int .u32 xg) ∧ w'.cell? ⟨w4.heap.size, 7, none⟩ = some (.int .u32 xh)) (E := [3, 4]) (by kernel_rfl) (by simpa using Ro.out) (fun hHeld => ?_)
     refine lG 0 ?_
     refine lG 1 ?_
     refine lG 2 ?_
     refine JA 3 fun K hK => ?_
     go_simp
     refine (E9 xa xb xc xd xe xf xg xh g4 off cp (eO P k) PK Gh _ (aa (Ld.out.below (Below.refl _ _).drew)) (by omega) hcp (aa (zZ.out.below (Below.refl _ _).drew))).mono ?_
     rintro e w6 ⟨rfl, hb6⟩
     rw [HT.out]
     refine hK.out _ _ ?_
     clear hK K
     try simp only [qq]
     refine JA 4 fun K hK => ?_
     refine wp_store_row 138 _ _ rfl w4.heap.size (arr .u32 T.list) rfl rfl 138 _ ((yS.out.below (Below.refl _ _).drew).below hb6) (eu T) rfl (dU _) ?_
     refine hK.out _ _ ?_
     clear hK K
     try simp only [qq]
     refine AA ?_
     have Jf : Hid (bD .u32 138 (w6.setRow w4.heap.size (arr .u32 T.list)) w4.heap.size (jk P (k + 1)).list) := aa (by
      rw [JO.out]
      exact ((yS.out.below (Below.refl _ _).drew).below hb6).setRow)
     have DT : Hid (Below W.heap.size W (w6.setRow w4.heap.size (arr .u32 T.list))) := aa (aj (aB.out.drew.trans (hb6.mono aB.out.size)) Oe)
     have Lc : Hid (Sk .u8 (w6.setRow w4.heap.size (arr .u32 T.list)) (some ⟨g4, off, none⟩) (P.drop (64 * k))) := aa (((mH.out.below (Below.refl _ _).drew).below hb6).setRow_ne (fun b o e => by cases e; omega))
     obtain ⟨w7, hw7⟩ : ∃ u, w6.setRow w4.heap.size (arr .u32 T.list) = u := ⟨_, rfl⟩
     rw [hw7] at Jf DT Lc ⊢
     clear hw7 hb6 mH Ld yS aB zZ Ro HT JO Du hHeld
     have S9 : (64 : Int) ≤ (R : Int) := by omega
     by_cases hce : cp = 64
     ·
      subst hce
      obtain rfl : R = 64 := by omega
      have O9 : Hid (Sk .u8 w7 (some ⟨g4, off, none⟩) (P.drop (64 * (k + 1)))) := aa (Sk.nil_of (by rw [List.length_drop, HM.out]; have := HR.out; omega))
      have HR2 : Hid (64 * (k + 1) + 0 = 64 * M) := aa (by have := HR.out; omega)
      go_wp2
      go_roundw
      case rel => exact ⟨k + 1, 0, off, 0, by omega, HR2, rfl, by omega, by omega, O9, Jf, DT⟩
      case measure => simp [lenOf]
     ·
      have O9 : Hid (Sk .u8 w7 (some ⟨g4, off + 64, none⟩) (P.drop (64 * (k + 1)))) := aa (by
       have h := Lc.out.drop (n := 64)
       rwa [List.drop_drop, show 64 * k + 64 = 64 * (k + 1) by omega] at h)
      have HR2 : Hid (64 * (k + 1) + (R - 64) = 64 * M) := aa (by have := HR.out; omega)
      go_wp2
      go_roundw
      case rel => exact ⟨k + 1, R - 64, off + 64, cp - 64, by omega, HR2, rfl, by omega, by omega, O9, Jf, DT⟩
      case measure => simp [lenOf]; omega
    ·
     obtain rfl : R = 0 := by omega
     obtain ⟨⟨xa, xb, xc, xd, xe, xf, xg, xh⟩, hS⟩ : ∃ T, jk P M = T := ⟨_, rfl⟩
     have OU : Kp (xN l = jH ⟨xa, xb, xc, xd, xe, xf, xg, xh⟩) := ⟨by
      rw [xN, HP.out, HM.out, show 64 * M / 64 = M by omega, hS]⟩
     have OQ : Hid (bD .u32 138 wr w4.heap.size (St.mk xa xb xc xd xe xf xg xh).list) := aa (by
      rw [← hS, show M = k by have := HR.out; omega]
      exact yS.out)
     have OH : Hid (bD .u8 25 (wr.alloc (.cells z32 25)) wr.heap.size (pz 32 ((jH ⟨xa, xb, xc, xd, xe, xf, xg, xh⟩).take (4 * 0)))) := aa (by
      rw [xE]
      exact bD.new _ _)
     have Ry : Hid (Below W.heap.size W (wr.alloc (.cells z32 25))) := aa (aB.out.alloc aB.out.size _)
     clear hS yS mH HR
     go_upto_region 11 with ((with_reducible show wpList _ _ _ (⟨some 37, _, _, _, _, _⟩ :: _) _ _); refine wpList_load_row rfl 138 _ rfl w4.heap.size rfl _ _ _ _ (OQ.out.old _) Tryz.underlying138 rfl (eu _) ?_)
     rw [← FU]
     have hbr := aB.out.size
     obtain ⟨WN, Oj⟩ : ∃ u, wr.alloc (.cells z32 25) = u := ⟨_, rfl⟩
     rw [Oj] at OH Ry ⊢
     obtain ⟨B5, Ov⟩ : ∃ x, wr.heap.size = x := ⟨_, rfl⟩
     have VA : Hid (B5 < WN.heap.size) := aa (by rw [← Oj, ← Ov]; simp)
     rw [Ov] at OH hbr ⊢
     clear Oj Ov
     go_loopw [38] (fun i u => ∃ k : Nat, k ≤ 8 ∧ i = .int .i64 k ∧ Hid (bD .u8 25 u B5 (pz 32 ((jH ⟨xa, xb, xc, xd, xe, xf, xg, xh⟩).take (4 * k)))) ∧ Hid (Below B5 WN u)) (fun i _ => 8 - (intOf i).toNat)
     case atStart => exact ⟨0, by omega, rfl, OH, aa (Below.refl _ _)⟩
     case round =>
      obtain ⟨k4, hk4, rfl, Gg, lH⟩ := hrel
      by_cases hlk : k4 < 8
      ·
       have Sm := Kr xa xb xc xd xe xf xg xh k4 hlk
       obtain ⟨v0, e1⟩ : ∃ x, (St.mk xa xb xc xd xe xf xg xh).list.getD k4 0 = x := ⟨_, rfl⟩
       rw [e1] at Sm
       have E1 := aa e1
       clear e1
       go_wp2
       go_loopw [42] (fun j u => ∃ m : Nat, m ≤ 4 ∧ j = .int .i64 m ∧ Hid (bD .u8 25 u B5 (pz 32 ((jH ⟨xa, xb, xc, xd, xe, xf, xg, xh⟩).take (4 * k4 + m)))) ∧ Hid (Below B5 WN u)) (fun j _ => 4 - (intOf j).toNat)
       case atStart => exact ⟨0, by omega, rfl, Gg, lH⟩
       case round =>
        obtain ⟨m, hm, rfl, qB, PD⟩ := hrel
        by_cases hlm : m < 4
        ·
         have hol : (jH ⟨xa, xb, xc, xd, xe, xf, xg, xh⟩).length = 32 := nQ _
         have hc := qB.out.cell (j := 4 * k4 + m) (by rw [Bt (by rw [List.length_take, hol]; omega)]; omega)
         have hf := qB.out.free (4 * k4 + m)
         have hst := xR (N := 32) (k := 4 * k4 + m) (l := jH ⟨xa, xb, xc, xd, xe, xf, xg, xh⟩) (by rw [hol]; omega) (by omega)
         rw [EW _ k4 hlk m hlm, E1.out] at hst
         obtain ⟨q, hq⟩ : ∃ q, v0 / 2 ^ (24 - 8 * m) = q := ⟨_, rfl⟩
         rw [hq] at hst
         have HC := hc
         have j0 : (0 : Int) ≤ 24 - 8 * m := by omega
         have j1 : (24 - 8 * (m : Int)).toNat = 24 - 8 * m := by omega
         have j2 : (4 * (k4 : Int) + m).toNat = 4 * k4 + m := by omega
         obtain ⟨WV, Oi⟩ : ∃ u, wr.setCell ⟨B5, 4 * k4 + m, none⟩ (.int .u8 (q % 256)) = u := ⟨_, rfl⟩
         have HB2 : Hid (bD .u8 25 WV B5 (pz 32 ((jH ⟨xa, xb, xc, xd, xe, xf, xg, xh⟩).take (4 * k4 + (m + 1))))) := aa (by
          rw [← Oi, show 4 * k4 + (m + 1) = 4 * k4 + m + 1 by omega, ← hst]
          exact qB.out.set)
         have Pz : Hid (Below B5 WN WV) := aa (by rw [← Oi]; exact PD.out.setCell (Nat.le_refl _) _)
         clear hst qB PD hol HC
         go_wp2
         try go_region
         try (rw [hq])
         try (rw [Oi])
         go_wp2
         go_roundw
         case rel => exact ⟨m + 1, by omega, by go_num, HB2, Pz⟩
         case measure => simp [intOf]; omega
        ·
         have HB2 : Hid (bD .u8 25 wr B5 (pz 32 ((jH ⟨xa, xb, xc, xd, xe, xf, xg, xh⟩).take (4 * (k4 + 1))))) := aa (by
          have h := qB.out
          rwa [show 4 * k4 + m = 4 * (k4 + 1) by omega] at h)
         clear qB
         go_wp2
         go_roundw
         case rel => exact ⟨k4 + 1, by omega, by go_num, HB2, PD⟩
         case measure => simp [intOf]; omega
      ·
       have Jt : Hid (bD .u8 25 wr B5 (xN l)) := aa (by
        have h := Gg.out
        rwa [show 4 * k4 = (jH ⟨xa, xb, xc, xd, xe, xf, xg, xh⟩).length by rw [nQ]; omega, List.take_length, xS (nQ _), ← OU.out] at h)
       have rO := aa (Ry.out.trans (lH.out.mono hbr))
       have Lm : Hid (bD .u8 25 wr w.heap.size (aT 32)) := aa (mI.out.keepB (by have := D6.out; omega) rO.out)
       have oP : Hid (Below w.heap.size w (wr.setRow w.heap.size (arr .u8 (xN l)))) := aa (aj (ag jr.out rO.out) (Nat.le_refl _))
       have HRR : Hid (bD .u8 25 (wr.setRow w.heap.size (arr .u8 (xN l))) w.heap.size (xN l)) := aa Lm.out.setRow
       clear Gg lH
       go_wp2_with (first
        | ((with_reducible show wpList _ _ _ (⟨some 58, _, _, _, _, _⟩ :: _) _ _); refine wpList_load_row rfl 25 _ rfl B5 rfl _ _ _ _ Jt.out Tryz.underlying25 rfl (bE (jb l)) ?_)
        | ((with_reducible show wpList _ _ _ (⟨none, _, _, _, _, _⟩ :: _) _ _); refine wpList_store_row rfl 25 _ _ rfl w.heap.size (arr .u8 (xN l)) rfl rfl _ _ Lm.out (bE (jb l)) (jf rfl (jb l)) (dU _) ?_))
       exact bodyPost_ret (v := .agg (arr .u8 (xN l))) (results_cell_row (p := 2) (ty := 25) rfl _ _ w.heap.size _ _ _ _ rfl HRR.out Tryz.underlying25 rfl (bE (jb l))) rfl ⟨rfl, oP.out⟩
  ·
   have hN : N < n + 1 + j5 n := by unfold j5 at hN1 hpz ⊢; omega
   have t1 : ((N : Int) % 64 == 56) = false := by simp; omega
   have t2 : ((N : Int) % 64 != 56) = true := by simp; omega
   have hown := HO.out.row hll
   have hbs := aB.out.size
   have uM := aa hll
   clear hend hll
   go_wp2_with (at_builtin; refine wpList_append_own _ rfl _ _ 132 rfl W.heap.size 5 i0 (.int .u8 0) 1 1 Tryz.underlying132 hi hz0 hz1 hz2 rfl (by decide) _ _ _ rfl (hown.alloc _) ⟨wr.heap.size, 0, none⟩ 1 1 [.int .u8 0] rfl rfl (cell_one_new _ _ _) (ints_oneCell .u8 [0]) (by unfold maxLen; omega) (by omega) (by simp; omega) ?_; intro v2 w2 hown2 hgrow2 _)
   have GN : Hid (dh .u8 5 w2 W.heap.size v2 (l ++ [128] ++ List.replicate (N + 1 - n - 1) 0)) := aa (by
    rw [show N + 1 - n - 1 = (N - n - 1) + 1 by omega, Bq, ← List.append_assoc]
    exact dh.app uM.out.symm rfl hown2)
   have DR : Hid (Below W.heap.size W w2) := aa (HO.out.below aB.out hbs hgrow2)
   clear hown hown2 hgrow2 HO
   obtain ⟨A3, c3, e3, _⟩ := GN.out.sk
   have e4 : (l ++ [128] ++ List.replicate (N + 1 - n - 1) 0).length = N + 1 := by simp [hn.out]; omega
   rw [e4] at e3
   subst e3
   clear e4
   go_wp2
   go_roundw
   case rel => exact ⟨N + 1, A3, c3, by omega, by omega, rfl, GN, DR⟩
   case measure => simp [lenOf]; omega
theorem fM {P : Program} {fn : Func} {p q : Tmp} {ty : TypeId} (h : fn.results = #[.cell p ty, .tmp q]) (tmps : Array Value) (w : World) (a : Addr) (v u : Value)
  (hp : tmps.getD p undef = .pointer (some a)) (hq : tmps.getD q undef = u) (hl : (loadVar ty a).run P w = .ok v w) : (results fn tmps).run P w = .ok (.tuple #[v, u]) w := by
 have hp' : tmps[p]?.getD undef = .pointer (some a) := by simpa using hp
 have hq' : tmps[q]?.getD undef = u := by simpa using hq
 simp [results, h, hp', hq', asAddr, hl]
def Qz (n : Int) : List Int := [n / 16777216 % 256, n / 65536 % 256, n / 256 % 256, n % 256]
section
variable {P : Program}
theorem wpList_append_lies {ops : Array Oper} {rest : List Oper} {o : Oper} {a : Act} {w : World} {Q : Exit → Act → World → Prop} (hgd : o.guard = none) (s x : Operand) (t : TypeId)
  (ho : o.op = .call { callee := .builtin .append, args := #[s, x], argTypes := #[t, t] })
  (base : Nat) (e : TypeId) (i : TypeInfo) (z : Value) (size bytes : Nat) (ht : P.underlying t = some (.slice e)) (hi : P.info? e = some i) (hz : i.zero = some z)
  (hsize : i.size = size) (hby : i.bytes = bytes) (hzs : z.cells.size = size) (hsz : 0 < size)
  (v : Value) (n : Nat) (xs : List Value) (hs : a.eval s = v) (hown : w.ownsRow base e size v n xs)
  (ad : Addr) (m c : Nat) (news : List Value) (hx : a.eval x = .slice (some ad) m c) (hl : news.length = m * size) (hnews : ∀ j u, news[j]? = some u → w.cell? (ad.add j) = some u) (h1 : ∀ u ∈ news, u.oneCell' = true)
  (hm : 0 < m) (h63 : n + m ≤ maxLen) (hbytes : (n + m) * bytes ≤ 140737488355328) (hbase : base ≤ w.heap.size) (H : Nat) (hH : w.heap.size = H)
  (h : ∀ g cap w', w'.ownsRow base e size (.slice (some ⟨g, 0, none⟩) (n + m) cap) (n + m) (xs ++ news) → w.grownBy w' v.ownBlock → (v.ownBlock = some g ∨ g = H) → g < w'.heap.size → wpList P ops Q rest (a.put o.dst (.slice (some ⟨g, 0, none⟩) (n + m) cap)) w') :
  wpList P ops Q (o :: rest) a w :=
 wpList_plain hgd fun _ hK => wp_append_lies w s x t ho base e i z size bytes ht hi hz hsize hby hzs hsz v n xs hs hown ad m c news hx hl hnews h1 hm h63 hbytes hbase H hH fun g cap w' a1 a2 a3 a4 => hK _ _ (h g cap w' a1 a2 a3 a4)
end
def MB (s : Nat) (n : Int) : List Int := if s = 8 then jO n else Qz n
theorem FO {s : Nat} (h : s = 4 ∨ s = 8) (n : Int) (j : Nat) (hj : j < s) : (MB s n).getD j 0 = n / 2 ^ (8 * (s - 1 - j)) % 256 := by
 rcases h with rfl | rfl
 · rcases (show j = 0 ∨ j = 1 ∨ j = 2 ∨ j = 3 by omega) with rfl | rfl | rfl | rfl <;> simp [MB, Qz]
 · rcases (show j = 0 ∨ j = 1 ∨ j = 2 ∨ j = 3 ∨ j = 4 ∨ j = 5 ∨ j = 6 ∨ j = 7 by omega) with rfl | rfl | rfl | rfl | rfl | rfl | rfl | rfl <;> simp [MB, jO]
theorem v_ (w : World) (a j : Nat) (v : Value) : w.grownBy (w.setCell ⟨a, j, none⟩ v) (some a) :=
 ⟨rfl, rfl, rfl, by simp [World.setCell], fun k hk hne => by
  have : a ≠ k := fun e => hne (by rw [e])
  simp [World.setCell, Array.getElem?_modify, this]⟩
theorem jl {P : Program} {fn : Func} {p : Tmp} {ty : TypeId} (h : fn.results = #[.cell p ty]) (tmps : Array Value) (w : World) (a : Addr) (v : Value)
  (hp : tmps.getD p undef = .pointer (some a)) (hl : (loadVar ty a).run P w = .ok v w) : (results fn tmps).run P w = .ok v w := by
 have hp' : tmps[p]?.getD undef = .pointer (some a) := by simpa using hp
 simp [results, h, hp', asAddr, hl]
theorem nC {P : Program} {S : World → Prop} {o : Oper} {a : Act} (ty : TypeId) (x : Operand) (ho : o.op = .load ty x)
  (g : Nat) (hx : a.eval x = .pointer (some ⟨g, 0, none⟩)) (t : TypeId) (cs : Array Value) (fr : Nat × Nat) (d : TypeDesc) (hg : ∀ w, S w → w.heap[g]? = some (.cells cs t fr))
  (hu : P.underlying ty = some d) (hd : (match d with | .struct _ | .array _ _ => true | _ => false) = true) (hi : (P.info? ty).map (·.size) = some cs.size) :
  ∀ w, S w → (execOp a.eval o).run P w = .ok (.value (.agg cs)) w := fun w hw => by
 unfold execOp
 simp only [ho, hx, Instr.loadAt, Instr.sureAddr, Sem.run_bind, Sem.run_pure, Result.andThen_ok, run_loadVar_row w g t ty cs fr d (hg w hw) hu hd hi]
def aJ (h : List Int) (c : Int) : Array Value := arr .u8 h ++ #[.int .i64 c]
theorem Ig : ∀ h : List Int, h.length = 32 → ∃ a0 a1 a2 a3 a4 a5 a6 a7 a8 a9 MJ MI a12 MH MG MF a16 a17 ME MC a20 a21 a22 a23 a24 a25 a26 a27 a28 a29 a30 a31, h = [a0, a1, a2, a3, a4, a5, a6, a7, a8, a9, MJ, MI, a12, MH, MG, MF, a16, a17, ME, MC, a20, a21, a22, a23, a24, a25, a26, a27, a28, a29, a30, a31]
 | [a0, a1, a2, a3, a4, a5, a6, a7, a8, a9, MJ, MI, a12, MH, MG, MF, a16, a17, ME, MC, a20, a21, a22, a23, a24, a25, a26, a27, a28, a29, a30, a31], _ => ⟨a0, a1, a2, a3, a4, a5, a6, a7, a8, a9, MJ, MI, a12, MH, MG, MF, a16, a17, ME, MC, a20, a21, a22, a23, a24, a25, a26, a27, a28, a29, a30, a31, rfl⟩
theorem dB {P : Program} {ops : Array Oper} {rest : List Oper} {o : Oper} {a : Act} {w : World} {Q : Exit → Act → World → Prop} (hg : o.guard = none) (t : TypeId) (l : List (Nat × Operand)) (ho : o.op = .build t l.toArray) (cells : Array Value)
  (hf : P.built t (l.map fun x => (x.1, a.eval x.2)) = some cells) (h : wpList P ops Q rest (a.put o.dst (.agg cells)) w) : wpList P ops Q (o :: rest) a w := by
 have e : (l.toArray.map fun (x : Nat × Operand) => (x.1, a.eval x.2)).toList = l.map fun x => (x.1, a.eval x.2) := by simp
 refine wpList_build hg t l.toArray ho ?_ ?_
 ·
  show (P.built t (l.toArray.map fun (x : Nat × Operand) => (x.1, a.eval x.2)).toList).isSome = true
  rw [e, hf]; rfl
 ·
  show wpList P ops Q rest (a.put o.dst (.agg ((P.built t (l.toArray.map fun (x : Nat × Operand) => (x.1, a.eval x.2)).toList).getD #[]))) w
  rw [e, hf]; exact h
theorem jU {h : List Int} {c : Int} (hl : h.length = 32) : (aJ h c).size = 33 := by simp [aJ, aS, hl]
theorem aR (h : List Int) (c : Int) : (aJ h c).all (·.oneCell') = true := by simp [aJ, arr, Value.oneCell']
theorem Jy : (#[.int .u8 0, .int .u8 0, .int .u8 0, .int .u8 0, .int .u8 0, .int .u8 0, .int .u8 0, .int .u8 0, .int .u8 0, .int .u8 0, .int .u8 0, .int .u8 0, .int .u8 0, .int .u8 0, .int .u8 0, .int .u8 0, .int .u8 0, .int .u8 0, .int .u8 0, .int .u8 0, .int .u8 0, .int .u8 0, .int .u8 0, .int .u8 0, .int .u8 0, .int .u8 0, .int .u8 0, .int .u8 0, .int .u8 0, .int .u8 0, .int .u8 0, .int .u8 0, .int .i64 0] : Array Value) = aJ (aT 32) 0 := rfl
theorem dZ {h h' : List Int} {c c' : Int} (hl : h.length = 32) (hl' : h'.length = 32) : (aJ h c).size = (aJ h' c').size := by rw [jU hl, jU hl']
theorem bF {P : Program} {fn : Func} {p q r : Tmp} {ty : TypeId} (h : fn.results = #[.cell p ty, .tmp q, .tmp r]) (tmps : Array Value) (w : World) (a : Addr) (v u x : Value)
  (hp : tmps.getD p undef = .pointer (some a)) (hq : tmps.getD q undef = u) (hr : tmps.getD r undef = x) (hl : (loadVar ty a).run P w = .ok v w) : (results fn tmps).run P w = .ok (.tuple #[v, u, x]) w := by
 have hp' : tmps[p]?.getD undef = .pointer (some a) := by simpa using hp
 have hq' : tmps[q]?.getD undef = u := by simpa using hq
 have hr' : tmps[r]?.getD undef = x := by simpa using hr
 simp [results, h, hp', hq', hr', asAddr, hl]
def uU (h : List Int) (c n e : Int) : Value := .tuple #[.agg (aJ h c), .int .i64 n, .int .i64 e]
theorem gZ (w : World) (a : Nat) (cs : Array Value) : w.grownBy (w.setRow a cs) (some a) :=
 ⟨rfl, rfl, rfl, by simp [World.setRow], fun k hk hne => setRow_other w a k cs (fun e => hne (by rw [e]))⟩
theorem Ko : (Tryz.prog.info? 27).map (·.size) = some 33 := by kernel_rfl
theorem ai {h : List Int} {c : Int} (hl : h.length = 32) : (Tryz.prog.info? 27).map (·.size) = some (aJ h c).size := Ko.trans (congrArg some (jU hl).symm)
def aQ (w : World) (b : Nat) (h : List Int) (c : Int) : Prop := w.heap[b]? = some (.cells (aJ h c) 27 (0, 0))
theorem aQ.below {w w' : World} {b : Nat} {h : List Int} {c : Int} (hh : aQ w b h c) (hb : Below w.heap.size w w') : aQ w' b h c := (hb.block b (Array.getElem?_eq_some_iff.1 hh).1).trans hh
theorem aQ.new (w : World) (h : List Int) (c : Int) : aQ (w.alloc (.cells (aJ h c) 27)) w.heap.size h c := heap_alloc_new _ _
theorem aQ.lt {w : World} {b : Nat} {h : List Int} {c : Int} (hh : aQ w b h c) : b < w.heap.size := (Array.getElem?_eq_some_iff.1 hh).1
theorem aQ.count {w : World} {b : Nat} {h : List Int} {c : Int} (hh : aQ w b h c) (hl : h.length = 32) : w.cell? ⟨b, 32, none⟩ = some (.int .i64 c) := by
 rw [ax hh, aJ, Array.getElem?_append_right (by rw [aS, hl]; exact Nat.le_refl _), aS, hl]
 rfl
theorem aQ.sk {w : World} {b : Nat} {h : List Int} {c : Int} (hh : aQ w b h c) : Sk .u8 w (some ⟨b, 0, none⟩) h := fun j hj => ⟨b, 0, rfl, by
 rw [Nat.zero_add, ax hh, aJ, Array.getElem?_append_left (by rw [aS]; exact hj)]
 exact yK hj⟩
theorem aQ.setRow {w : World} {b : Nat} {h h' : List Int} {c c' : Int} (hh : aQ w b h c) : aQ (w.setRow b (aJ h' c')) b h' c' := setRow_heap w b _ _ _ _ hh
def ow (c : Int) : Bool := decide (0 ≤ c) && decide (c ≤ 1099511627776)
theorem eB (h : List Int) (hl : Hid (h.length = 32)) (c : Int) (r : Bool) (hr : Hid (ow c = r)) (w : World) :
  Calls Tryz.prog 21 #[.agg (aJ h c)] w (Rt w (.bool r)) := by
 have hc := (aQ.new w h c).count hl.out
 by_cases h0 : 0 ≤ c
 ·
  have d1 : decide ((0 : Int) ≤ c) = true := by simp [h0]
  obtain ⟨t, ht⟩ : ∃ t, decide (c ≤ 1099511627776) = t := ⟨_, rfl⟩
  obtain rfl : t = r := by rw [← hr.out, ow, d1, ht]; rfl
  clear hr
  go_in
  go_wp2
  go_ret
  exact ⟨by first | rfl | (rw [ht]), af _ _⟩
 ·
  have d1 : decide ((0 : Int) ≤ c) = false := by simp; omega
  obtain rfl : r = false := by rw [← hr.out, ow, d1]; rfl
  clear hr
  go_in
  go_wp2
  go_ret
  exact ⟨rfl, af _ _⟩
theorem lV (h : List Int) (hl : Hid (h.length = 32)) (c : Int) (hv : Hid (ow c = true)) (n lo hi : Int) (h1 : lo ≤ n) (h2 : n ≤ hi) (w : World) :
  Calls Tryz.prog 60 #[.agg (aJ h c), .int .i64 n, .int .i64 lo, .int .i64 hi] w (Rt w (.int .i64 0)) := by
 have HT0 : Hid (aQ (w.alloc (.cells (aJ h c) 27)) w.heap.size h c) := aa (aQ.new _ _ _)
 have hb0 := af w (.cells (aJ h c) 27)
 obtain ⟨W, hW⟩ : ∃ W, w.alloc (.cells (aJ h c) 27) = W := ⟨_, rfl⟩
 rw [hW] at HT0 hb0
 have HB0 := aa hb0
 have HW := aa hW
 have d1 : decide (n < lo) = false := by simp; omega
 have d2 : decide (hi < n) = false := by simp; omega
 clear hW hb0
 go_in
 go_upto_region 1 with (fail)
 rw [HW.out]
 clear HW
 go_wp2_with ((with_reducible show wpList _ _ _ (⟨some 10, _, _, _, _, _⟩ :: _) _ _); refine wpList_load_row rfl 27 _ rfl w.heap.size rfl _ _ _ _ HT0.out Tryz.underlying27 rfl (ai hl.out) ?_)
 refine (eB h hl c true hv _).mono ?_
 rintro e w1 ⟨rfl, hb1⟩
 have fT := ag HB0.out hb1
 go_wp2
 go_ret
 exact ⟨rfl, fT⟩
theorem pE (h : List Int) (hl : Hid (h.length = 32)) (c : Int) (hc0 : 0 ≤ c) (hc1 : c ≤ 1099511627776) (w : World) :
  Calls Tryz.prog 106 #[.agg (aJ h c)] w (OC .u8 5 (h ++ jO c) w) := by
 obtain ⟨i1, hi1, hy0, hy1, hy2⟩ := info_parts uG
 have HT0 : Hid (aQ (w.alloc (.cells (aJ h c) 27)) w.heap.size h c) := aa (aQ.new _ _ _)
 have hb0 := af w (.cells (aJ h c) 27)
 have D6 : Hid ((w.alloc (.cells (aJ h c) 27)).heap.size = w.heap.size + 1) := aa (by simp)
 obtain ⟨W, hW⟩ : ∃ W, w.alloc (.cells (aJ h c) 27) = W := ⟨_, rfl⟩
 rw [hW] at HT0 hb0 D6
 have HB0 := aa hb0
 have HW := aa hW
 clear hW hb0
 go_in
 go_upto_region 1 with (fail)
 rw [HW.out]
 clear HW
 have HT1 := aa (HT0.out.below (af W (.cells #[] 5)))
 have hrow : (W.alloc (.cells #[] 5)).ownsRow W.heap.size 5 1 (.slice (some ⟨W.heap.size, 0, none⟩) 0 0) 0 [] := ⟨rfl, Or.inr ⟨W.heap.size, 0, #[], rfl, Nat.le_refl _, heap_alloc_new _ _, Nat.le_refl _, by decide, rfl, rfl⟩⟩
 have b1 : 0 + 32 ≤ maxLen := by unfold maxLen; omega
 have b2 : (0 + 32) * 1 ≤ 140737488355328 := by omega
 have b3 : W.heap.size ≤ (W.alloc (.cells #[] 5)).heap.size := by simp
 have hlen : (h.map (Value.int .u8)).length = 32 * 1 := by simp [hl.out]
 go_upto_region 2 with (at_builtin; refine wpList_append_lies rfl _ _ 132 rfl W.heap.size 5 i1 (.int .u8 0) 1 1 Tryz.underlying132 hi1 hy0 hy1 hy2 rfl (by decide) (.slice (some ⟨W.heap.size, 0, none⟩) 0 0) _ _ rfl hrow ⟨w.heap.size, 0, none⟩ 32 32 (h.map (.int .u8)) rfl hlen HT1.out.sk.news (ints_oneCell .u8 _) (by decide) b1 b2 b3 _ rfl ?_; intro g1 I8 w1 hown1 hgrow1 Og hlt1)
 have TU : Hid (dh .u8 5 w1 W.heap.size (.slice (some ⟨g1, 0, none⟩) 32 I8) (h ++ (jO c).take 0)) := aa (by unfold dh; rw [List.take_zero, List.append_nil, hl.out]; simpa using hown1)
 have HB1 : Hid (Below W.heap.size W w1) := aa (((Below.refl W.heap.size W).alloc (Nat.le_refl _) (.cells #[] 5)).grown hgrow1 (by simp) (fun j hj => by cases hj; exact Nat.le_refl _))
 clear hown1 hgrow1 Og hlt1 hrow b1 b2 b3 hlen HT1
 go_wp2_with fail
 go_loopw [3, 4] (fun p i u => ∃ k : Nat, k ≤ 8 ∧ i = .int .i64 (56 - 8 * (k : Int)) ∧ Hid (dh .u8 5 u W.heap.size p (h ++ (jO c).take k)) ∧ Hid (Below W.heap.size W u)) (fun _ i _ => (intOf i + 8).toNat)
 case atStart => exact ⟨0, by omega, by simp, TU, HB1⟩
 case round =>
  obtain ⟨k, hk, rfl, HO, aB⟩ := hrel
  by_cases hlt : k < 8
  ·
   have d1 : decide ((0 : Int) ≤ 56 - 8 * (k : Int)) = true := by simp; omega
   obtain ⟨q, hq⟩ : ∃ q, c / 2 ^ (56 - 8 * k) = q := ⟨_, rfl⟩
   have Je : Hid ((jO c).take (k + 1) = (jO c).take k ++ [q % 256]) := aa (by
    rw [take_one (show k < (jO c).length by rw [fZ]; exact hlt)]
    have h2 := FO (s := 8) (Or.inr rfl) c k hlt
    rw [show MB 8 c = jO c from rfl] at h2
    rw [h2, ← hq, show 8 * (8 - 1 - k) = 56 - 8 * k by omega])
   have ng : Hid ((h ++ (jO c).take k).length = 32 + k) := aa (by rw [List.length_append, List.length_take, fZ, hl.out]; omega)
   have j0 : (0 : Int) ≤ 56 - 8 * (k : Int) := by omega
   have j1 : (56 - 8 * (k : Int)).toNat = 56 - 8 * k := by omega
   have hown := HO.out.row ng.out
   have hbs := aB.out.size
   have hcnt := (HT0.out.below aB.out).count hl.out
   have b1 : 32 + k + 1 ≤ maxLen := by unfold maxLen; omega
   have b2 : (32 + k + 1) * 1 ≤ 140737488355328 := by omega
   have b3 : W.heap.size ≤ (wr.alloc (.cells #[.int .u8 (q % 256)] 5)).heap.size := by simp; omega
   go_wp2_with (at_builtin; refine wpList_append_lies rfl _ _ 132 rfl W.heap.size 5 i1 (.int .u8 0) 1 1 Tryz.underlying132 hi1 hy0 hy1 hy2 rfl (by decide) u3 _ _ rfl (hown.alloc _) ⟨wr.heap.size, 0, none⟩ 1 1 [.int .u8 (q % 256)] rfl rfl (World.news_of_block (cs := #[.int .u8 (q % 256)]) (t := 5) (fr := (0, 0)) (heap_alloc_new wr _)) (by simp [Value.oneCell']) (by decide) b1 b2 b3 _ rfl ?_; intro gg cap wz hown1 hgrow hat hlt2)
   have GQ : Hid (dh .u8 5 wz W.heap.size (.slice (some ⟨gg, 0, none⟩) (32 + k + 1) cap) (h ++ (jO c).take (k + 1))) := aa (by
    rw [Je.out, ← List.append_assoc]
    exact dh.app (ys := [q % 256]) ng.out.symm rfl hown1)
   have HB2 : Hid (Below W.heap.size W wz) := aa ((aB.out.alloc hbs (.cells #[.int .u8 (q % 256)] 5)).grown hgrow (by simp; omega) (fun j hj => (World.ownsRow.lt hown j hj).1))
   clear hown1 hgrow hown hat hlt2 b1 b2 b3 hcnt
   go_wp2
   go_roundw
   case rel => exact ⟨k + 1, by omega, by go_num, GQ, HB2⟩
   case measure => simp [intOf]; omega
  ·
   obtain rfl : k = 8 := by omega
   have HF : Hid (dh .u8 5 wr W.heap.size u3 (h ++ jO c)) := aa (by
    have h2 := HO.out
    rwa [List.take_of_length_le (by rw [fZ]; exact Nat.le_refl _)] at h2)
   have fT := ag HB0.out aB.out
   have hz := HB0.out.size
   clear HO
   go_wp2
   go_ret
   exact ⟨_, rfl, HF.out.mono hz, fT⟩
end Go.Proofs.YticegghameafgaaGreatDoor
namespace Go.Proofs.YticegghameafgaaGreatDoor
open Go.ChangeShapes Go.WideShapes Go.ChangeAt Go.RowKit jq
def xG : Value := .agg (List.replicate 32 (Value.int .u8 0) ++ [Value.int .i64 0]).toArray
def GZ {H : Type} : DataW H := .agg [.agg (List.replicate 32 (.lit (Lit.int .u8 0))), .lit (Lit.int .i64 0)]
theorem uB {cl : List Value} : ∀ (k : Nat), (∀ i, i < k → ∃ z : Int, (cl.drop i).take 1 = [.int .u8 z] ∧ 0 ≤ z ∧ z < 256) → ∃ h : List Int, h.length = k ∧ cl.take k = h.map (.int .u8) ∧ aA h = true
 | 0, _ => ⟨[], rfl, by simp, rfl⟩
 | k + 1, hf => by
  obtain ⟨h, h1, h2, h3⟩ := uB k (fun i hi => hf i (by omega))
  obtain ⟨z, hz, z0, z1⟩ := hf k (by omega)
  refine ⟨h ++ [z], by simp [h1], by rw [List.take_add, h2, hz, List.map_append]; rfl, ?_⟩
  rw [iq, h3]
  simp [aA, z0, z1]
section
variable {H : Type} {enc : TypeId × Value → H} {w : World} {base : Nat} {held : Bool}
theorem zT : Tryz.prog.cellsOf 27 = 33 := by kernel_rfl
theorem zR : Tryz.prog.cellsOf 25 = 32 := by kernel_rfl
theorem zy {r : Reach} {b0 : Nat} {v : Value} {d : DataW H} {ps : List MemPlace} (hval : Value.okWide Tryz.prog w r b0 27 v) (hd : DataW.Trod enc Tryz.prog w base (fun _ => true) held 27 v d ps) :
  ∃ (h : List Int) (c : Int), v = .agg (aJ h c) ∧ h.length = 32 ∧ aA h = true := by
 obtain ⟨cs, rfl, hsz⟩ := okWide_struct Tryz.underlying27 hval
 obtain ⟨n, h⟩ := hd
 obtain ⟨xs, m, rfl, _, hl, hxl, hf⟩ := DataW.trod_struct Tryz.underlying27 h
 rw [zT] at hl
 obtain ⟨cl⟩ := cs
 simp only [Value.cells] at hl hf
 have f0 : DataW.trod enc Tryz.prog w base (fun _ => true) held m 25 ((cl.drop 0).take (Tryz.prog.cellsOf 25)) = xs[0]? := hf 0 _ rfl
 have f1 : DataW.trod enc Tryz.prog w base (fun _ => true) held m 3 ((cl.drop 32).take (Tryz.prog.cellsOf 3)) = xs[1]? := hf 1 _ rfl
 rw [zR, List.drop_zero] at f0
 rw [uD] at f1
 have hl2 : xs.length = 2 := hxl
 match xs, hl2 with
 | [x0, x1], _ =>
  obtain ⟨c, hc, _, wc⟩ := DataW.trod_int Tryz.underlying3 f1
  obtain ⟨ys, m', _, _, _, hyl, Sr⟩ := DataW.trod_array Tryz.underlying25 f0
  obtain ⟨hh, h1, h2, h3⟩ := uB (cl := cl.take 32) 32 (fun i hi => by
   have fi := Sr i hi
   rw [yI, Nat.mul_one, List.getElem?_eq_getElem (by rw [hyl]; exact hi)] at fi
   obtain ⟨z, hz, _, wz⟩ := DataW.trod_int Tryz.underlying5 fi
   refine ⟨z, hz, ?_⟩
   simp [Lit.wf, IntKind.min, IntKind.max, IntKind.signed, IntKind.bits] at wz
   omega)
  refine ⟨hh, c, ?_, h1, h3⟩
  rw [List.take_take, Nat.min_self] at h2
  have e : cl = hh.map (.int .u8) ++ [.int .i64 c] := by
   rw [← h2, ← hc, ← List.take_append_drop 32 cl]
   congr 1
   · simp [List.take_append_drop]
   · rw [List.take_append_drop, List.take_of_length_le (by rw [List.length_drop, hl]; exact Nat.le_refl _)]
  rw [e]
  congr 1
  apply Array.ext'
  simp [aJ, arr]
end
end Go.Proofs.YticegghameafgaaGreatDoor
namespace Go.Proofs.YticegghameafgaaGreatDoor
open Go.RowKit jq
def okB (P Q x : Int) : Bool := x != 1 && aG P Q x
theorem EZ {P Q G x : Int} (hv : ah P Q G = true) (hx : (x == 1) = false) : gK P Q G x = okB P Q x := by
 have h1 : (x != 1) = true := by simp at hx ⊢; exact hx
 rw [gK, okB, hv, h1]
def gI (Q n : Int) : Bool := decide (0 ≤ n ∧ n < Q)
theorem yB {Q n : Int} (h : gI Q n = true) : 0 ≤ n := by simp [gI] at h; exact h.1
theorem yC {Q n : Int} (h : gI Q n = true) : n < Q := by simp [gI] at h; exact h.2
theorem gG (P Q G n : Int) (b : Bool) (hb : Hid (gI Q n = b)) (w : World) :
  Calls Tryz.prog 79 #[gv P Q G, .int .i64 n] w (Rt w (.bool b)) := by
 by_cases h0 : 0 ≤ n
 ·
  by_cases h1 : n < Q
  ·
   obtain rfl : b = true := by rw [← hb.out]; simp [gI]; omega
   go_in
   go_wp2
   go_ret
   exact ⟨rfl, af _ _⟩
  ·
   obtain rfl : b = false := by rw [← hb.out]; simp [gI]; omega
   have d2 : decide (n < Q) = false := by simp; omega
   go_in
   go_wp2
   go_ret
   exact ⟨rfl, af _ _⟩
 ·
  obtain rfl : b = false := by rw [← hb.out]; simp [gI]; omega
  have d2 : decide (0 ≤ n) = false := by simp; omega
  go_in
  go_wp2
  go_ret
  exact ⟨rfl, af _ _⟩
theorem je (P Q G x : Int) (b : Bool) (hval : Hid (ah P Q G = true)) (hb : Hid (okB P Q x = b)) (w : World) (hv : Hid (Vars w)) :
  Calls Tryz.prog 53 #[gv P Q G, .int .i64 x] w (Rt w (.bool b)) := by
 obtain ⟨hp2, hp, hq3, vU⟩ := az hval.out
 have oZ := aa (hv.out.below (af w (aC P Q G)))
 have HX0 := aa (aM w P Q G)
 cases h1 : x == 1 with
 | true =>
  have h2 : (x != 1) = false := by simpa using h1
  obtain rfl : b = false := by rw [← hb.out, okB, h2, Bool.false_and]
  go_in
  go_wp2
  go_ret
  exact ⟨rfl, af _ _⟩
 | false =>
  have h2 : (x != 1) = true := by simp at h1 ⊢; exact h1
  have HC : Hid (gK P Q G x = b) := aa ((EZ (G := G) hval.out h1).trans hb.out)
  go_in
  go_wp2_with fail
  refine (aO P Q G x b HC (by omega) _ oZ).mono ?_
  rintro e w1 ⟨rfl, hb0⟩
  have hb1 := ag (af _ _) hb0
  clear hb0
  go_wp2
  go_ret
  exact ⟨rfl, hb1⟩
def KM (P Q G b y : Int) : Int := if ah P Q G = true then (if okB P Q b = true then (if aG P Q y = true then 0 else 2) else 2) else 1
theorem EY {P Q b : Int} (h : okB P Q b = true) : aG P Q b = true := by simp [okB] at h; exact h.2
end Go.Proofs.YticegghameafgaaGreatDoor