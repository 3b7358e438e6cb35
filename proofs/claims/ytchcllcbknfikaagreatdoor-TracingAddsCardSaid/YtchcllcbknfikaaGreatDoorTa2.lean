/- Contracts and lemmas: Sha, Byt, DigA, DigB, DigC, LawKitD, LinA, LinB, LinC, OpR, OpP, OpE, Held, Many, Bx, Nwt, LinD, LinE, LinF, Quiet. -/
import Derived.WalkKit
import Derived.Laws.BitsAllLaws
import Derived.BigRegion
import Derived.Deep.WholeRow
import Derived.Deep.Cut
import Derived.ChangeMaps5
import Derived.Deep.Slices
import Derived.Deep.RegionHeld3
import Derived.Deep.AppendLies
import Derived.Test.YtchcllcbknfikaaGreatDoorTa1
set_option linter.unusedVariables false
set_option linter.unusedSimpArgs false
set_option maxRecDepth 100000
set_option maxHeartbeats 25600000
namespace Go.Proofs.YtchcllcbknfikaaGreatDoor
open Go.RowKit
structure Kp (p : Prop) : Prop where
 out : p
def iG (x : Int) (n : Nat) : Int := bits .or .u32 (x / 2 ^ n) (IntKind.u32.wrap (x * 2 ^ (32 - n)))
def SA (x : Int) : Int := bits .xor .u32 (bits .xor .u32 (iG x 7) (iG x 18)) (x / 8)
def Sz (x : Int) : Int := bits .xor .u32 (bits .xor .u32 (iG x 17) (iG x 19)) (x / 1024)
def add32 (x y : Int) : Int := IntKind.u32.wrap (x + y)
def KT (l : List Int) : Int := add32 (add32 (add32 (l.getD (l.length - 16) 0) (SA (l.getD (l.length - 15) 0))) (l.getD (l.length - 7) 0)) (Sz (l.getD (l.length - 2) 0))
def ni : Nat → List Int → List Int
 | 0, l => l
 | n + 1, l => ni n l ++ [KT (ni n l)]
def qy (b : List Int) (i : Nat) : Int := b.getD i 0
def Dx (b : List Int) (i : Nat) : Int := ((qy b (4 * i) * 256 + qy b (4 * i + 1)) * 256 + qy b (4 * i + 2)) * 256 + qy b (4 * i + 3)
def dB (b : List Int) (n : Nat) : List Int := (List.range n).map (Dx b)
def dN (b : List Int) : List Int := ni 48 (dB b 16)
theorem fF (b : List Int) (n : Nat) : (dB b n).length = n := by simp [dB]
theorem xI (b : List Int) (n : Nat) : dB b (n + 1) = dB b n ++ [Dx b n] := by simp [dB, List.range_succ]
theorem yX (n : Nat) (l : List Int) : (ni n l).length = l.length + n := by
 induction n with
 | zero => rfl
 | succ n ih => rw [ni, List.length_append, ih]; rfl
theorem jr (b : List Int) : (dN b).length = 64 := by rw [dN, yX, fF]
structure St where
 (a b c d e f g h : Int)
def Zp (x : Int) : Int := bits .xor .u32 (bits .xor .u32 (iG x 2) (iG x 13)) (iG x 22)
def Zo (x : Int) : Int := bits .xor .u32 (bits .xor .u32 (iG x 6) (iG x 11)) (iG x 25)
def WI (x : Int) : Int := bits .xor .u32 4294967295 x
def ZG (e f g : Int) : Int := bits .xor .u32 (bits .and .u32 e f) (bits .and .u32 (WI e) g)
def Zt (a b c : Int) : Int := bits .xor .u32 (bits .xor .u32 (bits .and .u32 a b) (bits .and .u32 a c)) (bits .and .u32 b c)
def Po (s : St) (k w : Int) : Int := add32 (add32 (add32 (add32 s.h (Zo s.e)) (ZG s.e s.f s.g)) k) w
def Wp (s : St) : Int := add32 (Zp s.a) (Zt s.a s.b s.c)
def Wq (s : St) (k w : Int) : St := ⟨add32 (Po s k w) (Wp s), s.a, s.b, s.c, add32 s.d (Po s k w), s.e, s.f, s.g⟩
def KL : List Int := [
  0x428a2f98, 0x71374491, 0xb5c0fbcf, 0xe9b5dba5, 0x3956c25b, 0x59f111f1, 0x923f82a4, 0xab1c5ed5,
  0xd807aa98, 0x12835b01, 0x243185be, 0x550c7dc3, 0x72be5d74, 0x80deb1fe, 0x9bdc06a7, 0xc19bf174,
  0xe49b69c1, 0xefbe4786, 0x0fc19dc6, 0x240ca1cc, 0x2de92c6f, 0x4a7484aa, 0x5cb0a9dc, 0x76f988da,
  0x983e5152, 0xa831c66d, 0xb00327c8, 0xbf597fc7, 0xc6e00bf3, 0xd5a79147, 0x06ca6351, 0x14292967,
  0x27b70a85, 0x2e1b2138, 0x4d2c6dfc, 0x53380d13, 0x650a7354, 0x766a0abb, 0x81c2c92e, 0x92722c85,
  0xa2bfe8a1, 0xa81a664b, 0xc24b8b70, 0xc76c51a3, 0xd192e819, 0xd6990624, 0xf40e3585, 0x106aa070,
  0x19a4c116, 0x1e376c08, 0x2748774c, 0x34b0bcb5, 0x391c0cb3, 0x4ed8aa4a, 0x5b9cca4f, 0x682e6ff3,
  0x748f82ee, 0x78a5636f, 0x84c87814, 0x8cc70208, 0x90befffa, 0xa4506ceb, 0xbef9a3f7, 0xc67178f2]
def st0 : St := ⟨0x6a09e667, 0xbb67ae85, 0x3c6ef372, 0xa54ff53a, 0x510e527f, 0x9b05688c, 0x1f83d9ab, 0x5be0cd19⟩
def xZ (ws : List Int) (s : St) : Nat → St
 | 0 => s
 | n + 1 => Wq (xZ ws s n) (KL.getD n 0) (ws.getD n 0)
def QH (s t : St) : St := ⟨add32 s.a t.a, add32 s.b t.b, add32 s.c t.c, add32 s.d t.d, add32 s.e t.e, add32 s.f t.f, add32 s.g t.g, add32 s.h t.h⟩
def Eh (s : St) (b : List Int) : St := QH s (xZ (dN b) s 64)
def fU (p : List Int) (n : Nat) : List Int := (p.drop (64 * n)).take 64
def lH (p : List Int) : Nat → St
 | 0 => st0
 | n + 1 => Eh (lH p n) (fU p n)
def qY (n : Int) : List Int := [n / 72057594037927936 % 256, n / 281474976710656 % 256, n / 1099511627776 % 256, n / 4294967296 % 256, n / 16777216 % 256, n / 65536 % 256, n / 256 % 256, n % 256]
def l9 (n : Nat) : Nat := (119 - n % 64) % 64
def nS (b : List Int) : List Int := b ++ [128] ++ List.replicate (l9 b.length) 0 ++ qY (8 * b.length)
def St.list (s : St) : List Int := [s.a, s.b, s.c, s.d, s.e, s.f, s.g, s.h]
def zw (v : Int) : List Int := [v / 16777216 % 256, v / 65536 % 256, v / 256 % 256, v % 256]
def nI (s : St) : List Int := zw s.a ++ zw s.b ++ zw s.c ++ zw s.d ++ zw s.e ++ zw s.f ++ zw s.g ++ zw s.h
def qb (b : List Int) : List Int := nI (lH (nS b) ((nS b).length / 64))
def tagged (tag b : List Int) : List Int := qb (qb tag ++ qb tag ++ b)
def aC (l : List Int) : Bool := l.all fun x => decide (0 ≤ x) && decide (x < 256)
theorem fV (n : Int) : (qY n).length = 8 := rfl
theorem gF (b : List Int) : (qb b).length = 32 := rfl
theorem dF (t b : List Int) : (tagged t b).length = 32 := rfl
theorem rH (b : List Int) : (nS b).length = b.length + 9 + l9 b.length := by simp [nS, fV]; omega
theorem Eb (b : List Int) : (nS b).length % 64 = 0 := by rw [rH, l9]; omega
theorem zy (n : Int) : (decide (0 ≤ n % 256) && decide (n % 256 < 256)) = true := by simp; omega
theorem dG {a b : List Int} : aC (a ++ b) = (aC a && aC b) := by simp [aC]
theorem xy (n : Int) : aC (qY n) = true := by simp [aC, qY, zy]
theorem F7 (n : Int) : aC (zw n) = true := by simp [aC, zw, zy]
theorem F6 (s : St) : aC (nI s) = true := by simp only [nI, dG, F7, Bool.and_self]
theorem iU (b : List Int) : aC (qb b) = true := F6 _
theorem zq {b : List Int} (h : aC b = true) : aC (nS b) = true := by
 simp only [nS, dG, h, xy, Bool.true_and, Bool.and_true]
 simp [aC]
theorem iR {l : List Int} (h : aC l = true) (i : Nat) : 0 ≤ l.getD i 0 ∧ l.getD i 0 < 256 := by
 by_cases hi : i < l.length
 ·
  have := List.all_eq_true.1 h _ (List.getElem_mem hi)
  rw [List.getD_eq_getElem?_getD, List.getElem?_eq_getElem hi]
  simpa using this
 · rw [List.getD_eq_getElem?_getD, List.getElem?_eq_none (by omega)]; simp
theorem EP {l : List Int} (h : aC l = true) (n : Nat) : aC (l.take n) = true :=
 List.all_eq_true.2 fun x hx => List.all_eq_true.1 h x (List.mem_of_mem_take hx)
theorem ER {l : List Int} (h : aC l = true) (n : Nat) : aC (l.drop n) = true :=
 List.all_eq_true.2 fun x hx => List.all_eq_true.1 h x (List.mem_of_mem_drop hx)
theorem t_ {p : List Int} (h : aC p = true) (n : Nat) : aC (fU p n) = true := EP (ER h _) _
theorem xS {p : List Int} {n : Nat} (h : 64 * n + 64 ≤ p.length) : (fU p n).length = 64 := by simp [fU]; omega
theorem CU (a b : Int) : bits .or .u32 a b = bits .or .u32 b a := by
 simp only [bits]
 rw [BitVec.or_comm]
end Go.Proofs.YtchcllcbknfikaaGreatDoor
namespace Go.Proofs.YtchcllcbknfikaaGreatDoor
open Go.RowKit si
def Sk (K : IntKind) (w : World) (A : Option Addr) (xs : List Int) : Prop := ∀ j, j < xs.length → ∃ b o, A = some ⟨b, o, none⟩ ∧ w.cell? ⟨b, o + j, none⟩ = some (.int K (xs.getD j 0))
variable {K : IntKind}
theorem sk0 (w : World) (A : Option Addr) : Sk K w A [] := fun k hk => absurd hk (by simp)
theorem Sk.below {w w' : World} {A : Option Addr} {xs : List Int} (h : Sk K w A xs) (hb : Below w.heap.size w w') : Sk K w' A xs := fun k hk => by
 obtain ⟨b, o, h1, h2⟩ := h k hk
 exact ⟨b, o, h1, (hb.cell (World.block_lt_of_cell? _ _ h2)).trans h2⟩
theorem Sk.at0 {w : World} {A : Option Addr} {xs : List Int} (h : Sk K w A xs) (h0 : 0 < xs.length) : ∃ b o, A = some ⟨b, o, none⟩ ∧ ∀ j, j < xs.length → w.cell? ⟨b, o + j, none⟩ = some (.int K (xs.getD j 0)) := by
 obtain ⟨b, o, rfl, _⟩ := h 0 h0
 exact ⟨b, o, rfl, fun j hj => by
  obtain ⟨b', o', e, hc⟩ := h j hj
  cases e
  exact hc⟩
theorem Sk.lt {w : World} {b o : Nat} {xs : List Int} (h : Sk K w (some ⟨b, o, none⟩) xs) (h0 : 0 < xs.length) : b < w.heap.size := by
 obtain ⟨b', o', e, hc⟩ := h 0 h0
 cases e
 exact World.block_lt_of_cell? _ _ hc
theorem Sk.cell {w : World} {b o : Nat} {xs : List Int} (h : Sk K w (some ⟨b, o, none⟩) xs) {j : Nat} (hj : j < xs.length) : w.cell? ⟨b, o + j, none⟩ = some (.int K (xs.getD j 0)) := by
 obtain ⟨b', o', e, hc⟩ := h j hj
 cases e
 exact hc
theorem Sk.drop {w : World} {b o n : Nat} {xs : List Int} (h : Sk K w (some ⟨b, o, none⟩) xs) : Sk K w (some ⟨b, o + n, none⟩) (xs.drop n) := fun j hj => by
 rw [List.length_drop] at hj
 refine ⟨b, o + n, rfl, ?_⟩
 rw [Nat.add_assoc, h.cell (j := n + j) (by omega)]
 simp [List.getD_eq_getElem?_getD, List.getElem?_drop]
theorem Sk.take {w : World} {A : Option Addr} {n : Nat} {xs : List Int} (h : Sk K w A xs) : Sk K w A (xs.take n) := fun j hj => by
 rw [List.length_take] at hj
 obtain ⟨b, o, h1, h2⟩ := h j (by omega)
 refine ⟨b, o, h1, ?_⟩
 rw [h2]
 simp [List.getD_eq_getElem?_getD, List.getElem?_take_of_lt (show j < n by omega)]
theorem Sk.grown {w w1 : World} {row : Option Nat} {A : Option Addr} {xs : List Int} (h : Sk K w A xs) (hg : w.grownBy w1 row) (hne : ∀ b o, A = some ⟨b, o, none⟩ → 0 < xs.length → row ≠ some b) : Sk K w1 A xs := fun k hk => by
 obtain ⟨b, o, h1, h2⟩ := h k hk
 exact ⟨b, o, h1, hg.cell h2 (fun e => hne b o h1 (by omega) e.symm)⟩
theorem Sk.nil_of {w : World} {A : Option Addr} {xs : List Int} (h : xs.length = 0) : Sk K w A xs := fun k hk => by omega
def aR (K : IntKind) (T : TypeId) (w : World) (base : Nat) (v : Value) (xs : List Int) : Prop := w.ownsRow base T 1 v xs.length (xs.map (Value.int K))
variable {T : TypeId}
theorem rJ (w : World) (base : Nat) : aR K T w base (.slice none 0 0) [] := World.ownsRow_nil _ _ _ _
theorem aR.app {w1 : World} {base k : Nat} {v' : Value} {xs ys : List Int} {m : Nat} (hk : k = xs.length) (hm : m = ys.length)
  (h : w1.ownsRow base T 1 v' (k + m) (xs.map (Value.int K) ++ ys.map (Value.int K))) : aR K T w1 base v' (xs ++ ys) := by
 unfold aR
 rw [List.length_append, List.map_append, ← hk, ← hm]
 exact h
theorem aR.below {w w1 wr : World} {B : Nat} {o : Obj} {v : Value} {xs : List Int} (h : aR K T wr B v xs) (hb : Below B w wr) (hB : B ≤ wr.heap.size) (hg : (wr.alloc o).grownBy w1 v.ownBlock) : Below B w w1 :=
 (hb.alloc hB o).grown hg (by simp; omega) (fun j hj => (World.ownsRow.lt h j hj).1)
theorem aR.below0 {w w1 wr : World} {B : Nat} {v : Value} {xs : List Int} (h : aR K T wr B v xs) (hb : Below B w wr) (hB : B ≤ wr.heap.size) (hg : wr.grownBy w1 v.ownBlock) : Below B w w1 :=
 hb.grown hg (by omega) (fun j hj => (World.ownsRow.lt h j hj).1)
theorem aR.cells {w : World} {B : Nat} {v : Value} {xs : List Int} (h : aR K T w B v xs) (hne : 0 < xs.length) : ∃ g cap, v = .slice (some ⟨g, 0, none⟩) xs.length cap ∧ B ≤ g ∧ xs.length ≤ cap ∧ cap ≤ maxLen ∧ Sk K w (some ⟨g, 0, none⟩) xs := by
 obtain ⟨h1, h2⟩ := h
 rcases h2 with ⟨_, h0⟩ | ⟨g, cap, cur, rfl, hg, hh, hn, hc, hs, ht⟩
 · omega
 ·
  refine ⟨g, cap, rfl, hg, hn, hc, fun j hj => ⟨g, 0, rfl, ?_⟩⟩
  rw [Nat.zero_add, au hh]
  have e : cur.toList[j]? = (xs.map (Value.int K))[j]? := by
   rw [← ht, List.getElem?_take_of_lt (by omega)]
  rw [← Array.getElem?_toList, e, List.getElem?_map, List.getElem?_eq_getElem hj, List.getD_eq_getElem?_getD, List.getElem?_eq_getElem hj]
  rfl
theorem aR.sk {w : World} {B : Nat} {v : Value} {xs : List Int} (h : aR K T w B v xs) : ∃ A c, v = .slice A xs.length c ∧ Sk K w A xs ∧ (0 < xs.length → ∃ g, A = some ⟨g, 0, none⟩ ∧ B ≤ g) ∧ xs.length ≤ c := by
 by_cases h0 : 0 < xs.length
 ·
  obtain ⟨g, cap, rfl, hg, hn, _, hc⟩ := aR.cells h h0
  exact ⟨some ⟨g, 0, none⟩, cap, rfl, hc, fun _ => ⟨g, rfl, hg⟩, hn⟩
 ·
  have e : xs = [] := List.eq_nil_of_length_eq_zero (by omega)
  subst e
  obtain ⟨_, h2⟩ := h
  rcases h2 with ⟨hv, _⟩ | ⟨g, cap, cur, hv, _⟩
  · exact ⟨none, 0, hv, sk0 _ _, fun h => absurd h (by simp), by simp⟩
  · exact ⟨_, cap, hv, sk0 _ _, fun h => absurd h (by simp), by simp⟩
theorem aR.keep {w w' : World} {B : Nat} {v : Value} {xs : List Int} (h : aR K T w B v xs) (hb : Below w.heap.size w w') : aR K T w' B v xs := by
 obtain ⟨h1, h2⟩ := h
 refine ⟨h1, h2.imp id ?_⟩
 rintro ⟨g, cap, cur, rfl, hg, hh, rest⟩
 exact ⟨g, cap, cur, rfl, hg, (hb.block g (Array.getElem?_eq_some_iff.1 hh).1).trans hh, rest⟩
theorem aR.mono {w : World} {B B' : Nat} {v : Value} {xs : List Int} (h : aR K T w B v xs) (hb : B' ≤ B) : aR K T w B' v xs := by
 obtain ⟨h1, h2⟩ := h
 refine ⟨h1, h2.imp id ?_⟩
 rintro ⟨g, cap, cur, rfl, hg, rest⟩
 exact ⟨g, cap, cur, rfl, by omega, rest⟩
theorem aR.kept {w w' : World} {row : Option Nat} {B : Nat} {v : Value} {xs : List Int} (h : aR K T w B v xs) (hg : w.grownBy w' row) (hne : v.ownBlock = none ∨ v.ownBlock ≠ row) : aR K T w' B v xs := World.ownsRow.kept h hg hne
theorem aR.row {w : World} {B n : Nat} {v : Value} {xs : List Int} (h : aR K T w B v xs) (hn : xs.length = n) : w.ownsRow B T 1 v n (xs.map (Value.int K)) := by
 subst hn; exact h
theorem aR.lt {w : World} {B : Nat} {v : Value} {xs : List Int} (h : aR K T w B v xs) (j : Nat) (hj : v.ownBlock = some j) : B ≤ j ∧ j < w.heap.size := World.ownsRow.lt h j hj
def zV (K : IntKind) (T : TypeId) (xs : List Int) (w : World) (e : Ending) (w' : World) : Prop := ∃ v, e = .returned v ∧ aR K T w' w.heap.size v xs ∧ Below w.heap.size w w'
theorem Gx {xs ys : List Int} {j : Nat} (h : j < xs.length) : (xs ++ ys).getD j 0 = xs.getD j 0 := by
 simp [List.getD_eq_getElem?_getD, List.getElem?_append_left h]
theorem Gw {xs ys : List Int} {j : Nat} (h : xs.length ≤ j) : (xs ++ ys).getD j 0 = ys.getD (j - xs.length) 0 := by
 simp [List.getD_eq_getElem?_getD, List.getElem?_append_right h]
theorem take_one {xs : List Int} {k : Nat} (hk : k < xs.length) : xs.take (k + 1) = xs.take k ++ [xs.getD k 0] := by
 rw [List.take_add_one, List.getElem?_eq_getElem hk, List.getD_eq_getElem?_getD, List.getElem?_eq_getElem hk]
 rfl
def arr (K : IntKind) (l : List Int) : Array Value := (l.map (Value.int K)).toArray
theorem dL (l : List Int) : (arr K l).size = l.length := by simp [arr]
def bH (K : IntKind) (T : TypeId) (w : World) (b : Nat) (l : List Int) : Prop := w.heap[b]? = some (.cells (arr K l) T (0, 0))
theorem bH.below {w w' : World} {b : Nat} {l : List Int} (h : bH K T w b l) (hb : Below w.heap.size w w') : bH K T w' b l :=
 (hb.block b (Array.getElem?_eq_some_iff.1 h).1).trans h
theorem bH.keepB {w w' : World} {b B : Nat} {l : List Int} (h : bH K T w b l) (hlt : b < B) (hb : Below B w w') : bH K T w' b l := (hb.block b hlt).trans h
theorem bH.lt {w : World} {b : Nat} {l : List Int} (h : bH K T w b l) : b < w.heap.size := (Array.getElem?_eq_some_iff.1 h).1
theorem yK {l : List Int} {j : Nat} (hj : j < l.length) : (arr K l)[j]? = some (.int K (l.getD j 0)) := by
 simp [arr, List.getD_eq_getElem?_getD, List.getElem?_eq_getElem hj]
theorem bH.cell {w : World} {b j : Nat} {l : List Int} (h : bH K T w b l) (hj : j < l.length) : w.cell? ⟨b, j, none⟩ = some (.int K (l.getD j 0)) := (au h j).trans (yK hj)
theorem bH.free {w : World} {b : Nat} {l : List Int} (h : bH K T w b l) (j : Nat) : w.frozen? ⟨b, j, none⟩ = false := av h j
theorem QF {l : List Int} {j : Nat} {v : Int} : (arr K l).setIfInBounds j (.int K v) = arr K (l.set j v) := by
 apply Array.ext'
 simp [arr, List.map_set]
theorem bH.set {w : World} {b j : Nat} {l : List Int} {v : Int} (h : bH K T w b l) : bH K T (w.setCell ⟨b, j, none⟩ (.int K v)) b (l.set j v) := by
 unfold bH
 rw [heap_setCell_same w b j _ T _ h, QF]
theorem bH.set_ne {w : World} {b a j : Nat} {l : List Int} {v : Value} (h : bH K T w b l) (hne : b ≠ a) : bH K T (w.setCell ⟨a, j, none⟩ v) b l :=
 (heap_setCell_other w _ b v hne).trans h
theorem bH.setRow {w : World} {b : Nat} {l l' : List Int} (h : bH K T w b l) : bH K T (w.setRow b (arr K l')) b l' := setRow_heap w b _ _ T _ h
theorem bH.setRow_ne {w : World} {b a : Nat} {l : List Int} {cs : Array Value} (h : bH K T w b l) (hne : b ≠ a) : bH K T (w.setRow a cs) b l := (setRow_other w a b cs hne).trans h
theorem bH.new (w : World) (l : List Int) : bH K T (w.alloc (.cells (arr K l) T)) w.heap.size l := heap_alloc_new _ _
theorem bH.old {w : World} {b : Nat} {l : List Int} (h : bH K T w b l) (o : Obj) : bH K T (w.alloc o) b l := (Below.heap_alloc w o b h.lt).trans h
theorem bH.drew {w : World} {b : Nat} {l : List Int} (h : bH K T w b l) (n : Nat) : bH K T (w.drewN n) b l := h.below (aG (Below.refl _ _) n)
theorem bH.sk {w : World} {b : Nat} {l : List Int} (h : bH K T w b l) : Sk K w (some ⟨b, 0, none⟩) l := fun j hj => ⟨b, 0, rfl, by rw [Nat.zero_add]; exact h.cell hj⟩
theorem bH.grown {w w1 : World} {row : Option Nat} {b : Nat} {l : List Int} (h : bH K T w b l) (hg : w.grownBy w1 row) (hne : row ≠ some b) : bH K T w1 b l := (hg.block b h.lt (Ne.symm hne)).trans h
theorem dh (l : List Int) : (arr K l).all (·.oneCell') = true := by simp [arr, Value.oneCell']
theorem ai {B b : Nat} {w0 w : World} {cs : Array Value} (h : Below B w0 w) (hb : B ≤ b) : Below B w0 (w.setRow b cs) :=
 h.trans ⟨rfl, rfl, rfl, by simp [World.setRow], fun k hk => setRow_other w b k cs (by omega)⟩
end Go.Proofs.YtchcllcbknfikaaGreatDoor
namespace Go.Proofs.YtchcllcbknfikaaGreatDoor
open Go.RowKit
theorem XX : ∀ n : Nat, n < 32 → 1 ≤ n → bits .and .u64 (IntKind.u64.wrap (-(n : Int))) 31 = 32 - (n : Int) := by decide
theorem iT (x : Int) : IntKind.u32.wrap x = x % 4294967296 := by simp [IntKind.wrap, IntKind.bits, IntKind.signed]
theorem Pk (x m s : Int) (n : Nat) (hs : Hid (bits .and .u64 (IntKind.u64.wrap m) 31 = s)) (hn : Hid (s = 32 - n)) (h0 : 0 ≤ s) (h1 : s ≤ 31) (w : World) :
  Calls Tryz.prog 255 #[.int .u32 x, .int .i64 m] w fun e w' => e = .returned (.int .u32 (iG x n)) ∧ w = w' := by
 have g1 : IntKind.u64.wrap (32 - s) = 32 - s := by simp [IntKind.wrap, IntKind.bits, IntKind.signed]; omega
 have g2 : 0 ≤ 32 - s := by omega
 have hs' := hs.out
 have HR : Hid (bits .or .u32 (x * 2 ^ s.toNat % 4294967296) (x / 2 ^ (32 - s).toNat) = iG x n) := aa (by
  have e1 : s.toNat = 32 - n := by have := hn.out; omega
  have e2 : (32 - s).toNat = n := by have := hn.out; omega
  rw [e1, e2, iG, CU, iT])
 clear hs hn
 go_in
 go_wp2
 go_ret
 exact ⟨by rw [HR.out]; rfl, rfl⟩
theorem lM (x N : Int) (n : Nat) (hN : N = n) (h1 : 1 ≤ n) (h2 : n < 32) (w : World) :
  Calls Tryz.prog 237 #[.int .u32 x, .int .i64 N] w fun e w' => e = .returned (.int .u32 (iG x n)) ∧ w = w' := by
 subst hN
 have HS := aa (XX n h2 h1)
 have hm' : wrap64 (-(n : Int)) = -(n : Int) := IntWalk.wrap64_in _ (by omega)
 go_in
 go_wp2_with fail
 refine (Pk x _ _ n HS (aa rfl) (by omega) (by omega) _).mono ?_
 rintro e w' ⟨rfl, rfl⟩
 go_wp2
 go_ret
 exact ⟨rfl, rfl⟩
theorem pq (x N : Int) (n : Nat) (hN : N = n) (h1 : 1 ≤ n) (h2 : n < 32) (w : World) :
  Calls Tryz.prog 214 #[.int .u32 x, .int .i64 N] w fun e w' => e = .returned (.int .u32 (iG x n)) ∧ ∃ k, w' = w.drewN k := by
 subst hN
 have g2 : (0 : Int) ≤ 32 - n := by omega
 have g3 : (0 : Int) ≤ n := by omega
 have HR : Hid (bits .or .u32 (x / 2 ^ n) (x * 2 ^ (32 - n) % 4294967296) = iG x n) := aa (by rw [iG, iT])
 have hm : IntKind.i64.wrap (32 - (n : Int)) = 32 - n := IntWalk.i64_in _ (by omega)
 have hm' : wrap64 (32 - (n : Int)) = 32 - n := IntWalk.wrap64_in _ (by omega)
 go_in
 go_wp2
 go_quiet (fail)
 go_wp2
 go_ret
 exact ⟨by rw [← HR.out]; rfl, nq, rfl⟩
theorem JA (x N : Int) (h1 : 1 ≤ N) (h2 : N < 32) (w : World) :
  Calls Tryz.prog 237 #[.int .u32 x, .int .i64 N] w fun e w' => e = .returned (.int .u32 (iG x N.toNat)) ∧ w = w' :=
 lM x N N.toNat (by omega) (by omega) (by omega) w
theorem zf (x N : Int) (h1 : 1 ≤ N) (h2 : N < 32) (w : World) :
  Calls Tryz.prog 214 #[.int .u32 x, .int .i64 N] w fun e w' => e = .returned (.int .u32 (iG x N.toNat)) ∧ ∃ k, w' = w.drewN k :=
 pq x N N.toNat (by omega) (by omega) (by omega) w
end Go.Proofs.YtchcllcbknfikaaGreatDoor
namespace Go.Proofs.YtchcllcbknfikaaGreatDoor
open Go.RowKit si
theorem PI {p c : Int} (h0 : 0 ≤ p) (h1 : p < 16777216) (c0 : 0 ≤ c) (c1 : c < 256) : bits .or .u32 (p * 256) c = p * 256 + c := by
 obtain ⟨P, rfl⟩ := Int.eq_ofNat_of_zero_le h0
 obtain ⟨C, rfl⟩ := Int.eq_ofNat_of_zero_le c0
 have e1 : ((P : Int) * 256) = ((P * 256 : Nat) : Int) := by omega
 rw [e1, u32_or _ _ (by omega) (by omega) (by omega) (by omega)]
 have e2 : 2 ^ 8 * P + C = 2 ^ 8 * P ||| C := Nat.two_pow_add_eq_or_of_lt (by omega) P
 have e3 : P * 256 ||| C = P * 256 + C := by rw [show P * 256 = 2 ^ 8 * P by omega, ← e2]
 simp only [Int.toNat_natCast]
 rw [e3]
 omega
def part (b : List Int) (i : Nat) : Nat → Int
 | 0 => 0
 | m + 1 => part b i m * 256 + qy b (4 * i + m)
theorem Rk (b : List Int) (i : Nat) : part b i 4 = Dx b i := by simp [part, Dx]
theorem PD {b : List Int} (h : aC b = true) (i m : Nat) : 0 ≤ part b i m := by
 induction m with
 | zero => exact Int.le_refl _
 | succ m ih => have := (iR h (4 * i + m)).1; simp only [part, qy]; omega
theorem Im {b : List Int} (h : aC b = true) (i m : Nat) (hm : m ≤ 3) : part b i m < 16777216 := by
 have h0 := iR h (4 * i)
 have h1 := iR h (4 * i + 1)
 have h2 := iR h (4 * i + 2)
 rcases (show m = 0 ∨ m = 1 ∨ m = 2 ∨ m = 3 by omega) with rfl | rfl | rfl | rfl
 · simp [part]
 · simp only [part, qy, Nat.add_zero]; omega
 · simp only [part, qy, Nat.add_zero]; omega
 · simp only [part, qy, Nat.add_zero]; omega
def dz (n : Nat) : List Int := List.replicate n 0
theorem RS : (#[.int .u32 0, .int .u32 0, .int .u32 0, .int .u32 0, .int .u32 0, .int .u32 0, .int .u32 0, .int .u32 0, .int .u32 0, .int .u32 0, .int .u32 0, .int .u32 0, .int .u32 0, .int .u32 0, .int .u32 0, .int .u32 0, .int .u32 0, .int .u32 0, .int .u32 0, .int .u32 0, .int .u32 0, .int .u32 0, .int .u32 0, .int .u32 0, .int .u32 0, .int .u32 0, .int .u32 0, .int .u32 0, .int .u32 0, .int .u32 0, .int .u32 0, .int .u32 0, .int .u32 0, .int .u32 0, .int .u32 0, .int .u32 0, .int .u32 0, .int .u32 0, .int .u32 0, .int .u32 0, .int .u32 0, .int .u32 0, .int .u32 0, .int .u32 0, .int .u32 0, .int .u32 0, .int .u32 0, .int .u32 0, .int .u32 0, .int .u32 0, .int .u32 0, .int .u32 0, .int .u32 0, .int .u32 0, .int .u32 0, .int .u32 0, .int .u32 0, .int .u32 0, .int .u32 0, .int .u32 0, .int .u32 0, .int .u32 0, .int .u32 0, .int .u32 0] : Array Value) = arr .u32 (dz 64) := by rfl
def wz (l : List Int) : List Int := l ++ dz (64 - l.length)
theorem FD {l : List Int} (h : l.length ≤ 64) : (wz l).length = 64 := by simp [wz, dz]; omega
theorem KP {l : List Int} {x : Int} (h : l.length < 64) : (wz l).set l.length x = wz (l ++ [x]) := by
 obtain ⟨m, hm⟩ : ∃ m, 64 - l.length = m + 1 := ⟨63 - l.length, by omega⟩
 have hm2 : 64 - (l ++ [x]).length = m := by rw [List.length_append, List.length_singleton]; omega
 rw [wz, wz, hm, hm2, dz, List.replicate_succ, List.set_append_right _ _ (Nat.le_refl _), Nat.sub_self, List.set_cons_zero]
 simp [dz]
theorem V9 {l : List Int} : (wz l).getD l.length 0 = 0 := by
 rw [wz, Gw (Nat.le_refl _), Nat.sub_self, dz, List.getD_eq_getElem?_getD, List.getElem?_replicate]
 split <;> rfl
theorem Sd {l : List Int} {j : Nat} (h : j < l.length) : (wz l).getD j 0 = l.getD j 0 := Gx h
theorem set_self {l : List Int} {k : Nat} {x : Int} (h : l.getD k 0 = x) : l.set k x = l := by
 by_cases hk : k < l.length
 ·
  rw [List.getD_eq_getElem?_getD, List.getElem?_eq_getElem hk] at h
  subst h
  exact List.set_getElem_self hk
 · exact List.set_eq_of_length_le (by omega)
theorem EB {l : List Int} {k : Nat} {x : Int} (h : k < l.length) : (l.set k x).getD k 0 = x := by
 simp [List.getD_eq_getElem?_getD, h]
theorem KQ (b : List Int) : wz (ni 48 (dB b 16)) = dN b := by
 have h := jr b
 unfold dN at h ⊢
 unfold wz
 rw [h]
 simp [dz]
theorem TV : (Tryz.prog.info? 247).map (·.size) = some 64 := by kernel_rfl
theorem qc (b : List Int) : (Tryz.prog.info? 247).map (·.size) = some (arr .u32 (dN b)).size := TV.trans (congrArg some (by rw [dL, jr]))
theorem DW (b : List Int) : (arr .u32 (dz 64)).size = (arr .u32 (dN b)).size := by rw [dL, dL, jr]; rfl
theorem Jo (b o cap : Nat) (blk : List Int) (hlen : Hid (blk.length = 64)) (hby : Hid (aC blk = true)) (w : World) (hs : Hid (Sk .u8 w (some ⟨b, o, none⟩) blk)) (hcap : 64 ≤ cap) (hcm : cap ≤ 9223372036854775807) :
  Calls Tryz.prog 236 #[.slice (some ⟨b, o, none⟩) 64 cap] w (Rt w (.agg (arr .u32 (dN blk)))) := by
 obtain ⟨W, hW⟩ : ∃ W, (w.alloc (.cells #[.int .u32 0, .int .u32 0, .int .u32 0, .int .u32 0, .int .u32 0, .int .u32 0, .int .u32 0, .int .u32 0, .int .u32 0, .int .u32 0, .int .u32 0, .int .u32 0, .int .u32 0, .int .u32 0, .int .u32 0, .int .u32 0, .int .u32 0, .int .u32 0, .int .u32 0, .int .u32 0, .int .u32 0, .int .u32 0, .int .u32 0, .int .u32 0, .int .u32 0, .int .u32 0, .int .u32 0, .int .u32 0, .int .u32 0, .int .u32 0, .int .u32 0, .int .u32 0, .int .u32 0, .int .u32 0, .int .u32 0, .int .u32 0, .int .u32 0, .int .u32 0, .int .u32 0, .int .u32 0, .int .u32 0, .int .u32 0, .int .u32 0, .int .u32 0, .int .u32 0, .int .u32 0, .int .u32 0, .int .u32 0, .int .u32 0, .int .u32 0, .int .u32 0, .int .u32 0, .int .u32 0, .int .u32 0, .int .u32 0, .int .u32 0, .int .u32 0, .int .u32 0, .int .u32 0, .int .u32 0, .int .u32 0, .int .u32 0, .int .u32 0, .int .u32 0] 247)).alloc (.cells #[.int .u32 0, .int .u32 0, .int .u32 0, .int .u32 0, .int .u32 0, .int .u32 0, .int .u32 0, .int .u32 0, .int .u32 0, .int .u32 0, .int .u32 0, .int .u32 0, .int .u32 0, .int .u32 0, .int .u32 0, .int .u32 0, .int .u32 0, .int .u32 0, .int .u32 0, .int .u32 0, .int .u32 0, .int .u32 0, .int .u32 0, .int .u32 0, .int .u32 0, .int .u32 0, .int .u32 0, .int .u32 0, .int .u32 0, .int .u32 0, .int .u32 0, .int .u32 0, .int .u32 0, .int .u32 0, .int .u32 0, .int .u32 0, .int .u32 0, .int .u32 0, .int .u32 0, .int .u32 0, .int .u32 0, .int .u32 0, .int .u32 0, .int .u32 0, .int .u32 0, .int .u32 0, .int .u32 0, .int .u32 0, .int .u32 0, .int .u32 0, .int .u32 0, .int .u32 0, .int .u32 0, .int .u32 0, .int .u32 0, .int .u32 0, .int .u32 0, .int .u32 0, .int .u32 0, .int .u32 0, .int .u32 0, .int .u32 0, .int .u32 0, .int .u32 0] 247) = W := ⟨_, rfl⟩
 have bT : Hid (Below w.heap.size w W) := aa (by rw [← hW]; exact aJ (Below.refl _ _))
 have HB0 : Hid (bH .u32 247 W (w.heap.size + 1) (wz (dB blk 0))) := aa (by
  rw [← hW, RS]
  exact heap_alloc2_new _ _ _)
 have eG : Hid (bH .u32 247 W w.heap.size (dz 64)) := aa (by
  rw [← hW, RS]
  exact heap_alloc2_old _ _ _)
 have lu : Hid (W.heap.size = w.heap.size + 2) := aa (by rw [← hW]; simp)
 have HS := aa hs.out
 have HW := aa hW
 clear hW hs
 go_in
 go_wp2
 rw [HW.out]
 go_loopw [12] (fun i wr => ∃ k : Nat, k ≤ 16 ∧ i = .int .i64 k ∧ Hid (bH .u32 247 wr (w.heap.size + 1) (wz (dB blk k))) ∧ Hid (Below (w.heap.size + 1) W wr)) (fun i _ => 16 - (intOf i).toNat)
 case atStart => exact ⟨0, by omega, rfl, HB0, aa (Below.refl _ _)⟩
 case round =>
  obtain ⟨k, hk, rfl, HB, aF⟩ := hrel
  by_cases hlt : k < 16
  ·
   clear HW
   have AQ : Hid (bH .u32 247 wr (w.heap.size + 1) ((wz (dB blk k)).set k (part blk k 0))) := aa (by
    rw [set_self (by have := V9 (l := dB blk k); rwa [fF] at this)]
    exact HB.out)
   go_wp2
   go_loopw [23] (fun j u => ∃ m : Nat, m ≤ 4 ∧ j = .int .i64 m ∧ Hid (bH .u32 247 u (w.heap.size + 1) ((wz (dB blk k)).set k (part blk k m))) ∧ Hid (Below (w.heap.size + 1) W u)) (fun j _ => 4 - (intOf j).toNat)
   case atStart => exact ⟨0, by omega, rfl, AQ, aF⟩
   case round =>
    obtain ⟨m, hm, rfl, uK, mZ⟩ := hrel
    by_cases hlm : m < 4
    ·
     have hc0 := uK.out.cell (j := k) (by rw [List.length_set, FD (by rw [fF]; omega)]; omega)
     rw [EB (by rw [FD (by rw [fF]; omega)]; omega)] at hc0
     have hf0 := uK.out.free k
     have hc1 := (HS.out.below (bT.out.trans (mZ.out.mono (Nat.le_succ _)))).cell (j := 4 * k + m) (by have := hlen.out; omega)
     obtain ⟨c0, c1⟩ := iR hby.out (4 * k + m)
     have hpn : part blk k (m + 1) = part blk k m * 256 + blk.getD (4 * k + m) 0 := rfl
     have p0 := PD hby.out k m
     have p1 := Im hby.out k m (by omega)
     obtain ⟨c, hcc⟩ : ∃ c, blk.getD (4 * k + m) 0 = c := ⟨_, rfl⟩
     rw [hcc] at hc1 c0 c1 hpn
     rw [← Nat.add_assoc] at hc1
     obtain ⟨p, hp⟩ : ∃ p, part blk k m = p := ⟨_, rfl⟩
     rw [hp] at hc0 p0 p1 hpn
     have hor := PI p0 p1 c0 c1
     obtain ⟨q, hq⟩ : ∃ q, p * 256 + c = q := ⟨_, rfl⟩
     rw [hq] at hor hpn
     have HB2 : Hid (bH .u32 247 (wr.setCell ⟨w.heap.size + 1, k, none⟩ (.int .u32 q)) (w.heap.size + 1) ((wz (dB blk k)).set k (part blk k (m + 1)))) := aa (by
      rw [hpn]
      have h := uK.out.set (j := k) (v := q)
      rwa [List.set_set] at h)
     have Aa : Hid (Below (w.heap.size + 1) W (wr.setCell ⟨w.heap.size + 1, k, none⟩ (.int .u32 q))) := aa (mZ.out.setCell (Nat.le_refl _) _)
     clear hcc hp hq hpn uK mZ
     go_wp2
     go_roundw
     case rel => exact ⟨m + 1, by omega, by go_num, HB2, Aa⟩
     case measure => simp [intOf]; omega
    ·
     obtain rfl : m = 4 := by omega
     have HB2 : Hid (bH .u32 247 wr (w.heap.size + 1) (wz (dB blk (k + 1)))) := aa (by
      have h := uK.out
      have e := KP (l := dB blk k) (x := Dx blk k) (by rw [fF]; omega)
      rw [fF] at e
      rw [Rk, e, ← xI] at h
      exact h)
     clear uK
     go_wp2
     go_roundw
     case rel => exact ⟨k + 1, by omega, by go_num, HB2, mZ⟩
     case measure => simp [intOf]; omega
  ·
   obtain rfl : k = 16 := by omega
   clear HW hlt
   have acP : Hid (bH .u32 247 wr (w.heap.size + 1) (wz (ni (16 - 16) (dB blk 16)))) := aa (by rw [show 16 - 16 = 0 from rfl, ni]; exact HB.out)
   clear HB
   go_wp2
   rw [show (((16 : Nat) : Int)) = 16 from rfl]
   go_loopw [7] (fun i u => ∃ t : Nat, 16 ≤ t ∧ t ≤ 64 ∧ i = .int .i64 t ∧ Hid (bH .u32 247 u (w.heap.size + 1) (wz (ni (t - 16) (dB blk 16)))) ∧ Hid (Below (w.heap.size + 1) W u)) (fun i _ => 64 - (intOf i).toNat)
   case atStart => exact ⟨16, by omega, by omega, rfl, acP, aF⟩
   case round =>
    obtain ⟨t, ht0, ht, rfl, Ot, mZ⟩ := hrel
    by_cases hlt : t < 64
    ·
     obtain ⟨L, hL⟩ : ∃ L, ni (t - 16) (dB blk 16) = L := ⟨_, rfl⟩
     have hLn : L.length = t := by rw [← hL, yX, fF]; omega
     have hwz : (wz L).length = 64 := FD (by omega)
     rw [hL] at Ot
     have UB := Ot.out.cell (j := t - 15) (by omega)
     have h2 := Ot.out.cell (j := t - 2) (by omega)
     have h16 := Ot.out.cell (j := t - 16) (by omega)
     have h7 := Ot.out.cell (j := t - 7) (by omega)
     have ht0' := Ot.out.cell (j := t) (by omega)
     have hfr := Ot.out.free t
     rw [Sd (by omega)] at UB h2 h16 h7
     have hnx : ni (t + 1 - 16) (dB blk 16) = L ++ [add32 (add32 (add32 (L.getD (t - 16) 0) (SA (L.getD (t - 15) 0))) (L.getD (t - 7) 0)) (Sz (L.getD (t - 2) 0))] := by
      rw [show t + 1 - 16 = (t - 16) + 1 by omega, ni, hL, KT, hLn]
     obtain ⟨Jh, e15⟩ : ∃ x, L.getD (t - 15) 0 = x := ⟨_, rfl⟩
     obtain ⟨x2, e2⟩ : ∃ x, L.getD (t - 2) 0 = x := ⟨_, rfl⟩
     obtain ⟨VK, e16⟩ : ∃ x, L.getD (t - 16) 0 = x := ⟨_, rfl⟩
     obtain ⟨x7, e7⟩ : ∃ x, L.getD (t - 7) 0 = x := ⟨_, rfl⟩
     rw [e15] at UB hnx
     rw [e2] at h2 hnx
     rw [e16] at h16 hnx
     rw [e7] at h7 hnx
     have Fv := aa hnx
     have ry := aa hLn
     have i15 : ((t : Int) - 15).toNat = t - 15 := by omega
     have i2 : ((t : Int) - 2).toNat = t - 2 := by omega
     have i16 : ((t : Int) - 16).toNat = t - 16 := by omega
     have i7 : ((t : Int) - 7).toNat = t - 7 := by omega
     have j15 : (0 : Int) ≤ (t : Int) - 15 := by omega
     have j2 : (0 : Int) ≤ (t : Int) - 2 := by omega
     have j16 : (0 : Int) ≤ (t : Int) - 16 := by omega
     have j7 : (0 : Int) ≤ (t : Int) - 7 := by omega
     clear hnx e15 e2 e16 e7 hL hLn hwz
     go_wp2
     go_quiet (fail)
     have Aa := aa (aG mZ.out nq)
     have Zd := aa (Ot.out.drew nq)
     obtain ⟨w2, hw2⟩ : ∃ u, wr.drewN nq = u := ⟨_, rfl⟩
     rw [hw2] at Aa Zd
     have HW2 := aa hw2
     have g16 : w2.cell? ⟨w.heap.size + 1, t - 16, none⟩ = some (.int .u32 VK) := by rw [← hw2]; simpa using h16
     have g7 : w2.cell? ⟨w.heap.size + 1, t - 7, none⟩ = some (.int .u32 x7) := by rw [← hw2]; simpa using h7
     have gt : w2.cell? ⟨w.heap.size + 1, t, none⟩ = some (.int .u32 ((wz L).getD t 0)) := by rw [← hw2]; simpa using ht0'
     have gf : w2.frozen? ⟨w.heap.size + 1, t, none⟩ = false := by rw [← hw2]; simpa using hfr
     clear hw2 UB h2 h16 h7 ht0' hfr mZ Ot
     go_wp2_with fail
     rw [HW2.out]
     refine (lM Jh 7 7 rfl (by decide) (by decide) _).mono ?_
     rintro e w' ⟨rfl, rfl⟩
     go_wp2_with fail
     refine (lM Jh 18 18 rfl (by decide) (by decide) _).mono ?_
     rintro e w' ⟨rfl, rfl⟩
     go_wp2_with fail
     refine (lM x2 17 17 rfl (by decide) (by decide) _).mono ?_
     rintro e w' ⟨rfl, rfl⟩
     go_wp2_with fail
     refine (lM x2 19 19 rfl (by decide) (by decide) _).mono ?_
     rintro e w' ⟨rfl, rfl⟩
     obtain ⟨r7, Ue⟩ : ∃ r, iG Jh 7 = r := ⟨_, rfl⟩
     obtain ⟨r18, Gj⟩ : ∃ r, iG Jh 18 = r := ⟨_, rfl⟩
     obtain ⟨r17, Gl⟩ : ∃ r, iG x2 17 = r := ⟨_, rfl⟩
     obtain ⟨r19, Gi⟩ : ∃ r, iG x2 19 = r := ⟨_, rfl⟩
     rw [Ue, Gj, Gl, Gi]
     obtain ⟨s0, hs0⟩ : ∃ r, bits .xor .u32 (bits .xor .u32 r7 r18) (Jh / 8) = r := ⟨_, rfl⟩
     obtain ⟨s1, hs1⟩ : ∃ r, bits .xor .u32 (bits .xor .u32 r17 r19) (x2 / 1024) = r := ⟨_, rfl⟩
     have Z7 : Hid (SA Jh = s0) := aa (by rw [SA, Ue, Gj, hs0])
     have Z6 : Hid (Sz x2 = s1) := aa (by rw [Sz, Gl, Gi, hs1])
     clear Ue Gj Gl Gi
     go_wp2
     clear hs0 hs1
     obtain ⟨V, hV⟩ : ∃ V, (VK + s0 + x7 + s1) % 4294967296 = V := ⟨_, rfl⟩
     have HV := aa hV
     have HN : Hid (ni (t + 1 - 16) (dB blk 16) = L ++ [V]) := aa (by
      rw [Fv.out, Z7.out, Z6.out, ← hV]
      simp only [add32, iT]
      congr 2
      omega)
     have HB3 : Hid (bH .u32 247 (w2.setCell ⟨w.heap.size + 1, t, none⟩ (.int .u32 V)).drew (w.heap.size + 1) (wz (ni (t + 1 - 16) (dB blk 16)))) := aa (by
      rw [HN.out]
      have h := Zd.out.set (j := t) (v := V)
      have e := KP (l := L) (x := V) (by have := ry.out; omega)
      rw [ry.out] at e
      rw [e] at h
      exact h)
     have Ku : Hid (Below (w.heap.size + 1) W (w2.setCell ⟨w.heap.size + 1, t, none⟩ (.int .u32 V)).drew) := aa (Aa.out.setCell (Nat.le_refl _) _).drew
     clear hV
     go_region
     rw [HV.out]
     clear g16 g7 gt gf
     go_wp2
     go_roundw
     case rel => exact ⟨t + 1, by omega, by omega, by go_num, HB3, Ku⟩
     case measure => simp [intOf]; omega
    ·
     have Kv : Hid (bH .u32 247 wr (w.heap.size + 1) (dN blk)) := aa (by
      have h := Ot.out
      rwa [show t - 16 = 48 by omega, KQ] at h)
     have RY : Hid (bH .u32 247 wr w.heap.size (dz 64)) := aa (eG.out.keepB (Nat.lt_succ_self _) mZ.out)
     have fM : Hid (Below w.heap.size w (wr.setRow w.heap.size (arr .u32 (dN blk)))) := aa (ai (bT.out.trans (mZ.out.mono (Nat.le_succ _))) (Nat.le_refl _))
     have HRR : Hid (bH .u32 247 (wr.setRow w.heap.size (arr .u32 (dN blk))) w.heap.size (dN blk)) := aa (RY.out.setRow)
     clear Ot
     go_wp2_with (first
      | ((with_reducible show wpList _ _ _ (⟨some 81, _, _, _, _, _⟩ :: _) _ _); refine wpList_load_row rfl 247 _ rfl (w.heap.size + 1) rfl _ _ _ _ Kv.out Tryz.underlying247 rfl (qc blk) ?_)
      | ((with_reducible show wpList _ _ _ (⟨none, _, _, _, _, _⟩ :: _) _ _); refine wpList_store_row rfl 247 _ _ rfl w.heap.size (arr .u32 (dN blk)) rfl rfl _ _ RY.out (qc blk) (DW blk) (dh _) ?_))
     exact bodyPost_ret (v := .agg (arr .u32 (dN blk))) (results_cell_row (p := 2) (ty := 247) rfl _ _ w.heap.size _ _ _ _ rfl HRR.out Tryz.underlying247 rfl (qc blk)) rfl ⟨rfl, fM.out⟩
def bz (w : World) : Prop := (∀ k, k < 64 → w.cell? ⟨5, k, none⟩ = some (.int .u32 (KL.getD k 0))) ∧ (∀ k, k < 8 → w.cell? ⟨4, k, none⟩ = some (.int .u32 (st0.list.getD k 0)))
theorem bz.below {w w' : World} (h : bz w) (hb : Below w.heap.size w w') : bz w' := ⟨fun k hk => cell_below (h.1 k hk) hb, fun k hk => cell_below (h.2 k hk) hb⟩
def r_ (s v : List Int) (k : Nat) : List Int := (List.range 8).map fun j => if j < k then add32 (s.getD j 0) (v.getD j 0) else s.getD j 0
theorem r9 (s v : List Int) (k : Nat) : (r_ s v k).length = 8 := by simp [r_]
theorem EX {s v : List Int} {k : Nat} (h : k < 8) : (r_ s v k).getD k 0 = s.getD k 0 := by
 simp [r_, List.getD_eq_getElem?_getD, h]
theorem EW {s v : List Int} {k : Nat} (h : k < 8) : (r_ s v k).set k (add32 (s.getD k 0) (v.getD k 0)) = r_ s v (k + 1) := by
 apply List.ext_getElem?
 intro i
 by_cases hi : i < 8
 ·
  by_cases e : k = i
  · subst e; simp [r_, List.getElem?_set, h]
  ·
   have e2 : (i < k + 1) ↔ (i < k) := by omega
   simp [r_, List.getElem?_set, hi, e, e2]
 · rw [List.getElem?_eq_none (by rw [List.length_set, r9]; omega), List.getElem?_eq_none (by rw [r9]; omega)]
theorem BG {s v : List Int} (h : s.length = 8) : r_ s v 0 = s := by
 apply List.ext_getElem?
 intro i
 by_cases hi : i < 8
 · simp [r_, hi, h]
 · rw [List.getElem?_eq_none (by rw [r9]; omega), List.getElem?_eq_none (by omega)]
theorem EY (s v : St) : r_ s.list v.list 8 = (QH s v).list := rfl
theorem QG (xa xb xc xd xe xf xg xh : Int) : (#[.int .u32 xa, .int .u32 xb, .int .u32 xc, .int .u32 xd, .int .u32 xe, .int .u32 xf, .int .u32 xg, .int .u32 xh] : Array Value) = arr .u32 (St.mk xa xb xc xd xe xf xg xh).list := rfl
theorem V7 : (#[.int .u32 0, .int .u32 0, .int .u32 0, .int .u32 0, .int .u32 0, .int .u32 0, .int .u32 0, .int .u32 0] : Array Value) = arr .u32 (dz 8) := rfl
theorem WU : (Tryz.prog.info? 229).map (·.size) = some 8 := by kernel_rfl
theorem kr (s : St) : (Tryz.prog.info? 229).map (·.size) = some (arr .u32 s.list).size := WU
theorem WW (xa xb xc xd xe xf xg xh : Int) : ∀ k : Nat, k < 8 → ∀ w, (Instr.index 229 (.agg #[.int .u32 xa, .int .u32 xb, .int .u32 xc, .int .u32 xd, .int .u32 xe, .int .u32 xf, .int .u32 xg, .int .u32 xh]) (.int .i64 (k : Int))).run Tryz.prog w = .ok (.int .u32 ((St.mk xa xb xc xd xe xf xg xh).list.getD k 0)) w
 | 0, _ => fun w => by kernel_rfl
 | 1, _ => fun w => by kernel_rfl
 | 2, _ => fun w => by kernel_rfl
 | 3, _ => fun w => by kernel_rfl
 | 4, _ => fun w => by kernel_rfl
 | 5, _ => fun w => by kernel_rfl
 | 6, _ => fun w => by kernel_rfl
 | 7, _ => fun w => by kernel_rfl
 | k + 8, h => absurd h (by omega)
theorem RP (e f g : Int) : bits .xor .u32 (bits .and .u32 e f) (bits .and .u32 (bits .xor .u32 (if IntKind.u32.signed = true then -1 else IntKind.u32.max) e) g) = ZG e f g := rfl
theorem K_ (e : Int) : bits .xor .u32 (bits .xor .u32 (iG e 6) (iG e 11)) (iG e 25) = Zo e := rfl
def SF (e f g h k w : Int) : Int := ((h + Zo e + ZG e f g + k) % 4294967296 + w) % 4294967296
theorem Rj (e f g h k w : Int) : ((h + Zo e + ZG e f g + k) % 4294967296 + w) % 4294967296 = SF e f g h k w := rfl
def Wn (a b c : Int) : Int := (Zp a + Zt a b c) % 4294967296
theorem LF (a b c d e f g h k w : Int) : Wq ⟨a, b, c, d, e, f, g, h⟩ k w = ⟨(SF e f g h k w + Wn a b c) % 4294967296, a, b, c, (d + SF e f g h k w) % 4294967296, e, f, g⟩ := by
 have hx : Po ⟨a, b, c, d, e, f, g, h⟩ k w = SF e f g h k w := by
  simp only [Po, SF, add32, iT]
  omega
 simp only [Wq, hx, Wp, Wn, add32, iT]
theorem BX {P : Program} {f : FuncId} {args : Array Value} {w : World} {n : Nat} {v : Value}
  (h : Calls P f args (w.drewN n) fun e w' => e = .returned v ∧ w.drewN n = w') : Calls P f args (w.drewN n) fun e w'' => e = .returned v ∧ ∃ m, w'' = w.drewN m :=
 h.mono fun _ _ ⟨he, hm⟩ => ⟨he, n, hm.symm⟩
theorem PR (s : St) (b o cap : Nat) (blk : List Int) (hlen : Hid (blk.length = 64)) (hby : Hid (aC blk = true)) (w : World) (hs : Hid (Sk .u8 w (some ⟨b, o, none⟩) blk)) (hcap : 64 ≤ cap) (hcm : cap ≤ 9223372036854775807) (hv : Hid (bz w)) :
  Calls Tryz.prog 221 #[.agg (arr .u32 s.list), .slice (some ⟨b, o, none⟩) 64 cap] w (Rt w (.agg (arr .u32 (Eh s blk).list))) := by
 obtain ⟨xa, xb, xc, xd, xe, xf, xg, xh⟩ := s
 rw [← QG]
 obtain ⟨W, hW⟩ : ∃ W, (w.alloc (.cells #[.int .u32 xa, .int .u32 xb, .int .u32 xc, .int .u32 xd, .int .u32 xe, .int .u32 xf, .int .u32 xg, .int .u32 xh] 229)).alloc (.cells #[.int .u32 0, .int .u32 0, .int .u32 0, .int .u32 0, .int .u32 0, .int .u32 0, .int .u32 0, .int .u32 0] 229) = W := ⟨_, rfl⟩
 have bT : Hid (Below w.heap.size w W) := aa (by rw [← hW]; exact aJ (Below.refl _ _))
 have HB0 : Hid (bH .u32 229 W w.heap.size (St.mk xa xb xc xd xe xf xg xh).list) := aa (by
  rw [← hW, QG]
  exact heap_alloc2_old _ _ _)
 have HZ0 : Hid (bH .u32 229 W (w.heap.size + 1) (dz 8)) := aa (by
  rw [← hW, V7]
  exact heap_alloc2_new _ _ _)
 have HS := aa (hs.out.below bT.out)
 have HV := aa (hv.out.below bT.out)
 have HW := aa hW
 have lu : Hid (w.heap.size + 2 = W.heap.size) := aa (by rw [← hW]; simp)
 clear hW hs hv
 go_in
 go_wp2_with fail
 rw [HW.out]
 refine (Jo b o cap blk hlen hby _ HS hcap hcm).mono ?_
 rintro e w1 ⟨rfl, hb1⟩
 have HB1 := aa (HB0.out.below hb1)
 have HZ1 := aa (HZ0.out.below hb1)
 have qF := aa (HV.out.below hb1)
 have Yz : Hid (w.heap.size + 2 ≤ w1.heap.size) := aa (by have := hb1.size; have := lu.out; omega)
 have vZ := aa (ag bT.out hb1)
 clear hb1 HW
 go_wp2_with ((with_reducible show wpList _ _ _ (⟨none, _, _, _, _, _⟩ :: _) _ _); refine wpList_store_row rfl 247 _ _ rfl w1.heap.size (arr .u32 (dN blk)) rfl rfl _ _ (heap_alloc_new _ _) (qc blk) (DW blk) (dh _) ?_)
 rw [World.setRow_alloc_new]
 have VG := aa (ag vZ.out (af w1 (.cells (arr .u32 (dN blk)) 247)))
 have HB2 := aa (HB1.out.below (af w1 (.cells (arr .u32 (dN blk)) 247)))
 have HZ2 := aa (HZ1.out.below (af w1 (.cells (arr .u32 (dN blk)) 247)))
 have yw := aa (qF.out.below (af w1 (.cells (arr .u32 (dN blk)) 247)))
 have HW2 : Hid (bH .u32 247 (w1.alloc (.cells (arr .u32 (dN blk)) 247)) w1.heap.size (dN blk)) := aa (bH.new _ _)
 obtain ⟨W2, hW2⟩ : ∃ u, w1.alloc (.cells (arr .u32 (dN blk)) 247) = u := ⟨_, rfl⟩
 have Yy : Hid (w1.heap.size < W2.heap.size) := aa (by rw [← hW2]; simp)
 rw [hW2] at VG HB2 HZ2 yw HW2 ⊢
 clear hW2 HB1 HZ1 qF vZ HB0 HZ0 HV HS
 obtain ⟨g0, g1, g2, g3, g4, g5, g6, g7⟩ : W2.cell? ⟨w.heap.size, 0, none⟩ = some (.int .u32 xa) ∧ W2.cell? ⟨w.heap.size, 1, none⟩ = some (.int .u32 xb) ∧ W2.cell? ⟨w.heap.size, 2, none⟩ = some (.int .u32 xc) ∧ W2.cell? ⟨w.heap.size, 3, none⟩ = some (.int .u32 xd) ∧ W2.cell? ⟨w.heap.size, 4, none⟩ = some (.int .u32 xe) ∧ W2.cell? ⟨w.heap.size, 5, none⟩ = some (.int .u32 xf) ∧ W2.cell? ⟨w.heap.size, 6, none⟩ = some (.int .u32 xg) ∧ W2.cell? ⟨w.heap.size, 7, none⟩ = some (.int .u32 xh) :=
  ⟨HB2.out.cell (j := 0) (show 0 < 8 by decide), HB2.out.cell (j := 1) (show 1 < 8 by decide), HB2.out.cell (j := 2) (show 2 < 8 by decide), HB2.out.cell (j := 3) (show 3 < 8 by decide), HB2.out.cell (j := 4) (show 4 < 8 by decide), HB2.out.cell (j := 5) (show 5 < 8 by decide), HB2.out.cell (j := 6) (show 6 < 8 by decide), HB2.out.cell (j := 7) (show 7 < 8 by decide)⟩
 obtain ⟨ws, hws⟩ : ∃ l, dN blk = l := ⟨_, rfl⟩
 have Yl : Kp (dN blk = ws) := ⟨hws⟩
 have I7 : Hid (ws.length = 64) := aa (by rw [← hws, jr])
 rw [hws] at HW2
 rw [hws]
 clear hws
 go_wp2
 go_quiet (fail)
 have I9 := aa (aG (Below.refl W2.heap.size W2) nq)
 clear g0 g1 g2 g3 g4 g5 g6 g7
 go_wp2
 go_loopw [6, 7, 8, 9, 10, 11, 12, 13, 37] (fun a b c d e f g h i u => ∃ (k : Nat) (ya yb yc yd ye yf yg yh : Int), k ≤ 64 ∧ i = .int .i64 k ∧ a = .int .u32 ya ∧ b = .int .u32 yb ∧ c = .int .u32 yc ∧ d = .int .u32 yd ∧ e = .int .u32 ye ∧ f = .int .u32 yf ∧ g = .int .u32 yg ∧ h = .int .u32 yh ∧ Hid (xZ ws ⟨xa, xb, xc, xd, xe, xf, xg, xh⟩ k = ⟨ya, yb, yc, yd, ye, yf, yg, yh⟩) ∧ Hid (Below W2.heap.size W2 u)) (fun _ _ _ _ _ _ _ _ i _ => 64 - (intOf i).toNat)
 case atStart => exact ⟨0, xa, xb, xc, xd, xe, xf, xg, xh, by omega, rfl, rfl, rfl, rfl, rfl, rfl, rfl, rfl, rfl, aa rfl, I9⟩
 case round =>
  obtain ⟨k, ya, yb, yc, yd, ye, yf, yg, yh, hk, rfl, rfl, rfl, rfl, rfl, rfl, rfl, rfl, rfl, HR, mZ⟩ := hrel
  by_cases hlt : k < 64
  ·
   have hk0 := (yw.out.below mZ.out).1 k hlt
   have hk1 := (HW2.out.below mZ.out).cell (j := k) (by have := I7.out; omega)
   have hnx : xZ ws ⟨xa, xb, xc, xd, xe, xf, xg, xh⟩ (k + 1) = Wq ⟨ya, yb, yc, yd, ye, yf, yg, yh⟩ (KL.getD k 0) (ws.getD k 0) := by rw [xZ, HR.out]
   obtain ⟨kc, XK⟩ : ∃ x, KL.getD k 0 = x := ⟨_, rfl⟩
   obtain ⟨wc, XJ⟩ : ∃ x, ws.getD k 0 = x := ⟨_, rfl⟩
   rw [XK] at hk0 hnx
   rw [XJ] at hk1 hnx
   have Fv := aa hnx
   clear hnx XK XJ
   go_wp2_with fail
   go_quiet ((go_at_call 237; exact BX (JA _ _ (by decide) (by decide) _)))
   rw [RP, K_, Rj]
   obtain ⟨X, hX⟩ : ∃ X, SF ye yf yg yh kc wc = X := ⟨_, rfl⟩
   rw [hX]
   have HX := aa hX
   have Aa := aa (aG mZ.out nq)
   obtain ⟨w3, hw3⟩ : ∃ u, wr.drewN nq = u := ⟨_, rfl⟩
   rw [hw3] at Aa ⊢
   clear hX hw3 hk0 hk1 mZ
   go_wp2_with fail
   refine (lM ya 2 2 rfl (by decide) (by decide) _).mono ?_
   rintro e w' ⟨rfl, rfl⟩
   go_wp2_with fail
   refine (lM ya 13 13 rfl (by decide) (by decide) _).mono ?_
   rintro e w' ⟨rfl, rfl⟩
   go_wp2_with fail
   refine (lM ya 22 22 rfl (by decide) (by decide) _).mono ?_
   rintro e w' ⟨rfl, rfl⟩
   obtain ⟨r2, hr2⟩ : ∃ r, iG ya 2 = r := ⟨_, rfl⟩
   obtain ⟨r13, Ug⟩ : ∃ r, iG ya 13 = r := ⟨_, rfl⟩
   obtain ⟨r22, Uf⟩ : ∃ r, iG ya 22 = r := ⟨_, rfl⟩
   rw [hr2, Ug, Uf]
   obtain ⟨Y, hY⟩ : ∃ Y, Wn ya yb yc = Y := ⟨_, rfl⟩
   have HY : Kp ((bits .xor .u32 (bits .xor .u32 r2 r13) r22 + bits .xor .u32 (bits .xor .u32 (bits .and .u32 ya yb) (bits .and .u32 ya yc)) (bits .and .u32 yb yc)) % 4294967296 = Y) := ⟨by rw [← hY, ← hr2, ← Ug, ← Uf]; rfl⟩
   have Ob := aa hY
   have HR2 : Hid (xZ ws ⟨xa, xb, xc, xd, xe, xf, xg, xh⟩ (k + 1) = ⟨(X + Y) % 4294967296, ya, yb, yc, (yd + X) % 4294967296, ye, yf, yg⟩) := aa (by
    rw [Fv.out, LF, HX.out, Ob.out])
   clear hr2 Ug Uf hY Fv
   go_wp2_with fail
   go_roundw
   case rel => exact ⟨k + 1, _, _, _, _, _, _, _, _, by omega, by go_num, rfl, rfl, rfl, rfl, rfl, rfl, rfl, rfl, by rw [HY.out]; exact HR2, Aa⟩
   case measure => simp [intOf]; omega
  ·
   have jF : Kp (xZ (dN blk) ⟨xa, xb, xc, xd, xe, xf, xg, xh⟩ 64 = ⟨ya, yb, yc, yd, ye, yf, yg, yh⟩) := ⟨by
    have h := HR.out
    rwa [show k = 64 by omega, ← Yl.out] at h⟩
   have HB3 : Hid (bH .u32 229 wr w.heap.size (r_ (St.mk xa xb xc xd xe xf xg xh).list (St.mk ya yb yc yd ye yf yg yh).list 0)) := aa (by
    rw [BG rfl]
    exact HB2.out.below mZ.out)
   have HZ3 := aa (HZ2.out.below mZ.out)
   have acN := aa (ag VG.out mZ.out)
   clear HR mZ HB2 HZ2 VG HW2 yw I7 Yl I9
   go_wp2
   go_loopw [109] (fun i u => ∃ m : Nat, m ≤ 8 ∧ i = .int .i64 m ∧ Hid (bH .u32 229 u w.heap.size (r_ (St.mk xa xb xc xd xe xf xg xh).list (St.mk ya yb yc yd ye yf yg yh).list m)) ∧ Hid (bH .u32 229 u (w.heap.size + 1) (dz 8)) ∧ Hid (Below w.heap.size w u)) (fun i _ => 8 - (intOf i).toNat)
   case atStart => exact ⟨0, by omega, rfl, HB3, HZ3, acN⟩
   case round =>
    obtain ⟨m, hm, rfl, uK, ZI, mZ⟩ := hrel
    by_cases hlm : m < 8
    ·
     have hi := WW ya yb yc yd ye yf yg yh m hlm
     have hc := uK.out.cell (j := m) (by rw [r9]; exact hlm)
     have hf := uK.out.free m
     rw [EX hlm] at hc
     obtain ⟨s0, e0⟩ : ∃ x, (St.mk xa xb xc xd xe xf xg xh).list.getD m 0 = x := ⟨_, rfl⟩
     obtain ⟨v0, e1⟩ : ∃ x, (St.mk ya yb yc yd ye yf yg yh).list.getD m 0 = x := ⟨_, rfl⟩
     have hst := EW (s := (St.mk xa xb xc xd xe xf xg xh).list) (v := (St.mk ya yb yc yd ye yf yg yh).list) hlm
     rw [e0, e1, add32, iT] at hst
     rw [e0] at hc
     rw [e1] at hi
     have kL : Hid (bH .u32 229 (wr.setCell ⟨w.heap.size, m, none⟩ (.int .u32 ((s0 + v0) % 4294967296))) w.heap.size (r_ (St.mk xa xb xc xd xe xf xg xh).list (St.mk ya yb yc yd ye yf yg yh).list (m + 1))) := aa (by
      rw [← hst]
      exact uK.out.set)
     have HZ4 : Hid (bH .u32 229 (wr.setCell ⟨w.heap.size, m, none⟩ (.int .u32 ((s0 + v0) % 4294967296))) (w.heap.size + 1) (dz 8)) := aa (ZI.out.set_ne (by omega))
     have jZ : Hid (Below w.heap.size w (wr.setCell ⟨w.heap.size, m, none⟩ (.int .u32 ((s0 + v0) % 4294967296)))) := aa (mZ.out.setCell (Nat.le_refl _) _)
     clear hst e0 e1 uK ZI mZ
     go_wp2
     go_roundw
     case rel => exact ⟨m + 1, by omega, by go_num, kL, HZ4, jZ⟩
     case measure => simp [intOf]; omega
    ·
     obtain ⟨T, hT⟩ : ∃ T, QH ⟨xa, xb, xc, xd, xe, xf, xg, xh⟩ ⟨ya, yb, yc, yd, ye, yf, yg, yh⟩ = T := ⟨_, rfl⟩
     have Kv : Hid (bH .u32 229 wr w.heap.size T.list) := aa (by
      have h := uK.out
      rwa [show m = 8 by omega, EY, hT] at h)
     have HT : Kp (Eh ⟨xa, xb, xc, xd, xe, xf, xg, xh⟩ blk = T) := ⟨by rw [Eh, jF.out, hT]⟩
     have HRR : Hid (bH .u32 229 (wr.setRow (w.heap.size + 1) (arr .u32 T.list)) (w.heap.size + 1) T.list) := aa ZI.out.setRow
     have fM : Hid (Below w.heap.size w (wr.setRow (w.heap.size + 1) (arr .u32 T.list))) := aa (ai mZ.out (Nat.le_succ _))
     clear hT jF uK
     go_wp2_with (first
      | ((with_reducible show wpList _ _ _ (⟨some 120, _, _, _, _, _⟩ :: _) _ _); refine wpList_load_row rfl 229 _ rfl w.heap.size rfl _ _ _ _ Kv.out Tryz.underlying229 rfl (kr T) ?_)
      | ((with_reducible show wpList _ _ _ (⟨none, _, _, _, _, _⟩ :: _) _ _); refine wpList_store_row rfl 229 _ _ rfl (w.heap.size + 1) (arr .u32 T.list) rfl rfl _ _ ZI.out (kr T) rfl (dh _) ?_))
     rw [HT.out]
     exact bodyPost_ret (v := .agg (arr .u32 T.list)) (results_cell_row (p := 4) (ty := 229) rfl _ _ (w.heap.size + 1) _ _ _ _ rfl HRR.out Tryz.underlying229 rfl (kr T)) rfl ⟨rfl, fM.out⟩
end Go.Proofs.YtchcllcbknfikaaGreatDoor
namespace Go.Proofs.YtchcllcbknfikaaGreatDoor
open Go.ChangeShapes Go.WideShapes Go.ChangeAt Go.RowKit si
theorem Nc : Tryz.prog.globalNamed "specie/digest.constants" = some 5 := by kernel_rfl
theorem Gz : (Tryz.prog.globals[5]?).map (·.type) = some 247 := by kernel_rfl
theorem Nb : Tryz.prog.globalNamed "specie/digest.start" = some 4 := by kernel_rfl
theorem Gy : (Tryz.prog.globals[4]?).map (·.type) = some 229 := by kernel_rfl
theorem GZ : Tryz.prog.cellsOf 247 = 64 := by kernel_rfl
theorem GX : Tryz.prog.cellsOf 229 = 8 := by kernel_rfl
theorem EM : Tryz.prog.cellsOf 209 = 1 := by kernel_rfl
theorem Aq {W : World} (h : laidMetH Tryz.prog [("math/bits.deBruijn64tab", Rows.laid_math_bits_deBruijn64tab), ("specie/prime.bases", Rows.laid_specie_prime_bases), ("specie/digest.constants", Rows.laid_specie_digest_constants), ("specie/digest.start", Rows.laid_specie_digest_start)] W) : Vars W ∧ bz W := by
 have h1 : laidMet Tryz.prog [("math/bits.deBruijn64tab", Rows.laid_math_bits_deBruijn64tab), ("specie/prime.bases", Rows.laid_specie_prime_bases), ("specie/digest.constants", Rows.laid_specie_digest_constants), ("specie/digest.start", Rows.laid_specie_digest_start)] W := h
 have t1 : Lib.TabIs Tryz.prog W "math/bits.deBruijn64tab" .u8 (Lib.deBruijn64tab.map Int.ofNat) := Lib.tabIs_of_head (rest := [("specie/prime.bases", Rows.laid_specie_prime_bases), ("specie/digest.constants", Rows.laid_specie_digest_constants), ("specie/digest.start", Rows.laid_specie_digest_start)]) XA Na Tryz.underlying205 Tryz.underlying5 IZ ND h1
 have t2 : Lib.TabIs Tryz.prog W "specie/prime.bases" .u64 [2, 3, 5, 7, 11, 13, 17, 19, 23, 29, 31, 37] := Lib.tabIs_of_head (rest := [("specie/digest.constants", Rows.laid_specie_digest_constants), ("specie/digest.start", Rows.laid_specie_digest_start)]) Nf GA Tryz.underlying172 Tryz.underlying162 NA G5 h1.tail
 have t3 : Lib.TabIs Tryz.prog W "specie/digest.constants" .u32 KL := Lib.tabIs_of_head (rest := [("specie/digest.start", Rows.laid_specie_digest_start)]) Nc Gz Tryz.underlying247 Tryz.underlying209 EM GZ h1.tail.tail
 have t4 : Lib.TabIs Tryz.prog W "specie/digest.start" .u32 st0.list := Lib.tabIs_of_head (rest := []) Nb Gy Tryz.underlying229 Tryz.underlying209 EM GX h1.tail.tail.tail
 refine ⟨⟨fun k hk => ?_, fun j hj => ?_⟩, fun k hk => ?_, fun k hk => ?_⟩
 · rw [t2.cell Nf k hk]; rfl
 ·
  rw [t1.cell XA j (by simpa using hj)]
  rw [List.getD_eq_getElem?_getD, List.getD_eq_getElem?_getD, List.getElem?_map]
  rw [List.getElem?_eq_getElem hj]
  rfl
 · rw [t3.cell Nc k hk]
 · rw [t4.cell Nb k hk]
def Mo : Obj → Obj
 | .cells _ t frozen => .cells (KL.map fun n => Value.int .u32 n).toArray t frozen
 | o => o
def Mm : Obj → Obj
 | .cells _ t frozen => .cells (st0.list.map fun n => Value.int .u32 n).toArray t frozen
 | o => o
noncomputable def uC (os : Os) : World :=
 { World.holding Tryz.prog os ⟨#[], #[], []⟩ with heap := ((((World.holding Tryz.prog os ⟨#[], #[], []⟩).heap.modify 0 Mq).modify 3 TL).modify 5 Mo).modify 4 Mm }
end Go.Proofs.YtchcllcbknfikaaGreatDoor
namespace Go.Proofs.YtchcllcbknfikaaGreatDoor
open Go.RowKit si
theorem Cq (P Q G x : Int) (b : Bool) (hb : Hid (aW P Q x = b)) (h1 : P < 2305843009213693952) (Dq : 0 ≤ Q) (hQ : Q < 9223372036854775808) (w : World) :
  Calls Tryz.prog 268 #[gv P Q G, .int .i64 x] w (Rt w (.bool b)) := by
 by_cases hx : x < 1
 ·
  obtain rfl : b = false := by rw [← hb.out]; simp [aW]; omega
  go_in
  go_wp2
  go_ret
  exact ⟨rfl, af _ _⟩
 ·
  by_cases hx2 : P ≤ x
  ·
   obtain rfl : b = false := by rw [← hb.out]; simp [aW]; omega
   go_in
   go_wp2
   go_ret
   exact ⟨rfl, af _ _⟩
  ·
   have d1 : decide (x < 1) = false := by simp; omega
   have d2 : decide (P ≤ x) = false := by simp; omega
   obtain ⟨y, hy⟩ : ∃ y, pw x Q P = y := ⟨_, rfl⟩
   have g9 : ((y : Int) == 1) = b := by
    rw [← hb.out, ← hy, aW, Bool.eq_iff_iff]
    simp only [beq_iff_eq, decide_eq_true_eq]
    exact ⟨fun h => ⟨by omega, by omega, h⟩, fun h => h.2.2⟩
   have HX := aa hy
   clear hy hb
   go_in
   go_wp2_with fail
   refine (zn x Q P (by omega) h1 (by omega) (by omega) Dq hQ _).mono ?_
   rintro e w' ⟨rfl, n3, rfl⟩
   rw [HX.out]
   go_wp2
   go_ret
   exact ⟨rfl, dU _ _ _⟩
def jV (Q x : Int) : Bool := decide (0 ≤ x) && decide (x < Q)
theorem Lb (P Q G : Int) (a : Nat) (h1 : P < 2305843009213693952) (Dq : 0 ≤ Q) (hQ : Q < 9223372036854775808) (W : World) (hx : Hid (oV W a P Q G)) :
  Says 267 #[.pointer (some ⟨a, 0, none⟩)] (fun x => !aW P Q x) W := fun x w1 hb => by
 show Calls Tryz.prog 267 #[.int .i64 x, .pointer (some ⟨a, 0, none⟩)] w1 fun e w' => e = .returned (.bool (!aW P Q x)) ∧ Below w1.heap.size w1 w'
 obtain ⟨c0, c1, c2⟩ := hx.out.below hb
 obtain ⟨r, hr⟩ : ∃ r, aW P Q x = r := ⟨_, rfl⟩
 have HR := aa hr
 rw [hr]
 clear hr hb
 go_in
 go_wp2_with fail
 refine (Cq P Q G x r HR h1 Dq hQ _).mono ?_
 rintro e w2 ⟨rfl, hb0⟩
 go_wp2
 go_ret
 exact ⟨rfl, hb0⟩
theorem La (P Q G : Int) (a : Nat) (W : World) (hx : Hid (oV W a P Q G)) :
  Says 258 #[.pointer (some ⟨a, 0, none⟩)] (fun x => !jV Q x) W := fun x w1 hb => by
 show Calls Tryz.prog 258 #[.int .i64 x, .pointer (some ⟨a, 0, none⟩)] w1 fun e w' => e = .returned (.bool (!jV Q x)) ∧ Below w1.heap.size w1 w'
 obtain ⟨c0, c1, c2⟩ := hx.out.below hb
 by_cases h0 : x < 0
 ·
  have e : jV Q x = false := by simp [jV]; omega
  rw [e]
  have d0 : decide (x < 0) = true := by simp; omega
  clear hb e
  go_in
  go_wp2
  go_ret
  exact ⟨rfl, Below.refl _ _⟩
 ·
  have d0 : decide (x < 0) = false := by simp; omega
  obtain ⟨t, ht⟩ : ∃ t, decide (Q ≤ x) = t := ⟨_, rfl⟩
  have e : jV Q x = !t := by
   rw [← ht, jV, decide_eq_true (show (0 : Int) ≤ x by omega), Bool.true_and, ← decide_not]
   exact decide_eq_decide.2 (by omega)
  rw [e, Bool.not_not]
  clear hb e
  go_in
  go_wp2
  go_ret
  exact ⟨by first | rfl | rw [ht], Below.refl _ _⟩
theorem xU {f : Int → Bool} {xs : List Int} : (xs.any fun x => !f x) = !(xs.all f) := by
 induction xs with
 | nil => rfl
 | cons x xs ih => rw [List.any_cons, List.all_cons, ih, Bool.not_and]
theorem jK (P Q G : Int) (A : Option Addr) (xs : List Int) (n c : Nat) (r : Bool) (hr : Hid (xs.all (aW P Q) = r)) (hn : Hid (xs.length = n)) (hbig : Hid (n < 1000000)) (h1 : P < 2305843009213693952) (Dq : 0 ≤ Q) (hQ : Q < 9223372036854775808) (w : World) (hs : Hid (Sl w A xs)) :
  Calls Tryz.prog 256 #[gv P Q G, .slice A n c] w (Rt w (.bool r)) := by
 have HX0 := aa (a_ w P Q G)
 have KI := aa (hs.out.below (af w (bq P Q G)))
 have Yq := aa (Lb P Q G w.heap.size h1 Dq hQ _ HX0)
 have HP : Hid ((xs.any fun x => !aW P Q x) = !r) := aa (by rw [xU, hr.out])
 clear hs
 go_in
 go_wp2_with fail
 refine (UO (.pointer (some ⟨w.heap.size, 0, none⟩)) (fun x => !aW P Q x) (!r) A xs n c HP hn hbig _ KI Yq).mono ?_
 rintro e w1 ⟨rfl, hb0⟩
 have hb1 := ag (af _ _) hb0
 clear hb0
 go_wp2
 go_ret
 exact ⟨by simp, hb1⟩
theorem lI (P Q G : Int) (A : Option Addr) (xs : List Int) (n c : Nat) (r : Bool) (hr : Hid (xs.all (jV Q) = r)) (hn : Hid (xs.length = n)) (hbig : Hid (n < 1000000)) (w : World) (hs : Hid (Sl w A xs)) :
  Calls Tryz.prog 240 #[gv P Q G, .slice A n c] w (Rt w (.bool r)) := by
 have HX0 := aa (a_ w P Q G)
 have KI := aa (hs.out.below (af w (bq P Q G)))
 have Yq := aa (La P Q G w.heap.size _ HX0)
 have HP : Hid ((xs.any fun x => !jV Q x) = !r) := aa (by rw [xU, hr.out])
 clear hs
 go_in
 go_wp2_with fail
 refine (UN (.pointer (some ⟨w.heap.size, 0, none⟩)) (fun x => !jV Q x) (!r) A xs n c HP hn hbig _ KI Yq).mono ?_
 rintro e w1 ⟨rfl, hb0⟩
 have hb1 := ag (af _ _) hb0
 clear hb0
 go_wp2
 go_ret
 exact ⟨by simp, hb1⟩
structure Row where
 p : Option Addr
 n : Nat
 c : Nat
 xs : List Int
abbrev Row.val (r : Row) : Value := .slice r.p r.n r.c
abbrev di : Row := ⟨none, 0, 0, []⟩
def zT (w : World) (r : Row) : Prop := r.xs.length = r.n ∧ Sl w r.p r.xs
theorem zT.below {w w' : World} {r : Row} (h : zT w r) (hb : Below w.heap.size w w') : zT w' r := ⟨h.1, h.2.below hb⟩
def Rw (w : World) (A : Option Addr) (rs : List Row) : Prop := ∀ k, k < rs.length → (∃ b o, A = some ⟨b, o, none⟩ ∧ w.cell? ⟨b, o + k, none⟩ = some (rs.getD k di).val) ∧ zT w (rs.getD k di)
theorem Rw.below {w w' : World} {A : Option Addr} {rs : List Row} (h : Rw w A rs) (hb : Below w.heap.size w w') : Rw w' A rs := fun k hk => by
 obtain ⟨⟨b, o, h1, h2⟩, h3⟩ := h k hk
 exact ⟨⟨b, o, h1, (hb.cell (World.block_lt_of_cell? _ _ h2)).trans h2⟩, h3.below hb⟩
def N8 (g : FuncId) (caps : Array Value) (p : Row → Bool) (W : World) : Prop :=
 ∀ (r : Row) (w1 : World), Below W.heap.size W w1 → zT w1 r → Calls Tryz.prog g (#[r.val] ++ caps) w1 fun e w' => e = .returned (.bool (p r)) ∧ Below w1.heap.size w1 w'
theorem Ke {f : Row → Bool} {xs : List Row} {k : Nat} (hk : k < xs.length) (h : f (xs.getD k di) = false) : (xs.drop k).any f = (xs.drop (k + 1)).any f := by
 rw [List.drop_eq_getElem_cons hk, List.any_cons]
 rw [List.getD_eq_getElem?_getD, List.getElem?_eq_getElem hk] at h
 simp at h
 rw [h, Bool.false_or]
theorem NV {f : Row → Bool} {xs : List Row} {k : Nat} (hk : k < xs.length) (h : f (xs.getD k di) = true) : (xs.drop k).any f = true := by
 rw [List.drop_eq_getElem_cons hk, List.any_cons]
 rw [List.getD_eq_getElem?_getD, List.getElem?_eq_getElem hk] at h
 simp at h
 rw [h, Bool.true_or]
def QJ (p : Row → Bool) (xs : List Row) (w : World) (e : Ending) (w' : World) : Prop := ∃ i : Int, e = .returned (.int .i64 i) ∧ decide (0 ≤ i) = xs.any p ∧ Below w.heap.size w w'
theorem PY (c0 : Value) (c1 : Value) (p : Row → Bool) (A : Option Addr) (xs : List Row) (n c : Nat) (hn : Hid (xs.length = n)) (hbig : Hid (n < 1000000)) (w : World) (hs : Hid (Rw w A xs)) (hp : Hid (N8 257 #[c0, c1] p w)) :
  Calls Tryz.prog 187 #[.slice A n c, .func (.func 257) #[] #[c0, c1]] w (QJ p xs w) := by
 have hn0 : n < 1000000 := hbig.out
 go_in
 go_wp2
 go_loopw [8] (fun i wr => ∃ k : Nat, k ≤ n ∧ i = .int .i64 k ∧ Hid (xs.any p = (xs.drop k).any p) ∧ Hid (Below w.heap.size w wr)) (fun i _ => n - (intOf i).toNat)
 case atStart => exact ⟨0, by omega, rfl, aa rfl, aa (Below.refl _ _)⟩
 case round =>
  obtain ⟨k, hk, rfl, HR, aF⟩ := hrel
  by_cases hlt : k < n
  ·
   have hkl : k < xs.length := by rw [hn.out]; exact hlt
   obtain ⟨⟨b, o, hA, hi⟩, hok⟩ := hs.out.below aF.out k hkl
   subst hA
   cases hpx : p (xs.getD k di) with
   | false =>
    have HN : Hid (xs.any p = (xs.drop (k + 1)).any p) := aa (HR.out.trans (Ke hkl hpx))
    obtain ⟨x, hx⟩ : ∃ x, xs.getD k di = x := ⟨_, rfl⟩
    rw [hx] at hi hpx hok
    have HC := aa (hp.out x wr aF.out hok)
    have C9 := aa hpx
    obtain ⟨xp, xn, xc, xl⟩ := x
    dsimp only [Row.val] at hi
    clear hx hkl hpx HR hok
    go_wp2_with fail
    refine HC.out.mono ?_
    rintro e w2 ⟨rfl, hb0⟩
    rw [C9.out]
    have HB2 := aa (ag aF.out hb0)
    clear hb0
    go_wp2
    go_roundw
    case rel => exact ⟨k + 1, by omega, by go_num, HN, HB2⟩
    case measure => simp [intOf]; omega
   | true =>
    have HN : Hid (decide ((0 : Int) ≤ (k : Int)) = xs.any p) := aa (by rw [HR.out, NV hkl hpx]; simp)
    obtain ⟨x, hx⟩ : ∃ x, xs.getD k di = x := ⟨_, rfl⟩
    rw [hx] at hi hpx hok
    have HC := aa (hp.out x wr aF.out hok)
    have C9 := aa hpx
    obtain ⟨xp, xn, xc, xl⟩ := x
    dsimp only [Row.val] at hi
    clear hx hkl hpx HR hok
    go_wp2_with fail
    refine HC.out.mono ?_
    rintro e w2 ⟨rfl, hb0⟩
    rw [C9.out]
    have HB2 := aa (ag aF.out hb0)
    clear hb0
    go_wp2
    go_ret
    exact ⟨k, rfl, HN.out, HB2.out⟩
  ·
   obtain rfl : k = n := by omega
   have HN : Hid (decide ((0 : Int) ≤ (-1 : Int)) = xs.any p) := aa (by rw [HR.out, ← hn.out]; simp)
   clear HR hlt
   go_wp2
   go_ret
   exact ⟨-1, rfl, HN.out, aF.out⟩
theorem UM (c0 : Value) (c1 : Value) (p : Row → Bool) (r : Bool) (A : Option Addr) (xs : List Row) (n c : Nat) (hr : Hid (xs.any p = r)) (hn : Hid (xs.length = n)) (hbig : Hid (n < 1000000)) (w : World) (hs : Hid (Rw w A xs)) (hp : Hid (N8 257 #[c0, c1] p w)) :
  Calls Tryz.prog 154 #[.slice A n c, .func (.func 257) #[] #[c0, c1]] w (Rt w (.bool r)) := by
 go_in
 go_wp2_with fail
 refine (PY c0 c1 p A xs n c hn hbig _ hs hp).mono ?_
 rintro e w1 ⟨i, rfl, hi, hb1⟩
 have hd : decide ((0 : Int) ≤ i) = r := hi.trans hr.out
 clear hi
 go_wp2
 go_ret
 exact ⟨by first | rfl | (rw [← hd]) | simp [hd], hb1⟩
abbrev ig (Y : Option Addr) (yn yc : Nat) (B : Option Addr) (bn bc : Nat) : Value := .agg #[.slice Y yn yc, .slice B bn bc]
abbrev jI (Y : Option Addr) (yn yc : Nat) (B : Option Addr) (bn bc : Nat) : Obj := .cells #[.slice Y yn yc, .slice B bn bc] 189
def qD (w : World) (a : Nat) (u v : Value) : Prop := w.cell? ⟨a, 0, none⟩ = some u ∧ w.cell? ⟨a, 1, none⟩ = some v
theorem qD.below {w w' : World} {a : Nat} {u v : Value} (h : qD w a u v) (hb : Below w.heap.size w w') : qD w' a u v :=
 ⟨(hb.cell (World.block_lt_of_cell? _ _ h.1)).trans h.1, (hb.cell (World.block_lt_of_cell? _ _ h.2)).trans h.2⟩
theorem D9 (w : World) (T : TypeId) (u v : Value) : qD (w.alloc (.cells #[u, v] T)) w.heap.size u v := ⟨World.cell?_alloc_at _ _ _ _ rfl, World.cell?_alloc_at _ _ _ _ rfl⟩
theorem dR (w : World) (o : Obj) (T : TypeId) (u v : Value) : qD ((w.alloc o).alloc (.cells #[u, v] T)) (w.heap.size + 1) u v := by
 have e : (w.alloc o).heap.size = w.heap.size + 1 := by simp
 rw [← e]
 exact D9 _ _ _ _
theorem Rw.at {w : World} {b o : Nat} {rs : List Row} (h : Rw w (some ⟨b, o, none⟩) rs) {k : Nat} (hk : k < rs.length) : w.cell? ⟨b, o + k, none⟩ = some (rs.getD k di).val := by
 obtain ⟨⟨b', o', h1, h2⟩, _⟩ := h k hk
 cases h1
 exact h2
theorem Rw.head {w : World} {b o : Nat} {rs : List Row} {p : Option Addr} {n c : Nat} {xs : List Int} (h : Rw w (some ⟨b, o, none⟩) rs) (hk : 0 < rs.length) (e : rs.getD 0 di = ⟨p, n, c, xs⟩) : w.cell? ⟨b, o, none⟩ = some (.slice p n c) := by
 have h2 := h.at hk
 rw [e, Nat.add_zero] at h2
 exact h2
theorem Rw.some {w : World} {B : Option Addr} {rs : List Row} (h : Rw w B rs) (hk : 0 < rs.length) : ∃ b o, B = some ⟨b, o, none⟩ := by
 obtain ⟨⟨b, o, h1, _⟩, _⟩ := h 0 hk
 exact ⟨b, o, h1⟩
def nA (P Q : Int) (n : Nat) (r : Row) : Bool := decide (r.n = n) && r.xs.all (aW P Q)
def gD (rows : List Row) : Nat := (rows.getD 0 di).n
def eZ (P Q G : Int) (ys : List Int) (rows : List Row) : Bool :=
 bg P Q G && (decide (1 ≤ ys.length) && (decide (ys.length ≤ 8) && (decide (rows.length = ys.length) && (ys.all (aW P Q) && (decide (1 ≤ gD rows) && (decide (gD rows ≤ 12) && rows.all (nA P Q (gD rows))))))))
theorem kQ (Y : Option Addr) (yn yc : Nat) (B : Option Addr) (rows : List Row) (bn bc n : Nat) (hbn : Hid (rows.length = bn)) (hpos : 0 < bn) (hn : Hid (gD rows = n)) (w : World) (hB : Hid (Rw w B rows)) :
  Calls Tryz.prog 239 #[ig Y yn yc B bn bc] w (Rt w (.int .i64 n)) := by
 obtain ⟨b, o, rfl⟩ := hB.out.some (by rw [hbn.out]; exact hpos)
 obtain ⟨R, hR⟩ : ∃ R, rows.getD 0 di = R := ⟨_, rfl⟩
 obtain ⟨p, n0, k, xs⟩ := R
 obtain rfl : n0 = n := by rw [← hn.out, gD, hR]
 have hc := (hB.out.below (af w (jI Y yn yc (some ⟨b, o, none⟩) bn bc))).head (by rw [hbn.out]; exact hpos) hR
 clear hR hB hn
 go_in
 go_wp2
 go_ret
 exact ⟨rfl, af _ _⟩
theorem gq (Y : Option Addr) (yn yc : Nat) (B : Option Addr) (rows : List Row) (bn bc n : Nat) (hbn : Hid (rows.length = bn)) (hpos : 0 < bn) (hn : Hid (gD rows = n)) (w : World) (hB : Hid (Rw w B rows)) :
  Calls Tryz.prog 226 #[ig Y yn yc B bn bc] w (Rt w (.int .i64 n)) := by
 obtain ⟨b, o, rfl⟩ := hB.out.some (by rw [hbn.out]; exact hpos)
 obtain ⟨R, hR⟩ : ∃ R, rows.getD 0 di = R := ⟨_, rfl⟩
 obtain ⟨p, n0, k, xs⟩ := R
 obtain rfl : n0 = n := by rw [← hn.out, gD, hR]
 have hc := (hB.out.below (af w (jI Y yn yc (some ⟨b, o, none⟩) bn bc))).head (by rw [hbn.out]; exact hpos) hR
 clear hR hB hn
 go_in
 go_wp2
 go_ret
 exact ⟨rfl, af _ _⟩
theorem O_ (P Q G : Int) (n a g : Nat) (h1 : P < 2305843009213693952) (Dq : 0 ≤ Q) (hQ : Q < 9223372036854775808) (aeW : n ≤ 12) (W : World) (hn : Hid (W.cell? ⟨a, 0, none⟩ = some (.int .i64 n))) (hx : Hid (oV W g P Q G)) :
  N8 257 #[.pointer (some ⟨a, 0, none⟩), .pointer (some ⟨g, 0, none⟩)] (fun r => !nA P Q n r) W := fun r w1 hb hok => by
 obtain ⟨p, m, c, xs⟩ := r
 show Calls Tryz.prog 257 #[.slice p m c, .pointer (some ⟨a, 0, none⟩), .pointer (some ⟨g, 0, none⟩)] w1 fun e w' => e = .returned (.bool (!nA P Q n ⟨p, m, c, xs⟩)) ∧ Below w1.heap.size w1 w'
 obtain ⟨c0, c1, c2⟩ := hx.out.below hb
 have ca := cell_below hn.out hb
 have hl : xs.length = m := hok.1
 have HS : Hid (Sl w1 p xs) := aa hok.2
 by_cases hm : m = n
 ·
  subst hm
  obtain ⟨r, hr⟩ : ∃ r, xs.all (aW P Q) = r := ⟨_, rfl⟩
  have e : nA P Q m ⟨p, m, c, xs⟩ = r := by simp [nA, hr]
  rw [e]
  have HR := aa hr
  have HL := aa hl
  clear hr hb hok e hl
  go_in
  go_wp2_with fail
  refine (jK P Q G p xs m c r HR HL (aa (by omega)) h1 Dq hQ _ HS).mono ?_
  rintro e w2 ⟨rfl, hb0⟩
  go_wp2
  go_ret
  exact ⟨rfl, hb0⟩
 ·
  have e : nA P Q n ⟨p, m, c, xs⟩ = false := by simp [nA, hm]
  rw [e]
  have hne : ((m : Int) != (n : Int)) = true := by simp; omega
  clear hb hok e hl
  go_in
  go_wp2
  go_ret
  exact ⟨rfl, Below.refl _ _⟩
theorem CW {f : Row → Bool} {xs : List Row} : (xs.any fun x => !f x) = !(xs.all f) := by
 induction xs with
 | nil => rfl
 | cons x xs ih => rw [List.any_cons, List.all_cons, ih, Bool.not_and]
theorem ko (P Q G : Int) (Y : Option Addr) (ys : List Int) (yn yc : Nat) (B : Option Addr) (rows : List Row) (bn bc : Nat) (r : Bool) (hr : Hid (eZ P Q G ys rows = r)) (hyn : Hid (ys.length = yn)) (hbn : Hid (rows.length = bn)) (hQ : Q < 9223372036854775808) (w : World) (hv : Hid (Vars w)) (hY : Hid (Sl w Y ys)) (hB : Hid (Rw w B rows)) :
  Calls Tryz.prog 238 #[gv P Q G, ig Y yn yc B bn bc] w (Rt w (.bool r)) := by
 obtain ⟨w0, hW⟩ : ∃ W, (w.alloc (bq P Q G)).alloc (jI Y yn yc B bn bc) = W := ⟨_, rfl⟩
 have aj : Hid (Below w.heap.size w w0) := aa (by rw [← hW]; exact aJ (Below.refl _ _))
 have HX0 : Hid (oV w0 w.heap.size P Q G) := aa (by rw [← hW]; exact (a_ w P Q G).below (af _ _))
 have eG : Hid (qD w0 (w.heap.size + 1) (.slice Y yn yc) (.slice B bn bc)) := aa (by rw [← hW]; exact dR _ _ _ _ _)
 have yt : Hid (Sl w0 Y ys) := aa (hY.out.below aj.out)
 have pO : Hid (Rw w0 B rows) := aa (hB.out.below aj.out)
 have pQ : Hid (Vars w0) := aa (hv.out.below aj.out)
 have HW := aa hW
 clear hW hY hv
 have hr' := hr.out
 rw [eZ, hyn.out, hbn.out] at hr'
 cases hval : bg P Q G with
 | false =>
  obtain rfl : r = false := by rw [← hr', hval, Bool.false_and]
  have lq := aa hval
  clear hr hr' hval hB
  go_in
  go_wp2_with fail
  rw [HW.out]
  go_wp2_with fail
  refine (dD P Q G false lq hQ _ pQ).mono ?_
  rintro e w1 ⟨rfl, hb0⟩
  have hb1 := ag (aj.out) hb0
  have qF := aa (pQ.out.below hb0)
  have ru := aa (HX0.out.below hb0)
  have HR1 := aa (eG.out.below hb0)
  have yo := aa (yt.out.below hb0)
  have oQ := aa (pO.out.below hb0)
  clear hb0
  obtain ⟨c0, c1, c2⟩ := ru.out
  obtain ⟨d0, d1⟩ := HR1.out
  go_wp2
  go_ret
  exact ⟨rfl, hb1⟩
 | true =>
  obtain ⟨hp2, hp, hq3, Cv⟩ := b_ hval
  have lq := aa hval
  rw [hval, Bool.true_and] at hr'
  clear hval
  by_cases h1 : yn < 1
  ·
   obtain rfl : r = false := by rw [← hr', decide_eq_false (show ¬ 1 ≤ yn by omega)]; rfl
   have abo : decide ((yn : Int) < 1) = true := by simp; omega
   clear hr hr' hB
   go_in
   go_wp2_with fail
   rw [HW.out]
   go_wp2_with fail
   refine (dD P Q G true lq hQ _ pQ).mono ?_
   rintro e w1 ⟨rfl, hb0⟩
   have hb1 := ag (aj.out) hb0
   have qF := aa (pQ.out.below hb0)
   have ru := aa (HX0.out.below hb0)
   have HR1 := aa (eG.out.below hb0)
   have yo := aa (yt.out.below hb0)
   have oQ := aa (pO.out.below hb0)
   clear hb0
   obtain ⟨c0, c1, c2⟩ := ru.out
   obtain ⟨d0, d1⟩ := HR1.out
   go_wp2
   go_ret
   exact ⟨rfl, hb1⟩
  ·
   rw [decide_eq_true (show 1 ≤ yn by omega), Bool.true_and] at hr'
   have abo : decide ((yn : Int) < 1) = false := by simp; omega
   by_cases h2 : 8 < yn
   ·
    obtain rfl : r = false := by rw [← hr', decide_eq_false (show ¬ yn ≤ 8 by omega)]; rfl
    have abn : decide ((8 : Int) < (yn : Int)) = true := by simp; omega
    clear hr hr' hB
    go_in
    go_wp2_with fail
    rw [HW.out]
    go_wp2_with fail
    refine (dD P Q G true lq hQ _ pQ).mono ?_
    rintro e w1 ⟨rfl, hb0⟩
    have hb1 := ag (aj.out) hb0
    have qF := aa (pQ.out.below hb0)
    have ru := aa (HX0.out.below hb0)
    have HR1 := aa (eG.out.below hb0)
    have yo := aa (yt.out.below hb0)
    have oQ := aa (pO.out.below hb0)
    clear hb0
    obtain ⟨c0, c1, c2⟩ := ru.out
    obtain ⟨d0, d1⟩ := HR1.out
    go_wp2
    go_ret
    exact ⟨rfl, hb1⟩
   ·
    rw [decide_eq_true (show yn ≤ 8 by omega), Bool.true_and] at hr'
    have abn : decide ((8 : Int) < (yn : Int)) = false := by simp; omega
    by_cases h3 : ¬ bn = yn
    ·
     obtain rfl : r = false := by rw [← hr', decide_eq_false h3]; rfl
     have XR : ((bn : Int) != (yn : Int)) = true := by simp; omega
     clear hr hr' hB
     go_in
     go_wp2_with fail
     rw [HW.out]
     go_wp2_with fail
     refine (dD P Q G true lq hQ _ pQ).mono ?_
     rintro e w1 ⟨rfl, hb0⟩
     have hb1 := ag (aj.out) hb0
     have qF := aa (pQ.out.below hb0)
     have ru := aa (HX0.out.below hb0)
     have HR1 := aa (eG.out.below hb0)
     have yo := aa (yt.out.below hb0)
     have oQ := aa (pO.out.below hb0)
     clear hb0
     obtain ⟨c0, c1, c2⟩ := ru.out
     obtain ⟨d0, d1⟩ := HR1.out
     go_wp2
     go_ret
     exact ⟨rfl, hb1⟩
    ·
     rw [decide_eq_true (show bn = yn by omega), Bool.true_and] at hr'
     have XR : ((bn : Int) != (yn : Int)) = false := by simp; omega
     obtain rfl : bn = yn := by omega
     clear XR h3
     cases h4 : ys.all (aW P Q) with
     | false =>
      obtain rfl : r = false := by rw [← hr', h4]; rfl
      have HE := aa h4
      clear hr hr' hB h4
      go_in
      go_wp2_with fail
      rw [HW.out]
      go_wp2_with fail
      refine (dD P Q G true lq hQ _ pQ).mono ?_
      rintro e w1 ⟨rfl, hb0⟩
      have hb1 := ag (aj.out) hb0
      have qF := aa (pQ.out.below hb0)
      have ru := aa (HX0.out.below hb0)
      have HR1 := aa (eG.out.below hb0)
      have yo := aa (yt.out.below hb0)
      have oQ := aa (pO.out.below hb0)
      clear hb0
      obtain ⟨c0, c1, c2⟩ := ru.out
      obtain ⟨d0, d1⟩ := HR1.out
      go_wp2_with fail
      refine (jK P Q G Y ys bn yc false HE hyn (aa (by omega)) hp (by omega) hQ _ yo).mono ?_
      rintro e w2 ⟨rfl, hb0⟩
      have hb2 := ag hb1 hb0
      have yw := aa (qF.out.below hb0)
      have Aj := aa (ru.out.below hb0)
      have HR2 := aa (HR1.out.below hb0)
      have Ob := aa (yo.out.below hb0)
      have CZ := aa (oQ.out.below hb0)
      clear c0 c1 c2 d0 d1 hb0
      obtain ⟨c0, c1, c2⟩ := Aj.out
      obtain ⟨d0, d1⟩ := HR2.out
      go_wp2
      go_ret
      exact ⟨rfl, hb2⟩
     | true =>
      have HE := aa h4
      rw [h4, Bool.true_and] at hr'
      obtain ⟨b0, o0, rfl⟩ := hB.out.some (by rw [hbn.out]; omega)
      obtain ⟨R, hR⟩ : ∃ R, rows.getD 0 di = R := ⟨_, rfl⟩
      obtain ⟨p0, n0, k0, x0⟩ := R
      have hN : gD rows = n0 := by rw [gD, hR]
      rw [hN] at hr'
      have hpos : 0 < rows.length := by rw [hbn.out]; omega
      have adp : 0 < bn := by omega
      have HR_ := aa hR
      clear hR h4 hB hN
      by_cases h5 : n0 < 1
      ·
       obtain rfl : r = false := by rw [← hr', decide_eq_false (show ¬ 1 ≤ n0 by omega)]; rfl
       have d5 : decide ((n0 : Int) < 1) = true := by simp; omega
       clear hr hr'
       go_in
       go_wp2_with fail
       rw [HW.out]
       go_wp2_with fail
       refine (dD P Q G true lq hQ _ pQ).mono ?_
       rintro e w1 ⟨rfl, hb0⟩
       have hb1 := ag (aj.out) hb0
       have qF := aa (pQ.out.below hb0)
       have ru := aa (HX0.out.below hb0)
       have HR1 := aa (eG.out.below hb0)
       have yo := aa (yt.out.below hb0)
       have oQ := aa (pO.out.below hb0)
       clear hb0
       obtain ⟨c0, c1, c2⟩ := ru.out
       obtain ⟨d0, d1⟩ := HR1.out
       go_wp2_with fail
       refine (jK P Q G Y ys bn yc true HE hyn (aa (by omega)) hp (by omega) hQ _ yo).mono ?_
       rintro e w2 ⟨rfl, hb0⟩
       have hb2 := ag hb1 hb0
       have yw := aa (qF.out.below hb0)
       have Aj := aa (ru.out.below hb0)
       have HR2 := aa (HR1.out.below hb0)
       have Ob := aa (yo.out.below hb0)
       have CZ := aa (oQ.out.below hb0)
       clear c0 c1 c2 d0 d1 hb0
       obtain ⟨c0, c1, c2⟩ := Aj.out
       obtain ⟨d0, d1⟩ := HR2.out
       have hc0 := CZ.out.head hpos HR_.out
       have hq : Below w2.heap.size w2 (w2.alloc (.cells #[.int .i64 n0] 3)) := af _ _
       have bV := ag hb2 hq
       clear hq
       go_wp2
       go_ret
       exact ⟨rfl, bV⟩
      ·
       rw [decide_eq_true (show 1 ≤ n0 by omega), Bool.true_and] at hr'
       have d5 : decide ((n0 : Int) < 1) = false := by simp; omega
       by_cases h6 : 12 < n0
       ·
        obtain rfl : r = false := by rw [← hr', decide_eq_false (show ¬ n0 ≤ 12 by omega)]; rfl
        have d6 : decide ((12 : Int) < (n0 : Int)) = true := by simp; omega
        clear hr hr'
        go_in
        go_wp2_with fail
        rw [HW.out]
        go_wp2_with fail
        refine (dD P Q G true lq hQ _ pQ).mono ?_
        rintro e w1 ⟨rfl, hb0⟩
        have hb1 := ag (aj.out) hb0
        have qF := aa (pQ.out.below hb0)
        have ru := aa (HX0.out.below hb0)
        have HR1 := aa (eG.out.below hb0)
        have yo := aa (yt.out.below hb0)
        have oQ := aa (pO.out.below hb0)
        clear hb0
        obtain ⟨c0, c1, c2⟩ := ru.out
        obtain ⟨d0, d1⟩ := HR1.out
        go_wp2_with fail
        refine (jK P Q G Y ys bn yc true HE hyn (aa (by omega)) hp (by omega) hQ _ yo).mono ?_
        rintro e w2 ⟨rfl, hb0⟩
        have hb2 := ag hb1 hb0
        have yw := aa (qF.out.below hb0)
        have Aj := aa (ru.out.below hb0)
        have HR2 := aa (HR1.out.below hb0)
        have Ob := aa (yo.out.below hb0)
        have CZ := aa (oQ.out.below hb0)
        clear c0 c1 c2 d0 d1 hb0
        obtain ⟨c0, c1, c2⟩ := Aj.out
        obtain ⟨d0, d1⟩ := HR2.out
        have hc0 := CZ.out.head hpos HR_.out
        have hq : Below w2.heap.size w2 (w2.alloc (.cells #[.int .i64 n0] 3)) := af _ _
        have bV := ag hb2 hq
        clear hq
        go_wp2
        go_ret
        exact ⟨rfl, bV⟩
       ·
        rw [decide_eq_true (show n0 ≤ 12 by omega), Bool.true_and] at hr'
        have d6 : decide ((12 : Int) < (n0 : Int)) = false := by simp; omega
        have HP : Hid ((rows.any fun x => !nA P Q n0 x) = !r) := aa (by rw [CW, hr'])
        clear hr hr'
        go_in
        go_wp2_with fail
        rw [HW.out]
        go_wp2_with fail
        refine (dD P Q G true lq hQ _ pQ).mono ?_
        rintro e w1 ⟨rfl, hb0⟩
        have hb1 := ag (aj.out) hb0
        have qF := aa (pQ.out.below hb0)
        have ru := aa (HX0.out.below hb0)
        have HR1 := aa (eG.out.below hb0)
        have yo := aa (yt.out.below hb0)
        have oQ := aa (pO.out.below hb0)
        clear hb0
        obtain ⟨c0, c1, c2⟩ := ru.out
        obtain ⟨d0, d1⟩ := HR1.out
        go_wp2_with fail
        refine (jK P Q G Y ys bn yc true HE hyn (aa (by omega)) hp (by omega) hQ _ yo).mono ?_
        rintro e w2 ⟨rfl, hb0⟩
        have hb2 := ag hb1 hb0
        have yw := aa (qF.out.below hb0)
        have Aj := aa (ru.out.below hb0)
        have HR2 := aa (HR1.out.below hb0)
        have Ob := aa (yo.out.below hb0)
        have CZ := aa (oQ.out.below hb0)
        clear c0 c1 c2 d0 d1 hb0
        obtain ⟨c0, c1, c2⟩ := Aj.out
        obtain ⟨d0, d1⟩ := HR2.out
        have hc0 := CZ.out.head hpos HR_.out
        have hq : Below w2.heap.size w2 (w2.alloc (.cells #[.int .i64 n0] 3)) := af _ _
        have hcn : (w2.alloc (.cells #[.int .i64 n0] 3)).cell? ⟨w2.heap.size, 0, none⟩ = some (.int .i64 n0) := World.cell?_alloc_at _ _ _ _ rfl
        have HXn := aa (Aj.out.below hq)
        have HWn := aa (CZ.out.below hq)
        have aaT := ag hb2 hq
        have hRn := HR2.out.below hq
        obtain ⟨d2, d3⟩ := hRn
        have Yq := aa (O_ P Q G n0 w2.heap.size w.heap.size hp (by omega) hQ (by omega) _ (aa hcn) HXn)
        have ZZ := aa (UM (.pointer (some ⟨w2.heap.size, 0, none⟩)) (.pointer (some ⟨w.heap.size, 0, none⟩)) (fun x => !nA P Q n0 x) (!r) (some ⟨b0, o0, none⟩) rows bn bc HP hbn (aa (by omega)) _ HWn Yq)
        clear hq
        go_wp2_with fail
        refine ZZ.out.mono ?_
        rintro e w9 ⟨rfl, hb0⟩
        have bV := ag aaT hb0
        clear hb0
        go_wp2
        go_ret
        exact ⟨by simp, bV⟩
end Go.Proofs.YtchcllcbknfikaaGreatDoor
namespace Go.Proofs.YtchcllcbknfikaaGreatDoor
open Go.ChangeShapes Go.WideShapes Go.ChangeAt Go.RowKit si
section
variable {H : Type} {enc : TypeId × Value → H} {w : World} {base : Nat} {held : Bool}
end
section
variable {H : Type} {enc : TypeId × Value → H} {w : World} {base : Nat} {held : Bool}
theorem EN : Tryz.prog.cellsOf 24 = 1 := by kernel_rfl
theorem open_row {n : Nat} {cs : List Value} {x : DataW H × List MemPlace} (h : DataW.trod enc Tryz.prog w base (fun _ => true) held n 24 cs = some x) :
  ∃ R : Row, cs = [R.val] ∧ zT w R := by
 rcases open_ints Tryz.underlying24 Tryz.underlying3 lU h with ⟨rfl, _⟩ | ⟨a, len, cap, zs, rfl, _, hlc, _, hz, _, hcell, _⟩
 · exact ⟨di, rfl, rfl, fun k hk => absurd hk (by simp)⟩
 ·
  simp at hz
  refine ⟨⟨some a, len, cap, zs.take len⟩, rfl, by show (zs.take len).length = len; rw [List.length_take]; omega, fun k hk => ?_⟩
  dsimp only at hk ⊢
  rw [List.length_take] at hk
  obtain ⟨b, off, rfl, hc⟩ := ints_at hcell (by omega)
  refine ⟨b, off, rfl, ?_⟩
  rw [hc k (by omega), List.getD_eq_getElem?_getD, List.getD_eq_getElem?_getD, List.getElem?_take_of_lt (by omega)]
end
theorem zP : Tryz.prog.cellsOf 54 = 3 := by kernel_rfl
section
variable {H : Type} {enc : TypeId × Value → H} {w : World} {base : Nat} {held : Bool}
end
theorem NJ : Tryz.prog.cellsOf 99 = 5 := by kernel_rfl
section
variable {H : Type} {enc : TypeId × Value → H} {w : World} {base : Nat} {held : Bool}
end
end Go.Proofs.YtchcllcbknfikaaGreatDoor
namespace Go.Proofs.YtchcllcbknfikaaGreatDoor
open Go
section
variable {P : Program} {ops : Array Oper} {Q : Exit → Act → World → Prop} {md : Region.Mode} {S : World → Prop} {E : List Nat}
def lX (P : Program) (md : Region.Mode) (ops : Array Oper) (Q : Exit → Act → World → Prop) (S : World → Prop) (E : List Nat) : Nat → Array Bool → Act → World → Prop
 | 0, listed, a, w => Region.ready md ops listed = [] ∧ Q .normal a w
 | fuel + 1, listed, a, w =>
  (Region.ready md ops listed = [] → Q .normal a w) ∧
  ∀ i ∈ Region.ready md ops listed, wpOp P ops Q i (fun a' w' => (i ∉ E → S w') ∧ lX P md ops Q S E fuel (listed.setIfInBounds i true) a' w') a w
theorem yT : ∀ (fuel : Nat) (listed : Array Bool) (a : Act) (w : World), lX P md ops Q S E fuel listed a w → wpAny P md ops Q fuel listed a w
 | 0, _, _, _, h => h
 | fuel + 1, _, _, _, h => ⟨h.1, fun i hi => wpOp_mono (fun a' w' h' => yT fuel _ a' w' h'.2) (h.2 i hi)⟩
def zM (md : Region.Mode) (ops : Array Oper) (i : Nat) : List Nat :=
 (List.range ops.size).foldl (fun C x => if ((ops[x]?).map (·.after.any fun e => Region.binds md e && (e.on == i || C.contains e.on))).getD false then x :: C else C) []
def tN (md : Region.Mode) (ops : Array Oper) (listed : Array Bool) (i : Nat) (E : List Nat) : Bool :=
 (E.all fun s => (zM md ops i).contains s) && (zM md ops i).all fun x => !listed.getD x true && ((ops[x]?).map (·.after.any fun e => Region.binds md e && (e.on == i || (zM md ops i).contains e.on))).getD false
def Late (md : Region.Mode) (ops : Array Oper) (C : List Nat) (listed : Array Bool) (i : Nat) : Prop :=
 ∀ x ∈ C, listed.getD x true = false ∧ ∃ o, ops[x]? = some o ∧ ∃ e ∈ o.after, Region.binds md e = true ∧ (e.on = i ∨ e.on ∈ C)
theorem zD {listed : Array Bool} {i : Nat} (h : tN md ops listed i E = true) : (∀ s ∈ E, s ∈ zM md ops i) ∧ Late md ops (zM md ops i) listed i := by
 unfold tN at h
 rw [Bool.and_eq_true] at h
 refine ⟨fun s hs => by simpa using List.all_eq_true.1 h.1 s hs, fun x hx => ?_⟩
 have h2 := List.all_eq_true.1 h.2 x hx
 rw [Bool.and_eq_true] at h2
 refine ⟨by simpa using h2.1, ?_⟩
 have h3 := h2.2
 cases ho : ops[x]? with
 | none => rw [ho] at h3; simp at h3
 | some o =>
  rw [ho] at h3
  simp only [Option.map_some, Option.getD_some] at h3
  obtain ⟨e, he, hb⟩ := Array.any_eq_true'.1 h3
  simp only [Bool.and_eq_true, Bool.or_eq_true, beq_iff_eq] at hb
  exact ⟨o, rfl, e, he, hb.1, hb.2.imp id (by simp)⟩
theorem Late.not_ready {C : List Nat} {listed : Array Bool} {i j : Nat} (h : Late md ops C listed i) (hi : listed.getD i true = false) (hj : j ∈ Region.ready md ops listed) : j ∉ C := fun hc => by
 obtain ⟨_, o, ho, e, he, hb, h4⟩ := h j hc
 obtain ⟨_, o', ho', hall⟩ := mem_ready.1 hj
 rw [ho] at ho'
 cases ho'
 have h5 := hall e he hb
 have h6 : listed.getD e.on true = false := by
  rcases h4 with h4 | h4
  · rw [h4]; exact hi
  · exact (h _ h4).1
 rcases Nat.lt_or_ge e.on listed.size with h' | h'
 · simp [h'] at h5 h6; rw [h6] at h5; cases h5
 · simp [Array.getElem?_eq_none h'] at h5
theorem Late.step {C : List Nat} {listed : Array Bool} {i j : Nat} (h : Late md ops C listed i) (hj : j ∉ C) : Late md ops C (listed.setIfInBounds j true) i := fun x hx => by
 obtain ⟨h1, h2⟩ := h x hx
 have hne : j ≠ x := fun e => hj (by rw [e]; exact hx)
 exact ⟨by rw [getD_set_ne true hne]; exact h1, h2⟩
theorem Jl {i : Nat} {oi : Oper} {v : Value} {C : List Nat} (hs : ∀ s ∈ E, s ∈ C) (hi : ops[i]? = some oi) (hsel : ∀ (j : Nat) (o : Oper) cs b, ops[j]? = some o → o.op ≠ .select cs b)
  (hQ : ∀ c a w, Q (.panic c) (a.put oi.dst v) w → Q (.panic c) a w) :
  ∀ (fuel : Nat) (listed : Array Bool) (a : Act) (w : World),
   (∀ j oj, ops[j]? = some oj → j ≠ i → listed.getD j true = false → (∀ e ∈ oj.after, Region.binds md e = true → e.on ≠ i) → oi.apart ops oj = true) →
   Late md ops C listed i → i ∈ Region.ready md ops listed → YieldsIf P ops S oi v a → S w →
   lX P md ops Q S E fuel (listed.setIfInBounds i true) (a.put oi.dst v) w → lX P md ops Q S E (fuel + 1) listed a w := by
 intro fuel
 induction fuel with
 | zero =>
  intro listed a w _ _ hr hy hS H
  refine ⟨fun h => (by rw [h] at hr; cases hr), fun j hj => ?_⟩
  by_cases hji : j = i
  · subst hji; exact hy.wpOp hi hS ⟨fun _ => hS, H⟩
  ·
   have := ready_mono hj hji
   rw [H.1] at this
   cases this
 | succ fuel ih =>
  intro listed a w hfree Rv hr hy hS H
  refine ⟨fun h => (by rw [h] at hr; cases hr), fun j hj => ?_⟩
  by_cases hji : j = i
  · subst hji; exact hy.wpOp hi hS ⟨fun _ => hS, H⟩
  ·
   have h1 := H.2 j (ready_mono hj hji)
   have aaL := (mem_ready.1 hr).1
   have hjC := Rv.not_ready aaL hj
   have hjs : j ∉ E := fun e => hjC (hs j e)
   obtain ⟨hjun, oj, hoj, hall⟩ := mem_ready.1 hj
   have hnot : ∀ e ∈ oj.after, Region.binds md e = true → e.on ≠ i := fun e he hb heq => by
    have h1 := hall e he hb
    have h0 := (mem_ready.1 hr).1
    rw [heq] at h1
    rcases Nat.lt_or_ge i listed.size with h' | h'
    · simp [h'] at h0 h1; rw [h0] at h1; cases h1
    · simp [Array.getElem?_eq_none h'] at h1
   have h2 := wpOp_putIf hoj (hfree j oj hoj hji hjun hnot) (fun cs b => hsel i oi cs b hi) (fun cs b => hsel j oj cs b hoj) hQ hy h1
   have hfree' : ∀ k ok, ops[k]? = some ok → k ≠ i → (listed.setIfInBounds j true).getD k true = false →
     (∀ e ∈ ok.after, Region.binds md e = true → e.on ≠ i) → oi.apart ops ok = true := fun k ok hk hki hun hno => by
    refine hfree k ok hk hki ?_ hno
    by_cases hjk : j = k
    · subst hjk; exact hjun
    · rw [getD_set_ne true hjk] at hun; exact hun
   refine wpOp_mono (fun a' w' h3 => ⟨fun _ => h3.2.1 hjs, ih (listed.setIfInBounds j true) a' w' hfree' (Rv.step hjC) (ready_mono hr (Ne.symm hji)) h3.1 (h3.2.1 hjs) ?_⟩) h2
   rw [Array.setIfInBounds_comm _ _ hji]
   exact h3.2.2
theorem lF {i : Nat} {oi : Oper} {v : Value} {fuel : Nat} {listed : Array Bool} {a : Act} {w : World} (hi : ops[i]? = some oi)
  (hs : Region.noSelect ops = true) (hf : Region.free md ops listed i = true) (hr : (Region.ready md ops listed).contains i = true) (hl : tN md ops listed i E = true)
  (hQ : ∀ c a w, Q (.panic c) (a.put oi.dst v) w → Q (.panic c) a w) (hy : YieldsIf P ops S oi v a) (hS : S w)
  (h : lX P md ops Q S E fuel (listed.setIfInBounds i true) (a.put oi.dst v) w) : lX P md ops Q S E (fuel + 1) listed a w :=
 Jl (zD hl).1 hi (Region.noSelect_spec hs) hQ fuel listed a w (Region.free_spec hi hf) (zD hl).2 (by simpa using hr) hy hS h
theorem OM {i : Nat} {o : Oper} {fuel : Nat} {listed : Array Bool} {a : Act} {w : World} (hr : Region.ready md ops listed = [i]) (ho : ops[i]? = some o)
  (h : ∀ K' : Act → World → Prop, Shut (∀ a w, S w → (S w → lX P md ops Q S E fuel (listed.setIfInBounds i true) a w) → K' a w) → if Region.wanted o (yielded ops a.tmps) = true then Oper.wp P o a w K' Q else K' (a.put o.dst undef) w) :
  lX P md ops Q S E (fuel + 1) listed a w :=
 ⟨fun h0 => absurd (hr ▸ h0) (by simp), fun j hj => by
  rw [hr] at hj
  obtain rfl : j = i := by simpa using hj
  exact wpOp_step ho (fun K' hK => h K' (fun a w hS hW => hK a w ⟨fun _ => hS, hW hS⟩))⟩
theorem qq1 {α : Type _} {xs : List α} {i : Nat} (h : i < xs.toArray.size) : xs.toArray[i] = xs[i]'(by simpa using h) := rfl
theorem qq2 {α : Type _} (a : α) (l : List α) (h : 0 < (a :: l).length) : getElem (a :: l) 0 h = a := rfl
theorem qq3 {α : Type _} (a : α) (l : List α) (i : Nat) (h : i + 1 < (a :: l).length) : getElem (a :: l) (i+1) h = getElem l i (Nat.lt_of_succ_lt_succ h) := rfl
theorem qq4 {α : Type _} (l : List α) (i : Nat) (a : α) : l.toArray.setIfInBounds i a = (l.set i a).toArray := List.setIfInBounds_toArray l i a
theorem qq5 {α : Type _} {x : α} {xs : List α} {a : α} : (x :: xs).set 0 a = a :: xs := rfl
theorem qq6 {α : Type _} {x : α} {xs : List α} {i : Nat} {a : α} : (x :: xs).set (i + 1) a = x :: xs.set i a := rfl
theorem tkV (i : Nat) {oi : Oper} {v : Value} {fuel : Nat} {listed : Array Bool} {a : Act} {w : World} (h : lX P md ops Q S E fuel (listed.setIfInBounds i true) (a.put oi.dst v) w) (hi : ops[i]? = some oi := by rfl)
  (hs : Region.noSelect ops = true := by kernel_rfl) (hf : Region.free md ops listed i = true := by kernel_rfl) (hr : (Region.ready md ops listed).contains i = true := by kernel_rfl) (hl : tN md ops listed i E = true := by kernel_rfl)
  (hQ : ∀ c a w, Q (.panic c) (a.put oi.dst v) w → Q (.panic c) a w := by exact fun _ _ _ h => h) (hw : Region.wanted oi (yielded ops a.tmps) = true := by rfl)
  (hy : ∀ w, S w → (execOp a.eval oi).run P w = .ok (.value v) w := by intro wS hSw; (try dsimp only at hSw); go_simp <;> with_reducible rfl) (hS : S w := by assumption) : lX P md ops Q S E (fuel + 1) listed a w :=
 lF hi hs hf hr hl hQ (Or.inl ⟨hw, hy⟩) hS h
theorem tkU (i : Nat) {oi : Oper} {fuel : Nat} {listed : Array Bool} {a : Act} {w : World} (h : lX P md ops Q S E fuel (listed.setIfInBounds i true) (a.put oi.dst undef) w) (hi : ops[i]? = some oi := by rfl)
  (hs : Region.noSelect ops = true := by kernel_rfl) (hf : Region.free md ops listed i = true := by kernel_rfl) (hr : (Region.ready md ops listed).contains i = true := by kernel_rfl) (hl : tN md ops listed i E = true := by kernel_rfl)
  (hQ : ∀ c a w, Q (.panic c) (a.put oi.dst undef) w → Q (.panic c) a w := by exact fun _ _ _ h => h) (hw : Region.wanted oi (yielded ops a.tmps) = false := by rfl) (hS : S w := by assumption) : lX P md ops Q S E (fuel + 1) listed a w :=
 lF hi hs hf hr hl hQ (Or.inr ⟨hw, rfl⟩) hS h
theorem OL {i1 i2 : Nat} {o1 o2 : Oper} {fuel : Nat} {listed : Array Bool} {a : Act} {w : World} (hr : Region.ready md ops listed = [i1, i2]) (ho1 : ops[i1]? = some o1) (ho2 : ops[i2]? = some o2)
  (h1 : ∀ K' : Act → World → Prop, Shut (∀ a w, S w → (S w → lX P md ops Q S E fuel (listed.setIfInBounds i1 true) a w) → K' a w) → if Region.wanted o1 (yielded ops a.tmps) = true then Oper.wp P o1 a w K' Q else K' (a.put o1.dst undef) w)
  (h2 : ∀ K' : Act → World → Prop, Shut (∀ a w, S w → (S w → lX P md ops Q S E fuel (listed.setIfInBounds i2 true) a w) → K' a w) → if Region.wanted o2 (yielded ops a.tmps) = true then Oper.wp P o2 a w K' Q else K' (a.put o2.dst undef) w) :
  lX P md ops Q S E (fuel + 1) listed a w :=
 ⟨fun h0 => absurd (hr ▸ h0) (by simp), fun j hj => by
  rw [hr] at hj
  rcases (by simpa using hj : j = i1 ∨ j = i2) with rfl | rfl
  · exact wpOp_step ho1 (fun K' hK => h1 K' (fun a w hS hW => hK a w ⟨fun _ => hS, hW hS⟩))
  · exact wpOp_step ho2 (fun K' hK => h2 K' (fun a w hS hW => hK a w ⟨fun _ => hS, hW hS⟩))⟩
theorem KR {i : Nat} {o : Oper} {fuel : Nat} {listed : Array Bool} {a : Act} {w : World} (hr : Region.ready md ops listed = [i]) (hE : i ∈ E) (ho : ops[i]? = some o)
  (h : ∀ K' : Act → World → Prop, Shut (∀ a w, lX P md ops Q S E fuel (listed.setIfInBounds i true) a w → K' a w) → if Region.wanted o (yielded ops a.tmps) = true then Oper.wp P o a w K' Q else K' (a.put o.dst undef) w) :
  lX P md ops Q S E (fuel + 1) listed a w :=
 ⟨fun h0 => absurd (hr ▸ h0) (by simp), fun j hj => by
  rw [hr] at hj
  obtain rfl : j = i := by simpa using hj
  exact wpOp_step ho (fun K' hK => h K' (fun a w hW => hK a w ⟨fun h => absurd hE h, hW⟩))⟩
theorem Dw {i1 i2 : Nat} {o1 o2 : Oper} {fuel : Nat} {listed : Array Bool} {a : Act} {w : World} (hr : Region.ready md ops listed = [i1, i2]) (hE1 : i1 ∈ E) (hE2 : i2 ∈ E) (ho1 : ops[i1]? = some o1) (ho2 : ops[i2]? = some o2)
  (h1 : ∀ K' : Act → World → Prop, Shut (∀ a w, lX P md ops Q S E fuel (listed.setIfInBounds i1 true) a w → K' a w) → if Region.wanted o1 (yielded ops a.tmps) = true then Oper.wp P o1 a w K' Q else K' (a.put o1.dst undef) w)
  (h2 : ∀ K' : Act → World → Prop, Shut (∀ a w, lX P md ops Q S E fuel (listed.setIfInBounds i2 true) a w → K' a w) → if Region.wanted o2 (yielded ops a.tmps) = true then Oper.wp P o2 a w K' Q else K' (a.put o2.dst undef) w) :
  lX P md ops Q S E (fuel + 1) listed a w :=
 ⟨fun h0 => absurd (hr ▸ h0) (by simp), fun j hj => by
  rw [hr] at hj
  rcases (by simpa using hj : j = i1 ∨ j = i2) with rfl | rfl
  · exact wpOp_step ho1 (fun K' hK => h1 K' (fun a w hW => hK a w ⟨fun h => absurd hE1 h, hW⟩))
  · exact wpOp_step ho2 (fun K' hK => h2 K' (fun a w hW => hK a w ⟨fun h => absurd hE2 h, hW⟩))⟩
theorem KS {listed : Array Bool} {a : Act} {w : World} (hr : Region.ready md ops listed = []) (h : Q .normal a w) : ∀ fuel, lX P md ops Q S E fuel listed a w
 | 0 => ⟨hr, h⟩
 | _ + 1 => ⟨fun _ => h, by rw [hr]; simp⟩
theorem bJ {id : Nat} {a : Act} {w : World} (hm : P.follows .mixedOrders = true) (hS : S w.drew)
  (h : S w.drew → lX P .any ops Q S E ops.size (Array.replicate ops.size false) a w.drew) : (Code.region id ops true).wp P Q a w :=
 wp_region_any hm (yT _ _ _ _ (h hS))
end
section
variable {P : Program} {ops : Array Oper} {Q : Exit → Act → World → Prop} {md : Region.Mode} {S : World → Prop} {E : List Nat}
theorem Jk {fuel : Nat} {listed : Array Bool} {a : Act} {w : World} (h : ∀ (T : Nat → Array Bool → Act → World → Prop) (a0 : Act), T = lX P md ops Q S E → a0 = a → T fuel listed a0 w) : lX P md ops Q S E fuel listed a w := h _ _ rfl rfl
end
end Go.Proofs.YtchcllcbknfikaaGreatDoor
namespace Go.Proofs.YtchcllcbknfikaaGreatDoor
open Go.RowKit si
theorem jY {b c u : World} (h : Hid (Below b.heap.size b c)) (h2 : Hid (Below c.heap.size c u)) : Hid (Below b.heap.size b u) := aa (ag h.out h2.out)
theorem bF {b c u : World} (h : Hid (Below b.heap.size b c)) (h2 : Below c.heap.size c u) : Hid (Below b.heap.size b u) := aa (ag h.out h2)
theorem bb2 {a b u u2 : World} (h : Hid (Below a.heap.size a u ∧ Below b.heap.size b u)) (q : Below u.heap.size u u2) : Hid (Below a.heap.size a u2 ∧ Below b.heap.size b u2) := aa ⟨ag h.out.1 q, ag h.out.2 q⟩
theorem bb3 {a b c u u2 : World} (h : Hid (Below a.heap.size a u ∧ Below b.heap.size b u ∧ Below c.heap.size c u)) (q : Below u.heap.size u u2) : Hid (Below a.heap.size a u2 ∧ Below b.heap.size b u2 ∧ Below c.heap.size c u2) := aa ⟨ag h.out.1 q, ag h.out.2.1 q, ag h.out.2.2 q⟩
theorem bb4 {a b c d u u2 : World} (h : Hid (Below a.heap.size a u ∧ Below b.heap.size b u ∧ Below c.heap.size c u ∧ Below d.heap.size d u)) (q : Below u.heap.size u u2) : Hid (Below a.heap.size a u2 ∧ Below b.heap.size b u2 ∧ Below c.heap.size c u2 ∧ Below d.heap.size d u2) := aa ⟨ag h.out.1 q, ag h.out.2.1 q, ag h.out.2.2.1 q, ag h.out.2.2.2 q⟩
theorem KE {P : Program} {f : Nat} {args : Array Value} {b w : World} {E0 : Ending} {Q : Ending → World → Prop} (hB : Hid (Below b.heap.size b w)) (h : Calls P f args w fun e w' => e = E0 ∧ Below w.heap.size w w') (k : ∀ w', Hid (Below b.heap.size b w') → Q E0 w') : Calls P f args w Q :=
 h.mono (fun e w' he => by obtain ⟨rfl, hb⟩ := he; exact k w' (bF hB hb))
theorem eH {P : Program} {f : Nat} {args : Array Value} {b w : World} {E0 : Ending} {Q : Ending → World → Prop} {C : World → Prop} (kC : Hid (∀ u, Hid (Below b.heap.size b u) → C u)) (hB : Hid (Below b.heap.size b w)) (h : Calls P f args w fun e w' => e = E0 ∧ Below w.heap.size w w') (k : ∀ w', Hid (Below b.heap.size b w') → C w' → Q E0 w') : Calls P f args w Q :=
 KE hB h (fun w' h' => k w' h' (kC.out _ h'))
theorem abp {P : Program} {f : Nat} {args : Array Value} {b c w : World} {E0 : Ending} {Q : Ending → World → Prop} (hB : Hid (Below b.heap.size b w)) (hC : Hid (Below c.heap.size c w)) (h : Calls P f args w fun e w' => e = E0 ∧ Below w.heap.size w w') (k : ∀ w', Hid (Below b.heap.size b w') → Hid (Below c.heap.size c w') → Q E0 w') : Calls P f args w Q :=
 h.mono (fun e w' he => by obtain ⟨rfl, hb⟩ := he; exact k w' (bF hB hb) (bF hC hb))
theorem Nw {P : Program} {f : Nat} {args : Array Value} {b c d w : World} {E0 : Ending} {Q : Ending → World → Prop} (hB : Hid (Below b.heap.size b w)) (hC : Hid (Below c.heap.size c w)) (hD : Hid (Below d.heap.size d w)) (h : Calls P f args w fun e w' => e = E0 ∧ Below w.heap.size w w') (k : ∀ w', Hid (Below b.heap.size b w') → Hid (Below c.heap.size c w') → Hid (Below d.heap.size d w') → Q E0 w') : Calls P f args w Q :=
 h.mono (fun e w' he => by obtain ⟨rfl, hb⟩ := he; exact k w' (bF hB hb) (bF hC hb) (bF hD hb))
theorem bP (b : World) : Hid (Below b.heap.size b b) := aa (Below.refl _ _)
theorem fq {w w0 : World} (φ : World → Prop) (hb : Hid (Below w.heap.size w w0)) (h : Hid (φ w)) (st : ∀ {u}, φ w → Below w.heap.size w u → φ u) : Hid (∀ u : World, Hid (Below w0.heap.size w0 u) → Hid (φ u)) :=
 aa (fun u hu => aa (st h.out (ag hb.out hu.out)))
theorem qO {w : World} (φ : World → Prop) (h : φ w) (st : ∀ {u}, φ w → Below w.heap.size w u → φ u) : Hid (∀ u : World, Hid (Below w.heap.size w u) → Hid (φ u)) :=
 aa (fun u hu => aa (st h hu.out))
theorem mkS {w w0 : World} {A : Option Addr} {xs : List Int} (hb : Hid (Below w.heap.size w w0)) (h : Hid (Sl w A xs)) : Hid (∀ u : World, Hid (Below w0.heap.size w0 u) → Hid (Sl u A xs)) := fq (fun u => Sl u A xs) hb h (·.below)
theorem mkV {w w0 : World} (hb : Hid (Below w.heap.size w w0)) (h : Hid (Vars w)) : Hid (∀ u : World, Hid (Below w0.heap.size w0 u) → Hid (Vars u)) := fq (fun u => Vars u) hb h (·.below)
theorem o6 {w w0 : World} (hb : Hid (Below w.heap.size w w0)) (h : Hid (bz w)) : Hid (∀ u : World, Hid (Below w0.heap.size w0 u) → Hid (bz u)) := fq (fun u => bz u) hb h (·.below)
theorem Bg {w0 : World} (b : Nat) {o : Obj} (h : w0.heap[b]? = some o) : Hid (∀ u : World, Hid (Below w0.heap.size w0 u) → Hid (u.heap[b]? = some o)) := aa (fun u hu => aa ((hu.out.block b (Array.getElem?_eq_some_iff.1 h).1).trans h))
theorem mkc {w0 : World} {p : Addr} {v : Value} (h : w0.cell? p = some v) : Hid (∀ u : World, Hid (Below w0.heap.size w0 u) → u.cell? p = some v) := aa (fun u hu => cell_below h hu.out)
theorem gy {w w0 u : World} (h : Hid (Below w.heap.size w w0)) (h2 : Hid (Below w0.heap.size w0 u)) : Below w.heap.size w u := ag h.out h2.out
def BO (u : World) (b : Nat) (o : Obj) : Prop := ∃ c T, o = .cells c T ∧ ∀ (j : Nat) v, c[j]? = some v → Own u ⟨b, j, none⟩ v
theorem BO.new (w : World) (c : Array Value) (T : TypeId) : BO (w.alloc (.cells c T)) w.heap.size (.cells c T) := ⟨c, T, rfl, fun _ _ h => uF rfl h⟩
theorem BO.below {u u2 : World} {b : Nat} {o : Obj} (h : BO u b o) (hb : Below u.heap.size u u2) : BO u2 b o := by
 obtain ⟨c, T, e, h⟩ := h
 exact ⟨c, T, e, fun j v hj => (h j v hj).below hb⟩
theorem BO.get {u : World} {b : Nat} {c : Array Value} {T : TypeId} (h : BO u b (.cells c T)) (j : Nat) {v : Value} (hj : c[j]? = some v) : Own u ⟨b, j, none⟩ v := by
 obtain ⟨c', T', e, h⟩ := h
 cases e
 exact h j v hj
theorem sO {c : Array Value} {T : TypeId} (u : World) (b : Nat) (h : BO u b (.cells c T)) : True := trivial
theorem qA {a0 a1 : Value} {r : List Value} {T : TypeId} (u : World) (b : Nat) (h : BO u b (.cells (a0 :: a1 :: r).toArray T)) : u.cell? ⟨b, 0, none⟩ = some a0 ∧ u.cell? ⟨b, 1, none⟩ = some a1 := ⟨(h.get 0 (by simp)).1, (h.get 1 (by simp)).1⟩
theorem qz {a0 a1 a2 : Value} {r : List Value} {T : TypeId} (u : World) (b : Nat) (h : BO u b (.cells (a0 :: a1 :: a2 :: r).toArray T)) : u.cell? ⟨b, 0, none⟩ = some a0 ∧ u.cell? ⟨b, 1, none⟩ = some a1 ∧ u.cell? ⟨b, 2, none⟩ = some a2 := ⟨(h.get 0 (by simp)).1, (h.get 1 (by simp)).1, (h.get 2 (by simp)).1⟩
theorem bq4 {a0 a1 a2 a3 : Value} {r : List Value} {T : TypeId} (u : World) (b : Nat) (h : BO u b (.cells (a0 :: a1 :: a2 :: a3 :: r).toArray T)) : u.cell? ⟨b, 0, none⟩ = some a0 ∧ u.cell? ⟨b, 1, none⟩ = some a1 ∧ u.cell? ⟨b, 2, none⟩ = some a2 ∧ u.cell? ⟨b, 3, none⟩ = some a3 := ⟨(h.get 0 (by simp)).1, (h.get 1 (by simp)).1, (h.get 2 (by simp)).1, (h.get 3 (by simp)).1⟩
theorem Ai {a0 a1 a2 a3 a4 : Value} {r : List Value} {T : TypeId} (u : World) (b : Nat) (h : BO u b (.cells (a0 :: a1 :: a2 :: a3 :: a4 :: r).toArray T)) : u.cell? ⟨b, 0, none⟩ = some a0 ∧ u.cell? ⟨b, 1, none⟩ = some a1 ∧ u.cell? ⟨b, 2, none⟩ = some a2 ∧ u.cell? ⟨b, 3, none⟩ = some a3 ∧ u.cell? ⟨b, 4, none⟩ = some a4 := ⟨(h.get 0 (by simp)).1, (h.get 1 (by simp)).1, (h.get 2 (by simp)).1, (h.get 3 (by simp)).1, (h.get 4 (by simp)).1⟩
theorem Ah {a0 a1 a2 a3 a4 a5 a6 a7 a8 : Value} {r : List Value} {T : TypeId} (u : World) (b : Nat) (h : BO u b (.cells (a0 :: a1 :: a2 :: a3 :: a4 :: a5 :: a6 :: a7 :: a8 :: r).toArray T)) : u.cell? ⟨b, 0, none⟩ = some a0 ∧ u.cell? ⟨b, 1, none⟩ = some a1 ∧ u.cell? ⟨b, 2, none⟩ = some a2 ∧ u.cell? ⟨b, 3, none⟩ = some a3 ∧ u.cell? ⟨b, 4, none⟩ = some a4 ∧ u.cell? ⟨b, 5, none⟩ = some a5 ∧ u.cell? ⟨b, 6, none⟩ = some a6 ∧ u.cell? ⟨b, 7, none⟩ = some a7 ∧ u.cell? ⟨b, 8, none⟩ = some a8 := ⟨(h.get 0 (by simp)).1, (h.get 1 (by simp)).1, (h.get 2 (by simp)).1, (h.get 3 (by simp)).1, (h.get 4 (by simp)).1, (h.get 5 (by simp)).1, (h.get 6 (by simp)).1, (h.get 7 (by simp)).1, (h.get 8 (by simp)).1⟩
theorem bp0 {c : Array Value} {T : TypeId} (u : World) (b : Nat) (R : Prop) (h : BO u b (.cells c T)) (r : R) : R := r
theorem rq {a0 a1 : Value} {r : List Value} {T : TypeId} (u : World) (b : Nat) (R : Prop) (h : BO u b (.cells (a0 :: a1 :: r).toArray T)) (g : R) : u.cell? ⟨b, 0, none⟩ = some a0 ∧ u.cell? ⟨b, 1, none⟩ = some a1 ∧ R := ⟨(h.get 0 (by simp)).1, (h.get 1 (by simp)).1, g⟩
theorem fE {a0 a1 a2 : Value} {r : List Value} {T : TypeId} (u : World) (b : Nat) (R : Prop) (h : BO u b (.cells (a0 :: a1 :: a2 :: r).toArray T)) (g : R) : u.cell? ⟨b, 0, none⟩ = some a0 ∧ u.cell? ⟨b, 1, none⟩ = some a1 ∧ u.cell? ⟨b, 2, none⟩ = some a2 ∧ R := ⟨(h.get 0 (by simp)).1, (h.get 1 (by simp)).1, (h.get 2 (by simp)).1, g⟩
theorem bp4 {a0 a1 a2 a3 : Value} {r : List Value} {T : TypeId} (u : World) (b : Nat) (R : Prop) (h : BO u b (.cells (a0 :: a1 :: a2 :: a3 :: r).toArray T)) (g : R) : u.cell? ⟨b, 0, none⟩ = some a0 ∧ u.cell? ⟨b, 1, none⟩ = some a1 ∧ u.cell? ⟨b, 2, none⟩ = some a2 ∧ u.cell? ⟨b, 3, none⟩ = some a3 ∧ R := ⟨(h.get 0 (by simp)).1, (h.get 1 (by simp)).1, (h.get 2 (by simp)).1, (h.get 3 (by simp)).1, g⟩
theorem AB {a0 a1 a2 a3 a4 : Value} {r : List Value} {T : TypeId} (u : World) (b : Nat) (R : Prop) (h : BO u b (.cells (a0 :: a1 :: a2 :: a3 :: a4 :: r).toArray T)) (g : R) : u.cell? ⟨b, 0, none⟩ = some a0 ∧ u.cell? ⟨b, 1, none⟩ = some a1 ∧ u.cell? ⟨b, 2, none⟩ = some a2 ∧ u.cell? ⟨b, 3, none⟩ = some a3 ∧ u.cell? ⟨b, 4, none⟩ = some a4 ∧ R := ⟨(h.get 0 (by simp)).1, (h.get 1 (by simp)).1, (h.get 2 (by simp)).1, (h.get 3 (by simp)).1, (h.get 4 (by simp)).1, g⟩
theorem ZH {a0 a1 a2 a3 a4 a5 a6 a7 a8 : Value} {r : List Value} {T : TypeId} (u : World) (b : Nat) (R : Prop) (h : BO u b (.cells (a0 :: a1 :: a2 :: a3 :: a4 :: a5 :: a6 :: a7 :: a8 :: r).toArray T)) (g : R) : u.cell? ⟨b, 0, none⟩ = some a0 ∧ u.cell? ⟨b, 1, none⟩ = some a1 ∧ u.cell? ⟨b, 2, none⟩ = some a2 ∧ u.cell? ⟨b, 3, none⟩ = some a3 ∧ u.cell? ⟨b, 4, none⟩ = some a4 ∧ u.cell? ⟨b, 5, none⟩ = some a5 ∧ u.cell? ⟨b, 6, none⟩ = some a6 ∧ u.cell? ⟨b, 7, none⟩ = some a7 ∧ u.cell? ⟨b, 8, none⟩ = some a8 ∧ R := ⟨(h.get 0 (by simp)).1, (h.get 1 (by simp)).1, (h.get 2 (by simp)).1, (h.get 3 (by simp)).1, (h.get 4 (by simp)).1, (h.get 5 (by simp)).1, (h.get 6 (by simp)).1, (h.get 7 (by simp)).1, (h.get 8 (by simp)).1, g⟩
theorem st1 {c0 : Array Value} {T0 : TypeId} {C0 : World → Nat → Prop} (o0 : Obj) (h0 : ∀ u b, BO u b (.cells c0 T0) → C0 u b) (w : World) (q0 : o0 = .cells c0 T0 := by rfl) : ∃ w0, Hid ((w.alloc o0) = w0) ∧ Hid (Below w.heap.size w w0) ∧ Hid (∀ u : World, Hid (Below w0.heap.size w0 u) → C0 u (w.heap.size)) := by
 subst q0
 have p0 : BO ((w.alloc (.cells c0 T0))) (w.heap.size) (.cells c0 T0) := BO.new w c0 T0
 exact ⟨_, aa rfl, aa (af _ _), aa (fun u h => h0 _ _ (p0.below h.out))⟩
theorem st2 {c0 c1 : Array Value} {T0 T1 : TypeId} {C0 : World → Nat → Prop → Prop} {C1 : World → Nat → Prop} (o0 : Obj) (h0 : ∀ u b R, BO u b (.cells c0 T0) → R → C0 u b R) (o1 : Obj) (h1 : ∀ u b, BO u b (.cells c1 T1) → C1 u b) (w : World) (q0 : o0 = .cells c0 T0 := by rfl) (q1 : o1 = .cells c1 T1 := by rfl) : ∃ w0, Hid (((w.alloc o0).alloc o1) = w0) ∧ Hid (Below w.heap.size w w0) ∧ Hid (∀ u : World, Hid (Below w0.heap.size w0 u) → C0 u (w.heap.size) (C1 u (w.heap.size + 1))) := by
 subst q0 q1
 have p0 : BO (((w.alloc (.cells c0 T0)).alloc (.cells c1 T1))) (w.heap.size) (.cells c0 T0) := BO.below (BO.new w c0 T0) (af _ _)
 have p1 : BO (((w.alloc (.cells c0 T0)).alloc (.cells c1 T1))) (w.heap.size + 1) (.cells c1 T1) := (show (w.alloc (.cells c0 T0)).heap.size = w.heap.size + 1 by simp) ▸ BO.new (w.alloc (.cells c0 T0)) c1 T1
 exact ⟨_, aa rfl, aa (ag (af _ _) (af _ _)), aa (fun u h => h0 _ _ _ (p0.below h.out) (h1 _ _ (p1.below h.out)))⟩
theorem sW {c0 c1 c2 : Array Value} {T0 T1 T2 : TypeId} {C0 : World → Nat → Prop → Prop} {C1 : World → Nat → Prop → Prop} {C2 : World → Nat → Prop} (o0 : Obj) (h0 : ∀ u b R, BO u b (.cells c0 T0) → R → C0 u b R) (o1 : Obj) (h1 : ∀ u b R, BO u b (.cells c1 T1) → R → C1 u b R) (o2 : Obj) (h2 : ∀ u b, BO u b (.cells c2 T2) → C2 u b) (w : World) (q0 : o0 = .cells c0 T0 := by rfl) (q1 : o1 = .cells c1 T1 := by rfl) (q2 : o2 = .cells c2 T2 := by rfl) : ∃ w0, Hid ((((w.alloc o0).alloc o1).alloc o2) = w0) ∧ Hid (Below w.heap.size w w0) ∧ Hid (∀ u : World, Hid (Below w0.heap.size w0 u) → C0 u (w.heap.size) (C1 u (w.heap.size + 1) (C2 u (w.heap.size + 2)))) := by
 subst q0 q1 q2
 have p0 : BO ((((w.alloc (.cells c0 T0)).alloc (.cells c1 T1)).alloc (.cells c2 T2))) (w.heap.size) (.cells c0 T0) := BO.below (BO.below (BO.new w c0 T0) (af _ _)) (af _ _)
 have p1 : BO ((((w.alloc (.cells c0 T0)).alloc (.cells c1 T1)).alloc (.cells c2 T2))) (w.heap.size + 1) (.cells c1 T1) := BO.below ((show (w.alloc (.cells c0 T0)).heap.size = w.heap.size + 1 by simp) ▸ BO.new (w.alloc (.cells c0 T0)) c1 T1) (af _ _)
 have p2 : BO ((((w.alloc (.cells c0 T0)).alloc (.cells c1 T1)).alloc (.cells c2 T2))) (w.heap.size + 2) (.cells c2 T2) := (show ((w.alloc (.cells c0 T0)).alloc (.cells c1 T1)).heap.size = w.heap.size + 2 by simp) ▸ BO.new ((w.alloc (.cells c0 T0)).alloc (.cells c1 T1)) c2 T2
 exact ⟨_, aa rfl, aa (ag (ag (af _ _) (af _ _)) (af _ _)), aa (fun u h => h0 _ _ _ (p0.below h.out) (h1 _ _ _ (p1.below h.out) (h2 _ _ (p2.below h.out))))⟩
theorem KA {c0 c1 c2 c3 : Array Value} {T0 T1 T2 T3 : TypeId} {C0 : World → Nat → Prop → Prop} {C1 : World → Nat → Prop → Prop} {C2 : World → Nat → Prop → Prop} {C3 : World → Nat → Prop} (o0 : Obj) (h0 : ∀ u b R, BO u b (.cells c0 T0) → R → C0 u b R) (o1 : Obj) (h1 : ∀ u b R, BO u b (.cells c1 T1) → R → C1 u b R) (o2 : Obj) (h2 : ∀ u b R, BO u b (.cells c2 T2) → R → C2 u b R) (o3 : Obj) (h3 : ∀ u b, BO u b (.cells c3 T3) → C3 u b) (w : World) (q0 : o0 = .cells c0 T0 := by rfl) (q1 : o1 = .cells c1 T1 := by rfl) (q2 : o2 = .cells c2 T2 := by rfl) (q3 : o3 = .cells c3 T3 := by rfl) : ∃ w0, Hid (((((w.alloc o0).alloc o1).alloc o2).alloc o3) = w0) ∧ Hid (Below w.heap.size w w0) ∧ Hid (∀ u : World, Hid (Below w0.heap.size w0 u) → C0 u (w.heap.size) (C1 u (w.heap.size + 1) (C2 u (w.heap.size + 2) (C3 u (w.heap.size + 3))))) := by
 subst q0 q1 q2 q3
 have p0 : BO (((((w.alloc (.cells c0 T0)).alloc (.cells c1 T1)).alloc (.cells c2 T2)).alloc (.cells c3 T3))) (w.heap.size) (.cells c0 T0) := BO.below (BO.below (BO.below (BO.new w c0 T0) (af _ _)) (af _ _)) (af _ _)
 have p1 : BO (((((w.alloc (.cells c0 T0)).alloc (.cells c1 T1)).alloc (.cells c2 T2)).alloc (.cells c3 T3))) (w.heap.size + 1) (.cells c1 T1) := BO.below (BO.below ((show (w.alloc (.cells c0 T0)).heap.size = w.heap.size + 1 by simp) ▸ BO.new (w.alloc (.cells c0 T0)) c1 T1) (af _ _)) (af _ _)
 have p2 : BO (((((w.alloc (.cells c0 T0)).alloc (.cells c1 T1)).alloc (.cells c2 T2)).alloc (.cells c3 T3))) (w.heap.size + 2) (.cells c2 T2) := BO.below ((show ((w.alloc (.cells c0 T0)).alloc (.cells c1 T1)).heap.size = w.heap.size + 2 by simp) ▸ BO.new ((w.alloc (.cells c0 T0)).alloc (.cells c1 T1)) c2 T2) (af _ _)
 have p3 : BO (((((w.alloc (.cells c0 T0)).alloc (.cells c1 T1)).alloc (.cells c2 T2)).alloc (.cells c3 T3))) (w.heap.size + 3) (.cells c3 T3) := (show (((w.alloc (.cells c0 T0)).alloc (.cells c1 T1)).alloc (.cells c2 T2)).heap.size = w.heap.size + 3 by simp) ▸ BO.new (((w.alloc (.cells c0 T0)).alloc (.cells c1 T1)).alloc (.cells c2 T2)) c3 T3
 exact ⟨_, aa rfl, aa (ag (ag (ag (af _ _) (af _ _)) (af _ _)) (af _ _)), aa (fun u h => h0 _ _ _ (p0.below h.out) (h1 _ _ _ (p1.below h.out) (h2 _ _ _ (p2.below h.out) (h3 _ _ (p3.below h.out)))))⟩
theorem Ri {c0 c1 c2 c3 c4 : Array Value} {T0 T1 T2 T3 T4 : TypeId} {C0 : World → Nat → Prop → Prop} {C1 : World → Nat → Prop → Prop} {C2 : World → Nat → Prop → Prop} {C3 : World → Nat → Prop → Prop} {C4 : World → Nat → Prop} (o0 : Obj) (h0 : ∀ u b R, BO u b (.cells c0 T0) → R → C0 u b R) (o1 : Obj) (h1 : ∀ u b R, BO u b (.cells c1 T1) → R → C1 u b R) (o2 : Obj) (h2 : ∀ u b R, BO u b (.cells c2 T2) → R → C2 u b R) (o3 : Obj) (h3 : ∀ u b R, BO u b (.cells c3 T3) → R → C3 u b R) (o4 : Obj) (h4 : ∀ u b, BO u b (.cells c4 T4) → C4 u b) (w : World) (q0 : o0 = .cells c0 T0 := by rfl) (q1 : o1 = .cells c1 T1 := by rfl) (q2 : o2 = .cells c2 T2 := by rfl) (q3 : o3 = .cells c3 T3 := by rfl) (q4 : o4 = .cells c4 T4 := by rfl) : ∃ w0, Hid ((((((w.alloc o0).alloc o1).alloc o2).alloc o3).alloc o4) = w0) ∧ Hid (Below w.heap.size w w0) ∧ Hid (∀ u : World, Hid (Below w0.heap.size w0 u) → C0 u (w.heap.size) (C1 u (w.heap.size + 1) (C2 u (w.heap.size + 2) (C3 u (w.heap.size + 3) (C4 u (w.heap.size + 4)))))) := by
 subst q0 q1 q2 q3 q4
 have p0 : BO ((((((w.alloc (.cells c0 T0)).alloc (.cells c1 T1)).alloc (.cells c2 T2)).alloc (.cells c3 T3)).alloc (.cells c4 T4))) (w.heap.size) (.cells c0 T0) := BO.below (BO.below (BO.below (BO.below (BO.new w c0 T0) (af _ _)) (af _ _)) (af _ _)) (af _ _)
 have p1 : BO ((((((w.alloc (.cells c0 T0)).alloc (.cells c1 T1)).alloc (.cells c2 T2)).alloc (.cells c3 T3)).alloc (.cells c4 T4))) (w.heap.size + 1) (.cells c1 T1) := BO.below (BO.below (BO.below ((show (w.alloc (.cells c0 T0)).heap.size = w.heap.size + 1 by simp) ▸ BO.new (w.alloc (.cells c0 T0)) c1 T1) (af _ _)) (af _ _)) (af _ _)
 have p2 : BO ((((((w.alloc (.cells c0 T0)).alloc (.cells c1 T1)).alloc (.cells c2 T2)).alloc (.cells c3 T3)).alloc (.cells c4 T4))) (w.heap.size + 2) (.cells c2 T2) := BO.below (BO.below ((show ((w.alloc (.cells c0 T0)).alloc (.cells c1 T1)).heap.size = w.heap.size + 2 by simp) ▸ BO.new ((w.alloc (.cells c0 T0)).alloc (.cells c1 T1)) c2 T2) (af _ _)) (af _ _)
 have p3 : BO ((((((w.alloc (.cells c0 T0)).alloc (.cells c1 T1)).alloc (.cells c2 T2)).alloc (.cells c3 T3)).alloc (.cells c4 T4))) (w.heap.size + 3) (.cells c3 T3) := BO.below ((show (((w.alloc (.cells c0 T0)).alloc (.cells c1 T1)).alloc (.cells c2 T2)).heap.size = w.heap.size + 3 by simp) ▸ BO.new (((w.alloc (.cells c0 T0)).alloc (.cells c1 T1)).alloc (.cells c2 T2)) c3 T3) (af _ _)
 have p4 : BO ((((((w.alloc (.cells c0 T0)).alloc (.cells c1 T1)).alloc (.cells c2 T2)).alloc (.cells c3 T3)).alloc (.cells c4 T4))) (w.heap.size + 4) (.cells c4 T4) := (show ((((w.alloc (.cells c0 T0)).alloc (.cells c1 T1)).alloc (.cells c2 T2)).alloc (.cells c3 T3)).heap.size = w.heap.size + 4 by simp) ▸ BO.new ((((w.alloc (.cells c0 T0)).alloc (.cells c1 T1)).alloc (.cells c2 T2)).alloc (.cells c3 T3)) c4 T4
 exact ⟨_, aa rfl, aa (ag (ag (ag (ag (af _ _) (af _ _)) (af _ _)) (af _ _)) (af _ _)), aa (fun u h => h0 _ _ _ (p0.below h.out) (h1 _ _ _ (p1.below h.out) (h2 _ _ _ (p2.below h.out) (h3 _ _ _ (p3.below h.out) (h4 _ _ (p4.below h.out))))))⟩
theorem qZ {c : Array Value} {T : TypeId} {C : World → Nat → Prop} (o : Obj) (e : ∀ u b, BO u b (.cells c T) → C u b) (w : World) (q : o = .cells c T := by rfl) : ∃ w2, w.alloc o = w2 ∧ Hid (Below w.heap.size w w2) ∧ Hid (w2.heap.size = w.heap.size + 1) ∧ Hid (w2.heap[w.heap.size]? = some o) ∧ Hid (∀ u : World, Hid (Below w2.heap.size w2 u) → C u w.heap.size) := by
 subst q
 exact ⟨_, rfl, aa (af _ _), aa (by simp), aa (heap_alloc_new _ _), aa (fun u h => e _ _ ((BO.new w c T).below h.out))⟩
theorem qq : (∀ {α : Type} (xs : List α) (i : Nat) (h : i < xs.toArray.size), xs.toArray[i] = xs[i]'(by simpa using h)) ∧ (∀ {α : Type} (a : α) (l : List α) (h : 0 < (a :: l).length), getElem (a :: l) 0 h = a) ∧
  (∀ {α : Type} (a : α) (l : List α) (i : Nat) (h : i + 1 < (a :: l).length), getElem (a :: l) (i+1) h = getElem l i (Nat.lt_of_succ_lt_succ h)) ∧
  (∀ (a : Act) (d : Tmp) (v : Value), a.put (some d) v = { a with tmps := a.tmps.setIfInBounds d v }) ∧ (∀ (a : Act) (v : Value), a.put none v = a) ∧
  (∀ {α : Type} (l : List α) (i : Nat) (a : α), l.toArray.setIfInBounds i a = (l.set i a).toArray) ∧ (∀ {α : Type} (x : α) (xs : List α) (a : α), (x :: xs).set 0 a = a :: xs) ∧ (∀ {α : Type} (x : α) (xs : List α) (i : Nat) (a : α), (x :: xs).set (i + 1) a = x :: xs.set i a) ∧
  (∀ a b : Value, cond true a b = a) ∧ (∀ a b : Value, cond false a b = b) :=
 ⟨fun _ _ _ => rfl, fun _ _ _ => rfl, fun _ _ _ _ => rfl, fun _ _ _ => rfl, fun _ _ => rfl, fun l i a => List.setIfInBounds_toArray l i a, fun _ _ _ => rfl, fun _ _ _ _ => rfl, fun _ _ => rfl, fun _ _ => rfl⟩
section
variable {P : Program} {ops : Array Oper} {Q : Exit → Act → World → Prop} {md : Region.Mode} {S : World → Prop} {E : List Nat}
theorem aL (i : Nat) {oi : Oper} {v : Value} {fuel : Nat} {listed l2 : Array Bool} {a a2 : Act} {w : World} (h : lX P md ops Q S E fuel l2 a2 w) (hi : ops[i]? = some oi := by rfl)
  (hs : Region.noSelect ops = true := by kernel_rfl) (hf : Region.free md ops listed i = true := by kernel_rfl) (hr : (Region.ready md ops listed).contains i = true := by kernel_rfl) (hl : tN md ops listed i E = true := by kernel_rfl)
  (hQ : ∀ c a w, Q (.panic c) (a.put oi.dst v) w → Q (.panic c) a w := by exact fun _ _ _ h => h) (hw : Region.wanted oi (yielded ops a.tmps) = true := by rfl)
  (hy : ∀ w, S w → (execOp a.eval oi).run P w = .ok (.value v) w := by intro wS hSw; have zS := hO.out wS hSw; go_simp <;> with_reducible rfl) (hS : S w := by assumption) (hn : listed.setIfInBounds i true = l2 ∧ a.put oi.dst v = a2 := by refine ⟨?_, ?_⟩ <;> (try simp only [qq]) <;> rfl) : lX P md ops Q S E (fuel + 1) listed a w :=
 lF hi hs hf hr hl hQ (Or.inl ⟨hw, hy⟩) hS (hn.1 ▸ hn.2 ▸ h)
theorem bQ (i : Nat) {oi : Oper} {v : Value} {fuel : Nat} {listed l2 : Array Bool} {a a2 : Act} {w : World} (h : lX P md ops Q S E fuel l2 a2 w) (hi : ops[i]? = some oi := by rfl)
  (hs : Region.noSelect ops = true := by kernel_rfl) (hf : Region.free md ops listed i = true := by kernel_rfl) (hr : (Region.ready md ops listed).contains i = true := by kernel_rfl) (hl : tN md ops listed i E = true := by kernel_rfl)
  (hQ : ∀ c a w, Q (.panic c) (a.put oi.dst v) w → Q (.panic c) a w := by exact fun _ _ _ h => h) (hw : Region.wanted oi (yielded ops a.tmps) = true := by rfl)
  (hy : ∀ w, S w → (execOp a.eval oi).run P w = .ok (.value v) w := by intro wS hSw; (try dsimp only at hSw); go_simp <;> with_reducible rfl) (hS : S w := by assumption) (hn : listed.setIfInBounds i true = l2 ∧ a.put oi.dst v = a2 := by refine ⟨?_, ?_⟩ <;> (try simp only [qq]) <;> rfl) : lX P md ops Q S E (fuel + 1) listed a w :=
 lF hi hs hf hr hl hQ (Or.inl ⟨hw, hy⟩) hS (hn.1 ▸ hn.2 ▸ h)
theorem Ad (i : Nat) {oi : Oper} (v : Value) {fuel : Nat} {listed l2 : Array Bool} {a a2 : Act} {w : World} (hi : ops[i]? = some oi) (hy : ∀ w, S w → (execOp a.eval oi).run P w = .ok (.value v) w) (h : lX P md ops Q S E fuel l2 a2 w)
  (hs : Region.noSelect ops = true := by kernel_rfl) (hf : Region.free md ops listed i = true := by kernel_rfl) (hr : (Region.ready md ops listed).contains i = true := by kernel_rfl) (hl : tN md ops listed i E = true := by kernel_rfl)
  (hQ : ∀ c a w, Q (.panic c) (a.put oi.dst v) w → Q (.panic c) a w := by exact fun _ _ _ h => h) (hw : Region.wanted oi (yielded ops a.tmps) = true := by rfl) (hS : S w := by assumption) (hn : listed.setIfInBounds i true = l2 ∧ a.put oi.dst v = a2 := by refine ⟨?_, ?_⟩ <;> (try simp only [qq]) <;> rfl) : lX P md ops Q S E (fuel + 1) listed a w :=
 lF hi hs hf hr hl hQ (Or.inl ⟨hw, hy⟩) hS (hn.1 ▸ hn.2 ▸ h)
theorem jD (i : Nat) {oi : Oper} {fuel : Nat} {listed l2 : Array Bool} {a a2 : Act} {w : World} (h : lX P md ops Q S E fuel l2 a2 w) (hi : ops[i]? = some oi := by rfl)
  (hs : Region.noSelect ops = true := by kernel_rfl) (hf : Region.free md ops listed i = true := by kernel_rfl) (hr : (Region.ready md ops listed).contains i = true := by kernel_rfl) (hl : tN md ops listed i E = true := by kernel_rfl)
  (hQ : ∀ c a w, Q (.panic c) (a.put oi.dst undef) w → Q (.panic c) a w := by exact fun _ _ _ h => h) (hw : Region.wanted oi (yielded ops a.tmps) = false := by rfl) (hS : S w := by assumption) (hn : listed.setIfInBounds i true = l2 ∧ a.put oi.dst undef = a2 := by refine ⟨?_, ?_⟩ <;> (try simp only [qq]) <;> rfl) : lX P md ops Q S E (fuel + 1) listed a w :=
 lF hi hs hf hr hl hQ (Or.inr ⟨hw, rfl⟩) hS (hn.1 ▸ hn.2 ▸ h)
theorem bY (i : Nat) {o : Oper} {fuel : Nat} {listed : Array Bool} {a : Act} {w : World}
  (h : ∀ K' : Act → World → Prop, Shut (∀ a w, S w → (S w → lX P md ops Q S E fuel (listed.setIfInBounds i true) a w) → K' a w) → if Region.wanted o (yielded ops a.tmps) = true then Oper.wp P o a w K' Q else K' (a.put o.dst undef) w)
  (hr : Region.ready md ops listed = [i] := by kernel_rfl) (ho : ops[i]? = some o := by rfl) : lX P md ops Q S E (fuel + 1) listed a w := OM hr ho h
def KC (md : Region.Mode) (ops : Array Oper) (E : List Nat) (l : Array Bool) (i : Nat) : Bool := Region.noSelect ops && (Region.free md ops l i && ((Region.ready md ops l).contains i && tN md ops l i E))
theorem Iq {i : Nat} {o : Oper} {v : Value} {fuel : Nat} {l l2 : Array Bool} {a a2 : Act} {w : World} (g : ops[i]? = some o) (c : KC md ops E l i = true) (hw : Region.wanted o (yielded ops a.tmps) = true) (y : ∀ w, S w → (execOp a.eval o).run P w = .ok (.value v) w) (hS : S w) (n : l.setIfInBounds i true = l2 ∧ a.put o.dst v = a2)
    (q : ∀ d v c a w, Q (.panic c) (Act.put a d v) w → Q (.panic c) a w) (h : lX P md ops Q S E fuel l2 a2 w) : lX P md ops Q S E (fuel + 1) l a w := by
  simp only [KC, Bool.and_eq_true] at c
  obtain ⟨rfl, rfl⟩ := n
  exact lF g c.1 c.2.1 c.2.2.1 c.2.2.2 (q _ _) (Or.inl ⟨hw, y⟩) hS h
theorem Ir {i : Nat} {o : Oper} {fuel : Nat} {l l2 : Array Bool} {a a2 : Act} {w : World} (g : ops[i]? = some o) (c : KC md ops E l i = true) (hw : Region.wanted o (yielded ops a.tmps) = false) (hS : S w) (n : l.setIfInBounds i true = l2 ∧ a.put o.dst undef = a2)
    (q : ∀ d v c a w, Q (.panic c) (Act.put a d v) w → Q (.panic c) a w) (h : lX P md ops Q S E fuel l2 a2 w) : lX P md ops Q S E (fuel + 1) l a w := by
  simp only [KC, Bool.and_eq_true] at c
  obtain ⟨rfl, rfl⟩ := n
  exact lF g c.1 c.2.1 c.2.2.1 c.2.2.2 (q _ _) (Or.inr ⟨hw, rfl⟩) hS h
theorem ek (i0 i1 i2 i3 : Nat) {o0 o1 o2 o3 : Oper} {fuel : Nat} {l0 l1 l2 l3 l4 : Array Bool} {a0 a1 a2 a3 a4 : Act} {w : World} (h : lX P md ops Q S E fuel l4 a4 w)
    (g0 : ops[i0]? = some o0 := by rfl) (c0 : KC md ops E l0 i0 = true := by kernel_rfl) (w0 : Region.wanted o0 (yielded ops a0.tmps) = false := by rfl) (n0 : l0.setIfInBounds i0 true = l1 ∧ a0.put o0.dst undef = a1 := by refine ⟨?_, ?_⟩ <;> (try simp only [qq]) <;> rfl)
    (g1 : ops[i1]? = some o1 := by rfl) (c1 : KC md ops E l1 i1 = true := by kernel_rfl) (w1 : Region.wanted o1 (yielded ops a1.tmps) = false := by rfl) (n1 : l1.setIfInBounds i1 true = l2 ∧ a1.put o1.dst undef = a2 := by refine ⟨?_, ?_⟩ <;> (try simp only [qq]) <;> rfl)
    (g2 : ops[i2]? = some o2 := by rfl) (c2 : KC md ops E l2 i2 = true := by kernel_rfl) (w2 : Region.wanted o2 (yielded ops a2.tmps) = false := by rfl) (n2 : l2.setIfInBounds i2 true = l3 ∧ a2.put o2.dst undef = a3 := by refine ⟨?_, ?_⟩ <;> (try simp only [qq]) <;> rfl)
    (g3 : ops[i3]? = some o3 := by rfl) (c3 : KC md ops E l3 i3 = true := by kernel_rfl) (w3 : Region.wanted o3 (yielded ops a3.tmps) = false := by rfl) (n3 : l3.setIfInBounds i3 true = l4 ∧ a3.put o3.dst undef = a4 := by refine ⟨?_, ?_⟩ <;> (try simp only [qq]) <;> rfl)
    (S0 : S w := by assumption) (q : ∀ d v c a w, Q (.panic c) (Act.put a d v) w → Q (.panic c) a w := by first | exact fun _ _ _ _ _ h => h | (intro d v c a w h; cases d <;> exact h)) : lX P md ops Q S E (fuel + 4) l0 a0 w := Ir g0 c0 w0 S0 n0 q (Ir g1 c1 w1 S0 n1 q (Ir g2 c2 w2 S0 n2 q (Ir g3 c3 w3 S0 n3 q h)))
theorem aU (i0 i1 i2 i3 : Nat) {o0 o1 o2 o3 : Oper} {v0 v1 v2 v3 : Value} {fuel : Nat} {l0 l1 l2 l3 l4 : Array Bool} {a0 a1 a2 a3 a4 : Act} {w : World} (h : lX P md ops Q S E fuel l4 a4 w)
    (g0 : ops[i0]? = some o0 := by rfl) (c0 : KC md ops E l0 i0 = true := by kernel_rfl) (w0 : Region.wanted o0 (yielded ops a0.tmps) = true := by rfl) (y0 : ∀ w, S w → (execOp a0.eval o0).run P w = .ok (.value v0) w := by intro wS hSw; have zS := hO.out wS hSw; go_simp <;> with_reducible rfl) (n0 : l0.setIfInBounds i0 true = l1 ∧ a0.put o0.dst v0 = a1 := by refine ⟨?_, ?_⟩ <;> (try simp only [qq]) <;> rfl)
    (g1 : ops[i1]? = some o1 := by rfl) (c1 : KC md ops E l1 i1 = true := by kernel_rfl) (w1 : Region.wanted o1 (yielded ops a1.tmps) = true := by rfl) (y1 : ∀ w, S w → (execOp a1.eval o1).run P w = .ok (.value v1) w := by intro wS hSw; have zS := hO.out wS hSw; go_simp <;> with_reducible rfl) (n1 : l1.setIfInBounds i1 true = l2 ∧ a1.put o1.dst v1 = a2 := by refine ⟨?_, ?_⟩ <;> (try simp only [qq]) <;> rfl)
    (g2 : ops[i2]? = some o2 := by rfl) (c2 : KC md ops E l2 i2 = true := by kernel_rfl) (w2 : Region.wanted o2 (yielded ops a2.tmps) = true := by rfl) (y2 : ∀ w, S w → (execOp a2.eval o2).run P w = .ok (.value v2) w := by intro wS hSw; have zS := hO.out wS hSw; go_simp <;> with_reducible rfl) (n2 : l2.setIfInBounds i2 true = l3 ∧ a2.put o2.dst v2 = a3 := by refine ⟨?_, ?_⟩ <;> (try simp only [qq]) <;> rfl)
    (g3 : ops[i3]? = some o3 := by rfl) (c3 : KC md ops E l3 i3 = true := by kernel_rfl) (w3 : Region.wanted o3 (yielded ops a3.tmps) = true := by rfl) (y3 : ∀ w, S w → (execOp a3.eval o3).run P w = .ok (.value v3) w := by intro wS hSw; have zS := hO.out wS hSw; go_simp <;> with_reducible rfl) (n3 : l3.setIfInBounds i3 true = l4 ∧ a3.put o3.dst v3 = a4 := by refine ⟨?_, ?_⟩ <;> (try simp only [qq]) <;> rfl)
    (S0 : S w := by assumption) (q : ∀ d v c a w, Q (.panic c) (Act.put a d v) w → Q (.panic c) a w := by first | exact fun _ _ _ _ _ h => h | (intro d v c a w h; cases d <;> exact h)) : lX P md ops Q S E (fuel + 4) l0 a0 w := Iq g0 c0 w0 y0 S0 n0 q (Iq g1 c1 w1 y1 S0 n1 q (Iq g2 c2 w2 y2 S0 n2 q (Iq g3 c3 w3 y3 S0 n3 q h)))
theorem mR (i : Nat) {o : Oper} {fuel : Nat} {listed : Array Bool} {a : Act} {w : World}
  (h : ∀ K' : Act → World → Prop, Shut (∀ a w, lX P md ops Q S E fuel (listed.setIfInBounds i true) a w → K' a w) → if Region.wanted o (yielded ops a.tmps) = true then Oper.wp P o a w K' Q else K' (a.put o.dst undef) w)
  (hr : Region.ready md ops listed = [i] := by kernel_rfl) (hE : i ∈ E := by simp) (ho : ops[i]? = some o := by rfl) : lX P md ops Q S E (fuel + 1) listed a w := KR hr hE ho h
theorem gH {fuel : Nat} {listed : Array Bool} {a : Act} {w : World} (h : Q .normal a w) (hr : Region.ready md ops listed = [] := by kernel_rfl) : lX P md ops Q S E fuel listed a w := KS hr h fuel
theorem wU {id : Nat} {a : Act} {w : World} (B : World → Prop) (E : List Nat) (hS : Hid (B w.drew)) (h : Hid (B w.drew) → lX P .any ops Q (fun u => Hid (B u)) E ops.size (Array.replicate ops.size false) a w.drew)
  (hm : P.follows .mixedOrders = true := by kernel_rfl) : (Code.region id ops true).wp P Q a w := bJ hm hS h
theorem iW {id : Nat} {a : Act} {w b : World} (E : List Nat) (hS : Hid (Below b.heap.size b w)) (h : Hid (Below b.heap.size b w.drew) → lX P .any ops Q (fun u => Hid (Below b.heap.size b u)) E ops.size (Array.replicate ops.size false) a w.drew)
  (hm : P.follows .mixedOrders = true := by kernel_rfl) : (Code.region id ops true).wp P Q a w := bJ hm (bF hS (Below.refl _ _).drew) h
end
namespace si
def Cg (q a b : Int) : Prop := ∃ t, a = b + q * t
theorem Cg.refl (q a : Int) : Cg q a a := ⟨0, by simp⟩
theorem Cg.symm {q a b : Int} (h : Cg q a b) : Cg q b a := by obtain ⟨t, h⟩ := h; exact ⟨-t, by rw [h]; grind⟩
theorem Cg.trans {q a b c : Int} (h : Cg q a b) (h2 : Cg q b c) : Cg q a c := by obtain ⟨t, h⟩ := h; obtain ⟨s, h2⟩ := h2; exact ⟨s + t, by rw [h, h2]; grind⟩
theorem Cg.add {q a b c d : Int} (h : Cg q a b) (h2 : Cg q c d) : Cg q (a + c) (b + d) := by obtain ⟨t, h⟩ := h; obtain ⟨s, h2⟩ := h2; exact ⟨s + t, by rw [h, h2]; grind⟩
theorem Cg.eq {q a b : Int} (h : Cg q a b) : a % q = b % q := by obtain ⟨t, h⟩ := h; rw [h, Int.add_mul_emod_self_left]
def gp (xs : Nat → Int) (x : Int) : Nat → Int
 | 0 => 1
 | m + 1 => gp xs x m * (x - xs m)
def pv : List Int → Int → Int
 | [], _ => 0
 | c :: t, x => c + x * pv t x
def hv (q : Int) : List Int → Int → Int
 | [], _ => 0
 | c :: t, x => (hv q t x * x % q + c) % q
end si
open Go.RowKit si
theorem pow_eq (a e m v : Int) (hv : Hid (pw a e m = v)) (h1 : 1 ≤ m) (h2 : m < 2305843009213693952) (ha0 : 0 ≤ a) (ha : a < m) (he0 : 0 ≤ e) (he : e < 9223372036854775808) (w : World) :
  Calls Tryz.prog 105 #[.int .i64 a, .int .i64 e, .int .i64 m] w fun e' w' => e' = .returned (.tuple #[.int .i64 v, .int .i64 0]) ∧ ∃ n, w' = w.drewN n := by
 rw [← hv.out]; exact zn a e m h1 h2 ha0 ha he0 he w
theorem BL (a b m v : Int) (hv : Hid (a * b % m = v)) (h2 : m < 2305843009213693952) (ha0 : 0 ≤ a) (ha : a < m) (hb0 : 0 ≤ b) (hb : b < m) (w : World) :
  Calls Tryz.prog 35 #[.int .i64 a, .int .i64 b, .int .i64 m] w fun e w' => e = .returned (.tuple #[.int .i64 v, .int .i64 0]) ∧ ∃ n, w' = w.drewN n := by
 rw [← hv.out]; exact Ib a b m h2 ha0 ha hb0 hb w
def dH (P : Int) : Int → List Int → List Int → Int
 | acc, x :: xs, e :: es => dH P (acc * pw x e P % P) xs es
 | acc, _, _ => acc
theorem zm {P acc : Int} {k : Nat} {xs es : List Int} (hk : k < xs.length) (he : k < es.length) :
  dH P acc (xs.drop k) (es.drop k) = dH P (acc * pw (xs.getD k 0) (es.getD k 0) P % P) (xs.drop (k + 1)) (es.drop (k + 1)) := by
 rw [List.drop_eq_getElem_cons hk, List.drop_eq_getElem_cons he, dH, List.getD_eq_getElem?_getD, List.getElem?_eq_getElem hk, List.getD_eq_getElem?_getD, List.getElem?_eq_getElem he]
 rfl
theorem xL {P s V : Int} {xs es : List Int} (h : Hid (dH P s xs es = V)) : Hid (dH P s (xs.drop 0) (es.drop 0) = V) := aa (by
 rw [List.drop_zero, List.drop_zero]
 exact h.out)
theorem Bd {P acc V : Int} {k : Nat} {xs es : List Int} (hn : xs.length = k) (h : Hid (dH P acc (xs.drop k) (es.drop k) = V)) : acc = V := by
 have h2 := h.out
 rw [← hn, List.drop_length] at h2
 exact h2
theorem BR {Q x : Int} (h : jV Q x = true) : 0 ≤ x := by simp [jV] at h; exact h.1
theorem FN {Q x : Int} (h : jV Q x = true) : x < Q := by simp [jV] at h; exact h.2
theorem Cn (P Q G start : Int) (A : Option Addr) (xs : List Int) (n c : Nat) (E : Option Addr) (es : List Int) (m d : Nat) (V : Int) (hV : Hid (dH P start xs es = V)) (hn : Hid (xs.length = n)) (hm : Hid (es.length = m)) (hnm : n ≤ m) (hbig : m < 1000000)
  (hx : Hid (xs.all (aW P Q) = true)) (he : Hid (es.all (jV Q) = true)) (hp2 : 2 ≤ P) (hp : P < 2305843009213693952) (hQ : Q < 9223372036854775808) (hs0 : 0 ≤ start) (hs1 : start < P) (w : World) (hA : Hid (Sl w A xs)) (hE : Hid (Sl w E es)) :
  Calls Tryz.prog 269 #[gv P Q G, .int .i64 start, .slice A n c, .slice E m d] w (Rt w (.int .i64 V)) := by
 have bT := aa (af w (bq P Q G))
 have HX0 := aa (a_ w P Q G)
 have yR := aa (hA.out.below bT.out)
 have R6 := aa (hE.out.below bT.out)
 obtain ⟨W, hW⟩ : ∃ W, w.alloc (bq P Q G) = W := ⟨_, rfl⟩
 rw [hW] at HX0 yR R6 bT
 have HW := aa hW
 clear hW hA hE
 go_in
 go_wp2
 rw [HW.out]
 go_loopw [9, 17] (fun y i wr => ∃ (k : Nat) (acc : Int), k ≤ n ∧ y = .int .i64 acc ∧ i = .int .i64 k ∧ 0 ≤ acc ∧ acc < P ∧ Hid (dH P acc (xs.drop k) (es.drop k) = V) ∧ Hid (Below W.heap.size W wr)) (fun _ i _ => n - (intOf i).toNat)
 case atStart => exact ⟨0, start, by omega, rfl, rfl, by omega, by omega, xL hV, aa (Below.refl _ _)⟩
 case round =>
  obtain ⟨k, acc, hk, rfl, rfl, a0, a1, HJ, aF⟩ := hrel
  by_cases hlt : k < n
  ·
   have hkl : k < xs.length := by rw [hn.out]; exact hlt
   have hkm : k < m := by omega
   have hke : k < es.length := by rw [hm.out]; exact hkm
   obtain ⟨b, o, hA, hi0⟩ := yR.out.below aF.out k hkl
   obtain ⟨b2, o2, hE, hi1⟩ := R6.out.below aF.out k hke
   subst hA
   subst hE
   obtain ⟨c0, c1, c2⟩ := HX0.out.below aF.out
   have hm1 := kU hx.out hkl
   have hm2 := kU he.out hke
   have hst := zm (P := P) (acc := acc) hkl hke
   obtain ⟨x, Xb⟩ : ∃ x, xs.getD k 0 = x := ⟨_, rfl⟩
   obtain ⟨ex, hee⟩ : ∃ x, es.getD k 0 = x := ⟨_, rfl⟩
   rw [Xb] at hi0 hm1 hst
   rw [hee] at hi1 hm2 hst
   have x0 := iY hm1
   have x1 := iZ hm1
   have e0 := BR hm2
   have e1 := FN hm2
   obtain ⟨p, hp1⟩ : ∃ p, pw x ex P = p := ⟨_, rfl⟩
   obtain ⟨p0, p1⟩ : 0 ≤ p ∧ p < P := by rw [← hp1]; exact zl _ _ _ (by omega)
   rw [hp1] at hst
   obtain ⟨zQ, hac⟩ : ∃ a, acc * p % P = a := ⟨_, rfl⟩
   rw [hac] at hst
   have q0 : 0 ≤ zQ := by rw [← hac]; exact Int.emod_nonneg _ (by omega)
   have q1 : zQ < P := by rw [← hac]; exact Int.emod_lt_of_pos _ (by omega)
   have HJ2 : Hid (dH P zQ (xs.drop (k + 1)) (es.drop (k + 1)) = V) := aa (hst.symm.trans HJ.out)
   have Vi := aa hp1
   have Zk := aa hac
   clear hm1 hm2 hst Xb hee hp1 hac hkl hke HJ
   go_wp2
   go_quiet ((go_at_call 105; exact Calls.quiet_of (pow_eq x ex P p Vi (by omega) hp (by omega) x1 e0 (by omega) _)))
   go_wp2_with fail
   refine (BL acc p P zQ Zk hp a0 a1 p0 p1 _).mono ?_
   rintro e w' ⟨rfl, n3, rfl⟩
   have HB2 : Hid (Below W.heap.size W (wr.drewN (nq + n3))) := aa (aG aF.out _)
   go_wp2
   go_roundw
   case rel => exact ⟨k + 1, zQ, by omega, rfl, by go_num, q0, q1, HJ2, HB2⟩
   case measure => simp [intOf]; omega
  ·
   obtain rfl : k = n := by omega
   obtain rfl := Bd hn.out HJ
   have bV := ag bT.out aF.out
   clear HJ hlt
   go_wp2
   go_ret
   exact ⟨rfl, bV⟩
theorem jM.keep {w w' : World} {B : Nat} {v : Value} {xs : List Int} (h : jM w B v xs) (hb : Below w.heap.size w w') : jM w' B v xs := by
 obtain ⟨h1, h2⟩ := h
 refine ⟨h1, h2.imp id ?_⟩
 rintro ⟨g, cap, cur, rfl, hg, hh, rest⟩
 exact ⟨g, cap, cur, rfl, hg, (hb.block g (Array.getElem?_eq_some_iff.1 hh).1).trans hh, rest⟩
theorem jM.mono {w : World} {B B' : Nat} {v : Value} {xs : List Int} (h : jM w B v xs) (hb : B' ≤ B) : jM w B' v xs := by
 obtain ⟨h1, h2⟩ := h
 refine ⟨h1, h2.imp id ?_⟩
 rintro ⟨g, cap, cur, rfl, hg, rest⟩
 exact ⟨g, cap, cur, rfl, by omega, rest⟩
theorem BP {f : Row → Int} {rows : List Row} {k : Nat} (hk : k < rows.length) : (rows.take (k + 1)).map f = (rows.take k).map f ++ [f (rows.getD k di)] := by
 rw [List.take_add_one, List.map_append, List.getElem?_eq_getElem hk, List.getD_eq_getElem?_getD, List.getElem?_eq_getElem hk]
 rfl
theorem DI {f : Row → Int} {rows : List Row} {k : Nat} (hk : k ≤ rows.length) : ((rows.take k).map f).length = k := by
 rw [List.length_map, List.length_take]; omega
theorem qf {f : Row → Bool} {xs : List Row} (h : xs.all f = true) {k : Nat} (hk : k < xs.length) : f (xs.getD k di) = true := by
 rw [List.getD_eq_getElem?_getD, List.getElem?_eq_getElem hk]
 exact List.all_eq_true.1 h _ (List.getElem_mem hk)
def CY (zs : List Int) (w : World) (e : Ending) (w' : World) : Prop := ∃ v, e = .returned v ∧ jM w' w.heap.size v zs ∧ Below w.heap.size w w'
theorem Au (P Q G : Int) (A : Option Addr) (rows : List Row) (n c : Nat) (E : Option Addr) (es : List Int) (m d : Nat) (hn : Hid (rows.length = n)) (hm : Hid (es.length = m)) (hbig : m < 1000000) (adq : n < 1000000)
  (hx : Hid (rows.all (nA P Q m) = true)) (he : Hid (es.all (jV Q) = true)) (hp2 : 2 ≤ P) (hp : P < 2305843009213693952) (hQ : Q < 9223372036854775808) (w : World) (hA : Hid (Rw w A rows)) (hE : Hid (Sl w E es)) :
  Calls Tryz.prog 259 #[gv P Q G, .slice A n c, .slice E m d] w (CY (rows.map fun r => dH P 1 r.xs es) w) := by
 obtain ⟨i0, hi, hz0, hz1, hz2⟩ := info_parts PX
 have bT := aa (af w (bq P Q G))
 have HX0 := aa (a_ w P Q G)
 have yR := aa (hA.out.below bT.out)
 have R6 := aa (hE.out.below bT.out)
 obtain ⟨W, hW⟩ : ∃ W, w.alloc (bq P Q G) = W := ⟨_, rfl⟩
 rw [hW] at HX0 yR R6 bT
 have HW := aa hW
 clear hW hA hE
 go_in
 go_wp2
 rw [HW.out]
 go_loopw [7, 12] (fun v i wr => ∃ k : Nat, k ≤ n ∧ i = .int .i64 k ∧ Hid (jM wr W.heap.size v ((rows.take k).map fun r => dH P 1 r.xs es)) ∧ Hid (Below W.heap.size W wr)) (fun _ i _ => n - (intOf i).toNat)
 case atStart => exact ⟨0, by omega, rfl, aa (LV _ _), aa (Below.refl _ _)⟩
 case round =>
  obtain ⟨k, hk, rfl, HO, aF⟩ := hrel
  by_cases hlt : k < n
  ·
   have hkl : k < rows.length := by rw [hn.out]; exact hlt
   obtain ⟨⟨b, o, hA, hi0⟩, hok⟩ := yR.out.below aF.out k hkl
   subst hA
   obtain ⟨c0, c1, c2⟩ := HX0.out.below aF.out
   have HEr := aa (R6.out.below aF.out)
   have hrb := qf hx.out hkl
   have HTS := aa (BP (f := fun r => dH P 1 r.xs es) hkl)
   obtain ⟨R, hR⟩ : ∃ R, rows.getD k di = R := ⟨_, rfl⟩
   rw [hR] at hi0 hrb hok HTS
   obtain ⟨p, rn, rc, xs⟩ := R
   simp only [nA, Bool.and_eq_true, decide_eq_true_eq] at hrb
   obtain ⟨rfl, hmx⟩ := hrb
   have HL := aa hok.1
   have HS := aa hok.2
   have HMX := aa hmx
   obtain ⟨V, hV⟩ : ∃ V, dH P 1 xs es = V := ⟨_, rfl⟩
   have RU := aa hV
   have abD : Hid ((rows.take (k + 1)).map (fun r => dH P 1 r.xs es) = (rows.take k).map (fun r => dH P 1 r.xs es) ++ [V]) := aa (by rw [HTS.out, ← hV])
   have yM := aa (DI (f := fun r => dH P 1 r.xs es) (Nat.le_of_lt hkl))
   dsimp only [Row.val] at hi0
   clear hR hok hmx hV hkl HTS
   go_wp2_with fail
   refine (Cn P Q G 1 p xs rn rc E es rn d V RU HL hm (Nat.le_refl _) hbig HMX he hp2 hp hQ (by omega) (by omega) _ HS HEr).mono ?_
   rintro e w2 ⟨rfl, hb0⟩
   have Fu := aa (HO.out.keep hb0)
   have HB1 := aa (ag aF.out hb0)
   have hown : w2.ownsRow W.heap.size 3 1 u7 k (((rows.take k).map fun r => dH P 1 r.xs es).map (Value.int .i64)) := by
    have h3 := Fu.out
    unfold jM at h3
    rwa [yM.out] at h3
   have hbs := HB1.out.size
   clear hb0 c0 c1 c2 hi0 HO
   go_wp2_with (at_builtin; refine wpList_append_own _ rfl _ _ 24 rfl W.heap.size 3 i0 (.int .i64 0) 1 8 Tryz.underlying24 hi hz0 hz1 hz2 rfl (by decide) _ _ _ rfl (hown.alloc _) ⟨w2.heap.size, 0, none⟩ 1 1 [.int .i64 V] rfl rfl (cell_one_new _ _ _) (ints_oneCell .i64 [V]) (by unfold maxLen; omega) (by omega) (by simp; omega) ?_; intro v' w3 hown1 hgrow1 _)
   have uj : Hid (jM w3 W.heap.size v' ((rows.take (k + 1)).map fun r => dH P 1 r.xs es)) := aa (by
    rw [abD.out]
    exact jM.app yM.out.symm hown1)
   have HB2 : Hid (Below W.heap.size W w3) := aa (Fu.out.below HB1.out hbs hgrow1)
   clear hown hown1 hgrow1
   go_roundw
   case rel => exact ⟨k + 1, by omega, by go_num, uj, HB2⟩
   case measure => simp [intOf]; omega
  ·
   obtain rfl : k = n := by omega
   have HF : Hid (jM wr W.heap.size u7 (rows.map fun r => dH P 1 r.xs es)) := aa (by
    have h3 := HO.out
    rwa [← hn.out, List.take_length] at h3)
   have bV := ag bT.out aF.out
   have hsz := bT.out.size
   clear HO hlt
   go_wp2
   go_ret
   exact ⟨_, rfl, HF.out.mono hsz, bV⟩
theorem bM {P Q G : Int} {ys : List Int} {rows : List Row} (h : eZ P Q G ys rows = true) :
  bg P Q G = true ∧ 1 ≤ ys.length ∧ ys.length ≤ 8 ∧ rows.length = ys.length ∧ ys.all (aW P Q) = true ∧ 1 ≤ gD rows ∧ gD rows ≤ 12 ∧ rows.all (nA P Q (gD rows)) = true := by
 simp only [eZ, Bool.and_eq_true, decide_eq_true_eq] at h
 exact h
theorem iM {w : World} {b : Nat} {xs : List Int} (h : Cells w b xs) : Sl w (some ⟨b, 0, none⟩) xs := fun k hk => ⟨b, 0, rfl, by rw [Nat.zero_add]; exact h k hk⟩
theorem O4 {Q c : Int} (h0 : 0 ≤ c) (h1 : c < Q) : [c].all (jV Q) = true := by simp [jV]; omega
end Go.Proofs.YtchcllcbknfikaaGreatDoor
namespace Go.Proofs.YtchcllcbknfikaaGreatDoor
open Go.RowKit
theorem Ik {P : Program} {f : FuncId} {args : Array Value} {w : World} {n : Nat} {v : Value}
  (h : Calls P f args (w.drewN n) fun e w' => e = .returned v ∧ ∃ m, w' = (w.drewN n).drewN m) : Calls P f args (w.drewN n) fun e w'' => e = .returned v ∧ ∃ m, w'' = w.drewN m :=
 h.mono fun _ _ ⟨he, m, hm⟩ => ⟨he, n + m, by rw [hm, World.drewN_drewN]⟩
end Go.Proofs.YtchcllcbknfikaaGreatDoor