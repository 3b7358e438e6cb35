/- Contracts and lemmas: Sml, Slk, Sha, Byt, DigA, DigB, DigC, LawKitD, LinA, LinB, LinC, OpR, OpP, OpE, Held, Many, Bx, Nwt, RInv, LinD, LinE, LinF, Quiet. -/
import Derived.Deep.RegionHeld3
import Derived.WalkKit
import Derived.Laws.BitsAllLaws
import Derived.BigRegion
import Derived.Deep.WholeRow
import Derived.Deep.Cut
import Derived.ChangeMaps5
import Derived.Deep.Slices
import Derived.Deep.AppendLies
import Derived.Test.YtchcllcbknfikaaGreatDoorTv1
set_option linter.unusedVariables false
set_option linter.unusedSimpArgs false
set_option maxRecDepth 100000
set_option maxHeartbeats 25600000
namespace Go.Proofs.YtchcllcbknfikaaGreatDoor
open Go.RowKit rQ
theorem cell_below {w w' : World} {p : Addr} {v : Value} (h : w.cell? p = some v) (hb : Below w.heap.size w w') : w'.cell? p = some v := (hb.cell (World.block_lt_of_cell? _ _ h)).trans h
theorem ig {f : Int → Bool} {xs : List Int} (h : xs.all f = true) {k : Nat} (hk : k < xs.length) : f (xs.getD k 0) = true := by
 rw [List.getD_eq_getElem?_getD, List.getElem?_eq_getElem hk]
 exact List.all_eq_true.1 h _ (List.getElem_mem hk)
abbrev z32 : Array Value := #[.int .u8 0, .int .u8 0, .int .u8 0, .int .u8 0, .int .u8 0, .int .u8 0, .int .u8 0, .int .u8 0, .int .u8 0, .int .u8 0, .int .u8 0, .int .u8 0, .int .u8 0, .int .u8 0, .int .u8 0, .int .u8 0, .int .u8 0, .int .u8 0, .int .u8 0, .int .u8 0, .int .u8 0, .int .u8 0, .int .u8 0, .int .u8 0, .int .u8 0, .int .u8 0, .int .u8 0, .int .u8 0, .int .u8 0, .int .u8 0, .int .u8 0, .int .u8 0]
def Own (w : World) (p : Addr) (v : Value) : Prop := w.cell? p = some v ∧ w.frozen? p = false
theorem Own.below {w w' : World} {p : Addr} {v : Value} (h : Own w p v) (hb : Below w.heap.size w w') : Own w' p v :=
 ⟨cell_below h.1 hb, (hb.frozen (World.block_lt_of_cell? _ _ h.1)).trans h.2⟩
theorem dz {w : World} {cs : Array Value} {T : TypeId} {n j : Nat} {v : Value} (hn : w.heap.size = n) (hj : cs[j]? = some v) : (w.alloc (.cells cs T)).cell? ⟨n, j, none⟩ = some v := by
 subst hn
 exact (World.cell?_alloc_at _ _ _ _ rfl).trans hj
theorem Gt {w : World} {cs : Array Value} {T : TypeId} {n j : Nat} {v : Value} (hn : w.heap.size = n) (hj : cs[j]? = some v) : Own (w.alloc (.cells cs T)) ⟨n, j, none⟩ v := by
 refine ⟨dz hn hj, ?_⟩
 subst hn
 exact aX (heap_alloc_new w _) _
def W_ (xs : List Int) (n : Nat) (w : World) (e : Ending) (w' : World) : Prop := ∃ A c, e = .returned (.slice A n c) ∧ Sl w' A xs ∧ (0 < xs.length → ∃ g, A = some ⟨g, 0, none⟩ ∧ w.heap.size ≤ g) ∧ Below w.heap.size w w'
theorem sl0 (w : World) (A : Option Addr) : Sl w A [] := fun k hk => absurd hk (by simp)
theorem fT.sl {w : World} {B : Nat} {v : Value} {xs : List Int} (h : fT w B v xs) : ∃ A c, v = .slice A xs.length c ∧ Sl w A xs ∧ (0 < xs.length → ∃ g, A = some ⟨g, 0, none⟩ ∧ B ≤ g) := by
 by_cases h0 : 0 < xs.length
 ·
  obtain ⟨g, cap, rfl, hg, hc⟩ := fT.cells h h0
  exact ⟨some ⟨g, 0, none⟩, cap, rfl, fun k hk => ⟨g, 0, rfl, by rw [Nat.zero_add]; exact hc k hk⟩, fun _ => ⟨g, rfl, hg⟩⟩
 ·
  have e : xs = [] := List.eq_nil_of_length_eq_zero (by omega)
  subst e
  obtain ⟨_, h2⟩ := h
  rcases h2 with ⟨hv, _⟩ | ⟨g, cap, cur, hv, _⟩
  · exact ⟨none, 0, hv, sl0 _ _, fun h => absurd h (by simp)⟩
  · exact ⟨_, cap, hv, sl0 _ _, fun h => absurd h (by simp)⟩
theorem Sl.at0 {w : World} {A : Option Addr} {xs : List Int} (h : Sl w A xs) (h0 : 0 < xs.length) : ∃ b o, A = some ⟨b, o, none⟩ ∧ ∀ j, j < xs.length → w.cell? ⟨b, o + j, none⟩ = some (.int .i64 (xs.getD j 0)) := by
 obtain ⟨b, o, rfl, _⟩ := h 0 h0
 exact ⟨b, o, rfl, fun j hj => by
  obtain ⟨b', o', e, hc⟩ := h j hj
  cases e
  exact hc⟩
theorem za (A : Option Addr) (xs : List Int) (n c : Nat) (hn : Hid (xs.length = n)) (hbig : n < 1000000) (w : World) (hA : Hid (Sl w A xs)) :
  Calls Tryz.prog 153 #[.slice A n c] w (W_ xs n w) := by
 have hn' := hn.out
 by_cases h0 : n = 0
 ·
  have e1 := List.eq_nil_of_length_eq_zero (hn'.trans h0)
  subst e1
  subst h0
  cases A with
  | none =>
   refine (Tryz.slices_Clone_int_nil 0 c w).mono ?_
   rintro e w' ⟨rfl, rfl⟩
   exact ⟨none, 0, rfl, sl0 _ _, fun h => absurd h (by simp), Below.refl _ _⟩
  | some a =>
   refine (Tryz.slices_Clone_int_zero a c w).mono ?_
   rintro e w' ⟨v', rfl, ho, _, hb⟩
   obtain ⟨B, cc, hv, hs, hg⟩ := fT.sl (xs := []) ho
   exact ⟨B, cc, by rw [hv]; rfl, hs, hg, hb⟩
 ·
  obtain ⟨b1, o1, rfl, hc1⟩ := hA.out.at0 (by omega)
  refine (Tryz.slices_Clone_int b1 o1 n c xs w (by omega) (by omega) hc1).mono ?_
  rintro e w' ⟨v', rfl, ho, _, hb⟩
  rw [List.take_of_length_le (by omega), ← hn'] at ho
  obtain ⟨B, cc, hv, hs, hg⟩ := fT.sl (xs := xs) ho
  exact ⟨B, cc, by rw [hv, hn'], hs, hg, hb⟩
end Go.Proofs.YtchcllcbknfikaaGreatDoor
namespace Go.Proofs.YtchcllcbknfikaaGreatDoor
open Go.RowKit
structure Kp (p : Prop) : Prop where
 out : p
def iA (x : Int) (n : Nat) : Int := bits .or .u32 (x / 2 ^ n) (IntKind.u32.wrap (x * 2 ^ (32 - n)))
def Rn (x : Int) : Int := bits .xor .u32 (bits .xor .u32 (iA x 7) (iA x 18)) (x / 8)
def Rm (x : Int) : Int := bits .xor .u32 (bits .xor .u32 (iA x 17) (iA x 19)) (x / 1024)
def add32 (x y : Int) : Int := IntKind.u32.wrap (x + y)
def Kj (l : List Int) : Int := add32 (add32 (add32 (l.getD (l.length - 16) 0) (Rn (l.getD (l.length - 15) 0))) (l.getD (l.length - 7) 0)) (Rm (l.getD (l.length - 2) 0))
def l9 : Nat → List Int → List Int
 | 0, l => l
 | n + 1, l => l9 n l ++ [Kj (l9 n l)]
def pX (b : List Int) (i : Nat) : Int := b.getD i 0
def CO (b : List Int) (i : Nat) : Int := ((pX b (4 * i) * 256 + pX b (4 * i + 1)) * 256 + pX b (4 * i + 2)) * 256 + pX b (4 * i + 3)
def dA (b : List Int) (n : Nat) : List Int := (List.range n).map (CO b)
def dL (b : List Int) : List Int := l9 48 (dA b 16)
theorem eT (b : List Int) (n : Nat) : (dA b n).length = n := by simp [dA]
theorem vU (b : List Int) (n : Nat) : dA b (n + 1) = dA b n ++ [CO b n] := by simp [dA, List.range_succ]
theorem yo (n : Nat) (l : List Int) : (l9 n l).length = l.length + n := by
 induction n with
 | zero => rfl
 | succ n ih => rw [l9, List.length_append, ih]; rfl
theorem ja (b : List Int) : (dL b).length = 64 := by rw [dL, yo, eT]
structure St where
 (a b c d e f g h : Int)
def Yh (x : Int) : Int := bits .xor .u32 (bits .xor .u32 (iA x 2) (iA x 13)) (iA x 22)
def Yg (x : Int) : Int := bits .xor .u32 (bits .xor .u32 (iA x 6) (iA x 11)) (iA x 25)
def VH (x : Int) : Int := bits .xor .u32 4294967295 x
def Yy (e f g : Int) : Int := bits .xor .u32 (bits .and .u32 e f) (bits .and .u32 (VH e) g)
def Yk (a b c : Int) : Int := bits .xor .u32 (bits .xor .u32 (bits .and .u32 a b) (bits .and .u32 a c)) (bits .and .u32 b c)
def OE (s : St) (k w : Int) : Int := add32 (add32 (add32 (add32 s.h (Yg s.e)) (Yy s.e s.f s.g)) k) w
def Vr (s : St) : Int := add32 (Yh s.a) (Yk s.a s.b s.c)
def Vs (s : St) (k w : Int) : St := ⟨add32 (OE s k w) (Vr s), s.a, s.b, s.c, add32 s.d (OE s k w), s.e, s.f, s.g⟩
def KL : List Int := [
  0x428a2f98, 0x71374491, 0xb5c0fbcf, 0xe9b5dba5, 0x3956c25b, 0x59f111f1, 0x923f82a4, 0xab1c5ed5,
  0xd807aa98, 0x12835b01, 0x243185be, 0x550c7dc3, 0x72be5d74, 0x80deb1fe, 0x9bdc06a7, 0xc19bf174,
  0xe49b69c1, 0xefbe4786, 0x0fc19dc6, 0x240ca1cc, 0x2de92c6f, 0x4a7484aa, 0x5cb0a9dc, 0x76f988da,
  0x983e5152, 0xa831c66d, 0xb00327c8, 0xbf597fc7, 0xc6e00bf3, 0xd5a79147, 0x06ca6351, 0x14292967,
  0x27b70a85, 0x2e1b2138, 0x4d2c6dfc, 0x53380d13, 0x650a7354, 0x766a0abb, 0x81c2c92e, 0x92722c85,
  0xa2bfe8a1, 0xa81a664b, 0xc24b8b70, 0xc76c51a3, 0xd192e819, 0xd6990624, 0xf40e3585, 0x106aa070,
  0x19a4c116, 0x1e376c08, 0x2748774c, 0x34b0bcb5, 0x391c0cb3, 0x4ed8aa4a, 0x5b9cca4f, 0x682e6ff3,
  0x748f82ee, 0x78a5636f, 0x84c87814, 0x8cc70208, 0x90befffa, 0xa4506ceb, 0xbef9a3f7, 0xc67178f2]
def st0 : St := ⟨0x6a09e667, 0xbb67ae85, 0x3c6ef372, 0xa54ff53a, 0x510e527f, 0x9b05688c, 0x1f83d9ab, 0x5be0cd19⟩
def wT (ws : List Int) (s : St) : Nat → St
 | 0 => s
 | n + 1 => Vs (wT ws s n) (KL.getD n 0) (ws.getD n 0)
def PV (s t : St) : St := ⟨add32 s.a t.a, add32 s.b t.b, add32 s.c t.c, add32 s.d t.d, add32 s.e t.e, add32 s.f t.f, add32 s.g t.g, add32 s.h t.h⟩
def DC (s : St) (b : List Int) : St := PV s (wT (dL b) s 64)
def fG (p : List Int) (n : Nat) : List Int := (p.drop (64 * n)).take 64
def jZ (p : List Int) : Nat → St
 | 0 => st0
 | n + 1 => DC (jZ p n) (fG p n)
def qx (n : Int) : List Int := [n / 72057594037927936 % 256, n / 281474976710656 % 256, n / 1099511627776 % 256, n / 4294967296 % 256, n / 16777216 % 256, n / 65536 % 256, n / 256 % 256, n % 256]
def kR (n : Nat) : Nat := (119 - n % 64) % 64
def mU (b : List Int) : List Int := b ++ [128] ++ List.replicate (kR b.length) 0 ++ qx (8 * b.length)
def St.list (s : St) : List Int := [s.a, s.b, s.c, s.d, s.e, s.f, s.g, s.h]
def yP (v : Int) : List Int := [v / 16777216 % 256, v / 65536 % 256, v / 256 % 256, v % 256]
def mG (s : St) : List Int := yP s.a ++ yP s.b ++ yP s.c ++ yP s.d ++ yP s.e ++ yP s.f ++ yP s.g ++ yP s.h
def o_ (b : List Int) : List Int := mG (jZ (mU b) ((mU b).length / 64))
def tagged (tag b : List Int) : List Int := o_ (o_ tag ++ o_ tag ++ b)
def az (l : List Int) : Bool := l.all fun x => decide (0 ≤ x) && decide (x < 256)
theorem fH (n : Int) : (qx n).length = 8 := rfl
theorem f_ (b : List Int) : (o_ b).length = 32 := rfl
theorem dF (t b : List Int) : (tagged t b).length = 32 := rfl
theorem qL (b : List Int) : (mU b).length = b.length + 9 + kR b.length := by simp [mU, fH]; omega
theorem Du (b : List Int) : (mU b).length % 64 = 0 := by rw [qL, kR]; omega
theorem yQ (n : Int) : (decide (0 ≤ n % 256) && decide (n % 256 < 256)) = true := by simp; omega
theorem dG {a b : List Int} : az (a ++ b) = (az a && az b) := by simp [az]
theorem vQ (n : Int) : az (qx n) = true := by simp [az, qx, yQ]
theorem Fy (n : Int) : az (yP n) = true := by simp [az, yP, yQ]
theorem Fx (s : St) : az (mG s) = true := by simp only [mG, dG, Fy, Bool.and_self]
theorem iJ (b : List Int) : az (o_ b) = true := Fx _
theorem yM {b : List Int} (h : az b = true) : az (mU b) = true := by
 simp only [mU, dG, h, vQ, Bool.true_and, Bool.and_true]
 simp [az]
theorem iH {l : List Int} (h : az l = true) (i : Nat) : 0 ≤ l.getD i 0 ∧ l.getD i 0 < 256 := by
 by_cases hi : i < l.length
 ·
  have := List.all_eq_true.1 h _ (List.getElem_mem hi)
  rw [List.getD_eq_getElem?_getD, List.getElem?_eq_getElem hi]
  simpa using this
 · rw [List.getD_eq_getElem?_getD, List.getElem?_eq_none (by omega)]; simp
theorem Eu {l : List Int} (h : az l = true) (n : Nat) : az (l.take n) = true :=
 List.all_eq_true.2 fun x hx => List.all_eq_true.1 h x (List.mem_of_mem_take hx)
theorem Ev {l : List Int} (h : az l = true) (n : Nat) : az (l.drop n) = true :=
 List.all_eq_true.2 fun x hx => List.all_eq_true.1 h x (List.mem_of_mem_drop hx)
theorem sH {p : List Int} (h : az p = true) (n : Nat) : az (fG p n) = true := Eu (Ev h _) _
theorem wL {p : List Int} {n : Nat} (h : 64 * n + 64 ≤ p.length) : (fG p n).length = 64 := by simp [fG]; omega
theorem BU (a b : Int) : bits .or .u32 a b = bits .or .u32 b a := by
 simp only [bits]
 rw [BitVec.or_comm]
end Go.Proofs.YtchcllcbknfikaaGreatDoor
namespace Go.Proofs.YtchcllcbknfikaaGreatDoor
open Go.RowKit rQ
def Sk (K : IntKind) (w : World) (A : Option Addr) (xs : List Int) : Prop := ∀ j, j < xs.length → ∃ b o, A = some ⟨b, o, none⟩ ∧ w.cell? ⟨b, o + j, none⟩ = some (.int K (xs.getD j 0))
variable {K : IntKind}
theorem sk0 (w : World) (A : Option Addr) : Sk K w A [] := fun k hk => absurd hk (by simp)
theorem Sk.below {w w' : World} {A : Option Addr} {xs : List Int} (h : Sk K w A xs) (hb : Below w.heap.size w w') : Sk K w' A xs := fun k hk => by
 obtain ⟨b, o, h1, h2⟩ := h k hk
 exact ⟨b, o, h1, (hb.cell (World.block_lt_of_cell? _ _ h2)).trans h2⟩
theorem Sk.at0 {w : World} {A : Option Addr} {xs : List Int} (h : Sk K w A xs) (h0 : 0 < xs.length) : ∃ b o, A = some ⟨b, o, none⟩ ∧ ∀ j, j < xs.length → w.cell? ⟨b, o + j, none⟩ = some (.int K (xs.getD j 0)) := by
 obtain ⟨b, o, rfl, _⟩ := h 0 h0
 exact ⟨b, o, rfl, fun j hj => by
  obtain ⟨b', o', e, hc⟩ := h j hj
  cases e
  exact hc⟩
theorem Sk.lt {w : World} {b o : Nat} {xs : List Int} (h : Sk K w (some ⟨b, o, none⟩) xs) (h0 : 0 < xs.length) : b < w.heap.size := by
 obtain ⟨b', o', e, hc⟩ := h 0 h0
 cases e
 exact World.block_lt_of_cell? _ _ hc
theorem Sk.cell {w : World} {b o : Nat} {xs : List Int} (h : Sk K w (some ⟨b, o, none⟩) xs) {j : Nat} (hj : j < xs.length) : w.cell? ⟨b, o + j, none⟩ = some (.int K (xs.getD j 0)) := by
 obtain ⟨b', o', e, hc⟩ := h j hj
 cases e
 exact hc
theorem Sk.drop {w : World} {b o n : Nat} {xs : List Int} (h : Sk K w (some ⟨b, o, none⟩) xs) : Sk K w (some ⟨b, o + n, none⟩) (xs.drop n) := fun j hj => by
 rw [List.length_drop] at hj
 refine ⟨b, o + n, rfl, ?_⟩
 rw [Nat.add_assoc, h.cell (j := n + j) (by omega)]
 simp [List.getD_eq_getElem?_getD, List.getElem?_drop]
theorem Sk.take {w : World} {A : Option Addr} {n : Nat} {xs : List Int} (h : Sk K w A xs) : Sk K w A (xs.take n) := fun j hj => by
 rw [List.length_take] at hj
 obtain ⟨b, o, h1, h2⟩ := h j (by omega)
 refine ⟨b, o, h1, ?_⟩
 rw [h2]
 simp [List.getD_eq_getElem?_getD, List.getElem?_take_of_lt (show j < n by omega)]
theorem Sk.grown {w w1 : World} {row : Option Nat} {A : Option Addr} {xs : List Int} (h : Sk K w A xs) (hg : w.grownBy w1 row) (hne : ∀ b o, A = some ⟨b, o, none⟩ → 0 < xs.length → row ≠ some b) : Sk K w1 A xs := fun k hk => by
 obtain ⟨b, o, h1, h2⟩ := h k hk
 exact ⟨b, o, h1, hg.cell h2 (fun e => hne b o h1 (by omega) e.symm)⟩
theorem Sk.nil_of {w : World} {A : Option Addr} {xs : List Int} (h : xs.length = 0) : Sk K w A xs := fun k hk => by omega
def aQ (K : IntKind) (T : TypeId) (w : World) (base : Nat) (v : Value) (xs : List Int) : Prop := w.ownsRow base T 1 v xs.length (xs.map (Value.int K))
variable {T : TypeId}
theorem qM (w : World) (base : Nat) : aQ K T w base (.slice none 0 0) [] := World.ownsRow_nil _ _ _ _
theorem aQ.app {w1 : World} {base k : Nat} {v' : Value} {xs ys : List Int} {m : Nat} (hk : k = xs.length) (hm : m = ys.length)
  (h : w1.ownsRow base T 1 v' (k + m) (xs.map (Value.int K) ++ ys.map (Value.int K))) : aQ K T w1 base v' (xs ++ ys) := by
 unfold aQ
 rw [List.length_append, List.map_append, ← hk, ← hm]
 exact h
theorem aQ.below {w w1 wr : World} {B : Nat} {o : Obj} {v : Value} {xs : List Int} (h : aQ K T wr B v xs) (hb : Below B w wr) (hB : B ≤ wr.heap.size) (hg : (wr.alloc o).grownBy w1 v.ownBlock) : Below B w w1 :=
 (hb.alloc hB o).grown hg (by simp; omega) (fun j hj => (World.ownsRow.lt h j hj).1)
theorem aQ.below0 {w w1 wr : World} {B : Nat} {v : Value} {xs : List Int} (h : aQ K T wr B v xs) (hb : Below B w wr) (hB : B ≤ wr.heap.size) (hg : wr.grownBy w1 v.ownBlock) : Below B w w1 :=
 hb.grown hg (by omega) (fun j hj => (World.ownsRow.lt h j hj).1)
theorem aQ.cells {w : World} {B : Nat} {v : Value} {xs : List Int} (h : aQ K T w B v xs) (hne : 0 < xs.length) : ∃ g cap, v = .slice (some ⟨g, 0, none⟩) xs.length cap ∧ B ≤ g ∧ xs.length ≤ cap ∧ cap ≤ maxLen ∧ Sk K w (some ⟨g, 0, none⟩) xs := by
 obtain ⟨h1, h2⟩ := h
 rcases h2 with ⟨_, h0⟩ | ⟨g, cap, cur, rfl, hg, hh, hn, hc, hs, ht⟩
 · omega
 ·
  refine ⟨g, cap, rfl, hg, hn, hc, fun j hj => ⟨g, 0, rfl, ?_⟩⟩
  rw [Nat.zero_add, ak hh]
  have e : cur.toList[j]? = (xs.map (Value.int K))[j]? := by
   rw [← ht, List.getElem?_take_of_lt (by omega)]
  rw [← Array.getElem?_toList, e, List.getElem?_map, List.getElem?_eq_getElem hj, List.getD_eq_getElem?_getD, List.getElem?_eq_getElem hj]
  rfl
theorem aQ.sk {w : World} {B : Nat} {v : Value} {xs : List Int} (h : aQ K T w B v xs) : ∃ A c, v = .slice A xs.length c ∧ Sk K w A xs ∧ (0 < xs.length → ∃ g, A = some ⟨g, 0, none⟩ ∧ B ≤ g) ∧ xs.length ≤ c := by
 by_cases h0 : 0 < xs.length
 ·
  obtain ⟨g, cap, rfl, hg, hn, _, hc⟩ := aQ.cells h h0
  exact ⟨some ⟨g, 0, none⟩, cap, rfl, hc, fun _ => ⟨g, rfl, hg⟩, hn⟩
 ·
  have e : xs = [] := List.eq_nil_of_length_eq_zero (by omega)
  subst e
  obtain ⟨_, h2⟩ := h
  rcases h2 with ⟨hv, _⟩ | ⟨g, cap, cur, hv, _⟩
  · exact ⟨none, 0, hv, sk0 _ _, fun h => absurd h (by simp), by simp⟩
  · exact ⟨_, cap, hv, sk0 _ _, fun h => absurd h (by simp), by simp⟩
theorem aQ.keep {w w' : World} {B : Nat} {v : Value} {xs : List Int} (h : aQ K T w B v xs) (hb : Below w.heap.size w w') : aQ K T w' B v xs := by
 obtain ⟨h1, h2⟩ := h
 refine ⟨h1, h2.imp id ?_⟩
 rintro ⟨g, cap, cur, rfl, hg, hh, rest⟩
 exact ⟨g, cap, cur, rfl, hg, (hb.block g (Array.getElem?_eq_some_iff.1 hh).1).trans hh, rest⟩
theorem aQ.mono {w : World} {B B' : Nat} {v : Value} {xs : List Int} (h : aQ K T w B v xs) (hb : B' ≤ B) : aQ K T w B' v xs := by
 obtain ⟨h1, h2⟩ := h
 refine ⟨h1, h2.imp id ?_⟩
 rintro ⟨g, cap, cur, rfl, hg, rest⟩
 exact ⟨g, cap, cur, rfl, by omega, rest⟩
theorem aQ.kept {w w' : World} {row : Option Nat} {B : Nat} {v : Value} {xs : List Int} (h : aQ K T w B v xs) (hg : w.grownBy w' row) (hne : v.ownBlock = none ∨ v.ownBlock ≠ row) : aQ K T w' B v xs := World.ownsRow.kept h hg hne
theorem aQ.row {w : World} {B n : Nat} {v : Value} {xs : List Int} (h : aQ K T w B v xs) (hn : xs.length = n) : w.ownsRow B T 1 v n (xs.map (Value.int K)) := by
 subst hn; exact h
theorem aQ.lt {w : World} {B : Nat} {v : Value} {xs : List Int} (h : aQ K T w B v xs) (j : Nat) (hj : v.ownBlock = some j) : B ≤ j ∧ j < w.heap.size := World.ownsRow.lt h j hj
def zi (K : IntKind) (T : TypeId) (xs : List Int) (w : World) (e : Ending) (w' : World) : Prop := ∃ v, e = .returned v ∧ aQ K T w' w.heap.size v xs ∧ Below w.heap.size w w'
theorem F5 {xs ys : List Int} {j : Nat} (h : j < xs.length) : (xs ++ ys).getD j 0 = xs.getD j 0 := by
 simp [List.getD_eq_getElem?_getD, List.getElem?_append_left h]
theorem F4 {xs ys : List Int} {j : Nat} (h : xs.length ≤ j) : (xs ++ ys).getD j 0 = ys.getD (j - xs.length) 0 := by
 simp [List.getD_eq_getElem?_getD, List.getElem?_append_right h]
theorem take_one {xs : List Int} {k : Nat} (hk : k < xs.length) : xs.take (k + 1) = xs.take k ++ [xs.getD k 0] := by
 rw [List.take_add_one, List.getElem?_eq_getElem hk, List.getD_eq_getElem?_getD, List.getElem?_eq_getElem hk]
 rfl
def arr (K : IntKind) (l : List Int) : Array Value := (l.map (Value.int K)).toArray
theorem dJ (l : List Int) : (arr K l).size = l.length := by simp [arr]
def bB (K : IntKind) (T : TypeId) (w : World) (b : Nat) (l : List Int) : Prop := w.heap[b]? = some (.cells (arr K l) T (0, 0))
theorem bB.below {w w' : World} {b : Nat} {l : List Int} (h : bB K T w b l) (hb : Below w.heap.size w w') : bB K T w' b l :=
 (hb.block b (Array.getElem?_eq_some_iff.1 h).1).trans h
theorem bB.keepB {w w' : World} {b B : Nat} {l : List Int} (h : bB K T w b l) (hlt : b < B) (hb : Below B w w') : bB K T w' b l := (hb.block b hlt).trans h
theorem bB.lt {w : World} {b : Nat} {l : List Int} (h : bB K T w b l) : b < w.heap.size := (Array.getElem?_eq_some_iff.1 h).1
theorem xQ {l : List Int} {j : Nat} (hj : j < l.length) : (arr K l)[j]? = some (.int K (l.getD j 0)) := by
 simp [arr, List.getD_eq_getElem?_getD, List.getElem?_eq_getElem hj]
theorem bB.cell {w : World} {b j : Nat} {l : List Int} (h : bB K T w b l) (hj : j < l.length) : w.cell? ⟨b, j, none⟩ = some (.int K (l.getD j 0)) := (ak h j).trans (xQ hj)
theorem bB.free {w : World} {b : Nat} {l : List Int} (h : bB K T w b l) (j : Nat) : w.frozen? ⟨b, j, none⟩ = false := aX h j
theorem PT {l : List Int} {j : Nat} {v : Int} : (arr K l).setIfInBounds j (.int K v) = arr K (l.set j v) := by
 apply Array.ext'
 simp [arr, List.map_set]
theorem bB.set {w : World} {b j : Nat} {l : List Int} {v : Int} (h : bB K T w b l) : bB K T (w.setCell ⟨b, j, none⟩ (.int K v)) b (l.set j v) := by
 unfold bB
 rw [heap_setCell_same w b j _ T _ h, PT]
theorem bB.set_ne {w : World} {b a j : Nat} {l : List Int} {v : Value} (h : bB K T w b l) (hne : b ≠ a) : bB K T (w.setCell ⟨a, j, none⟩ v) b l :=
 (heap_setCell_other w _ b v hne).trans h
theorem bB.setRow {w : World} {b : Nat} {l l' : List Int} (h : bB K T w b l) : bB K T (w.setRow b (arr K l')) b l' := setRow_heap w b _ _ T _ h
theorem bB.setRow_ne {w : World} {b a : Nat} {l : List Int} {cs : Array Value} (h : bB K T w b l) (hne : b ≠ a) : bB K T (w.setRow a cs) b l := (setRow_other w a b cs hne).trans h
theorem bB.new (w : World) (l : List Int) : bB K T (w.alloc (.cells (arr K l) T)) w.heap.size l := heap_alloc_new _ _
theorem bB.old {w : World} {b : Nat} {l : List Int} (h : bB K T w b l) (o : Obj) : bB K T (w.alloc o) b l := (Below.heap_alloc w o b h.lt).trans h
theorem bB.drew {w : World} {b : Nat} {l : List Int} (h : bB K T w b l) (n : Nat) : bB K T (w.drewN n) b l := h.below (ay (Below.refl _ _) n)
theorem bB.sk {w : World} {b : Nat} {l : List Int} (h : bB K T w b l) : Sk K w (some ⟨b, 0, none⟩) l := fun j hj => ⟨b, 0, rfl, by rw [Nat.zero_add]; exact h.cell hj⟩
theorem bB.grown {w w1 : World} {row : Option Nat} {b : Nat} {l : List Int} (h : bB K T w b l) (hg : w.grownBy w1 row) (hne : row ≠ some b) : bB K T w1 b l := (hg.block b h.lt (Ne.symm hne)).trans h
theorem cu (l : List Int) : (arr K l).all (·.oneCell') = true := by simp [arr, Value.oneCell']
theorem aj {B b : Nat} {w0 w : World} {cs : Array Value} (h : Below B w0 w) (hb : B ≤ b) : Below B w0 (w.setRow b cs) :=
 h.trans ⟨rfl, rfl, rfl, by simp [World.setRow], fun k hk => setRow_other w b k cs (by omega)⟩
end Go.Proofs.YtchcllcbknfikaaGreatDoor
namespace Go.Proofs.YtchcllcbknfikaaGreatDoor
open Go.RowKit
theorem WO : ∀ n : Nat, n < 32 → 1 ≤ n → bits .and .u64 (IntKind.u64.wrap (-(n : Int))) 31 = 32 - (n : Int) := by decide
theorem iI (x : Int) : IntKind.u32.wrap x = x % 4294967296 := by simp [IntKind.wrap, IntKind.bits, IntKind.signed]
theorem OB (x m s : Int) (n : Nat) (hs : Hid (bits .and .u64 (IntKind.u64.wrap m) 31 = s)) (hn : Hid (s = 32 - n)) (h0 : 0 ≤ s) (h1 : s ≤ 31) (w : World) :
  Calls Tryz.prog 255 #[.int .u32 x, .int .i64 m] w fun e w' => e = .returned (.int .u32 (iA x n)) ∧ w = w' := by
 have g1 : IntKind.u64.wrap (32 - s) = 32 - s := by simp [IntKind.wrap, IntKind.bits, IntKind.signed]; omega
 have g2 : 0 ≤ 32 - s := by omega
 have hs' := hs.out
 have HR : Hid (bits .or .u32 (x * 2 ^ s.toNat % 4294967296) (x / 2 ^ (32 - s).toNat) = iA x n) := aa (by
  have e1 : s.toNat = 32 - n := by have := hn.out; omega
  have e2 : (32 - s).toNat = n := by have := hn.out; omega
  rw [e1, e2, iA, BU, iI])
 clear hs hn
 go_in
 go_wp2
 go_ret
 exact ⟨by rw [HR.out]; rfl, rfl⟩
theorem kr (x N : Int) (n : Nat) (hN : N = n) (h1 : 1 ≤ n) (h2 : n < 32) (w : World) :
  Calls Tryz.prog 237 #[.int .u32 x, .int .i64 N] w fun e w' => e = .returned (.int .u32 (iA x n)) ∧ w = w' := by
 subst hN
 have HS := aa (WO n h2 h1)
 have hm' : wrap64 (-(n : Int)) = -(n : Int) := IntWalk.wrap64_in _ (by omega)
 go_in
 go_wp2_with fail
 refine (OB x _ _ n HS (aa rfl) (by omega) (by omega) _).mono ?_
 rintro e w' ⟨rfl, rfl⟩
 go_wp2
 go_ret
 exact ⟨rfl, rfl⟩
theorem oh (x N : Int) (n : Nat) (hN : N = n) (h1 : 1 ≤ n) (h2 : n < 32) (w : World) :
  Calls Tryz.prog 214 #[.int .u32 x, .int .i64 N] w fun e w' => e = .returned (.int .u32 (iA x n)) ∧ ∃ k, w' = w.drewN k := by
 subst hN
 have g2 : (0 : Int) ≤ 32 - n := by omega
 have g3 : (0 : Int) ≤ n := by omega
 have HR : Hid (bits .or .u32 (x / 2 ^ n) (x * 2 ^ (32 - n) % 4294967296) = iA x n) := aa (by rw [iA, iI])
 have hm : IntKind.i64.wrap (32 - (n : Int)) = 32 - n := IntWalk.i64_in _ (by omega)
 have hm' : wrap64 (32 - (n : Int)) = 32 - n := IntWalk.wrap64_in _ (by omega)
 go_in
 go_wp2
 go_quiet (fail)
 go_wp2
 go_ret
 exact ⟨by rw [← HR.out]; rfl, nq, rfl⟩
theorem I_ (x N : Int) (h1 : 1 ≤ N) (h2 : N < 32) (w : World) :
  Calls Tryz.prog 237 #[.int .u32 x, .int .i64 N] w fun e w' => e = .returned (.int .u32 (iA x N.toNat)) ∧ w = w' :=
 kr x N N.toNat (by omega) (by omega) (by omega) w
theorem yC (x N : Int) (h1 : 1 ≤ N) (h2 : N < 32) (w : World) :
  Calls Tryz.prog 214 #[.int .u32 x, .int .i64 N] w fun e w' => e = .returned (.int .u32 (iA x N.toNat)) ∧ ∃ k, w' = w.drewN k :=
 oh x N N.toNat (by omega) (by omega) (by omega) w
end Go.Proofs.YtchcllcbknfikaaGreatDoor
namespace Go.Proofs.YtchcllcbknfikaaGreatDoor
open Go.RowKit rQ
theorem OZ {p c : Int} (h0 : 0 ≤ p) (h1 : p < 16777216) (c0 : 0 ≤ c) (c1 : c < 256) : bits .or .u32 (p * 256) c = p * 256 + c := by
 obtain ⟨P, rfl⟩ := Int.eq_ofNat_of_zero_le h0
 obtain ⟨C, rfl⟩ := Int.eq_ofNat_of_zero_le c0
 have e1 : ((P : Int) * 256) = ((P * 256 : Nat) : Int) := by omega
 rw [e1, u32_or _ _ (by omega) (by omega) (by omega) (by omega)]
 have e2 : 2 ^ 8 * P + C = 2 ^ 8 * P ||| C := Nat.two_pow_add_eq_or_of_lt (by omega) P
 have e3 : P * 256 ||| C = P * 256 + C := by rw [show P * 256 = 2 ^ 8 * P by omega, ← e2]
 simp only [Int.toNat_natCast]
 rw [e3]
 omega
def part (b : List Int) (i : Nat) : Nat → Int
 | 0 => 0
 | m + 1 => part b i m * 256 + pX b (4 * i + m)
theorem Qw (b : List Int) (i : Nat) : part b i 4 = CO b i := by simp [part, CO]
theorem OV {b : List Int} (h : az b = true) (i m : Nat) : 0 ≤ part b i m := by
 induction m with
 | zero => exact Int.le_refl _
 | succ m ih => have := (iH h (4 * i + m)).1; simp only [part, pX]; omega
theorem G8 {b : List Int} (h : az b = true) (i m : Nat) (hm : m ≤ 3) : part b i m < 16777216 := by
 have h0 := iH h (4 * i)
 have h1 := iH h (4 * i + 1)
 have h2 := iH h (4 * i + 2)
 rcases (show m = 0 ∨ m = 1 ∨ m = 2 ∨ m = 3 by omega) with rfl | rfl | rfl | rfl
 · simp [part]
 · simp only [part, pX, Nat.add_zero]; omega
 · simp only [part, pX, Nat.add_zero]; omega
 · simp only [part, pX, Nat.add_zero]; omega
def dD (n : Nat) : List Int := List.replicate n 0
theorem QV : (#[.int .u32 0, .int .u32 0, .int .u32 0, .int .u32 0, .int .u32 0, .int .u32 0, .int .u32 0, .int .u32 0, .int .u32 0, .int .u32 0, .int .u32 0, .int .u32 0, .int .u32 0, .int .u32 0, .int .u32 0, .int .u32 0, .int .u32 0, .int .u32 0, .int .u32 0, .int .u32 0, .int .u32 0, .int .u32 0, .int .u32 0, .int .u32 0, .int .u32 0, .int .u32 0, .int .u32 0, .int .u32 0, .int .u32 0, .int .u32 0, .int .u32 0, .int .u32 0, .int .u32 0, .int .u32 0, .int .u32 0, .int .u32 0, .int .u32 0, .int .u32 0, .int .u32 0, .int .u32 0, .int .u32 0, .int .u32 0, .int .u32 0, .int .u32 0, .int .u32 0, .int .u32 0, .int .u32 0, .int .u32 0, .int .u32 0, .int .u32 0, .int .u32 0, .int .u32 0, .int .u32 0, .int .u32 0, .int .u32 0, .int .u32 0, .int .u32 0, .int .u32 0, .int .u32 0, .int .u32 0, .int .u32 0, .int .u32 0, .int .u32 0, .int .u32 0] : Array Value) = arr .u32 (dD 64) := by rfl
def wz (l : List Int) : List Int := l ++ dD (64 - l.length)
theorem E8 {l : List Int} (h : l.length ≤ 64) : (wz l).length = 64 := by simp [wz, dD]; omega
theorem Ke {l : List Int} {x : Int} (h : l.length < 64) : (wz l).set l.length x = wz (l ++ [x]) := by
 obtain ⟨m, hm⟩ : ∃ m, 64 - l.length = m + 1 := ⟨63 - l.length, by omega⟩
 have hm2 : 64 - (l ++ [x]).length = m := by rw [List.length_append, List.length_singleton]; omega
 rw [wz, wz, hm, hm2, dD, List.replicate_succ, List.set_append_right _ _ (Nat.le_refl _), Nat.sub_self, List.set_cons_zero]
 simp [dD]
theorem Vg {l : List Int} : (wz l).getD l.length 0 = 0 := by
 rw [wz, F4 (Nat.le_refl _), Nat.sub_self, dD, List.getD_eq_getElem?_getD, List.getElem?_replicate]
 split <;> rfl
theorem Rb {l : List Int} {j : Nat} (h : j < l.length) : (wz l).getD j 0 = l.getD j 0 := F5 h
theorem set_self {l : List Int} {k : Nat} {x : Int} (h : l.getD k 0 = x) : l.set k x = l := by
 by_cases hk : k < l.length
 ·
  rw [List.getD_eq_getElem?_getD, List.getElem?_eq_getElem hk] at h
  subst h
  exact List.set_getElem_self hk
 · exact List.set_eq_of_length_le (by omega)
theorem D_ {l : List Int} {k : Nat} {x : Int} (h : k < l.length) : (l.set k x).getD k 0 = x := by
 simp [List.getD_eq_getElem?_getD, h]
theorem Kg (b : List Int) : wz (l9 48 (dA b 16)) = dL b := by
 have h := ja b
 unfold dL at h ⊢
 unfold wz
 rw [h]
 simp [dD]
theorem SB : (Tryz.prog.info? 247).map (·.size) = some 64 := by kernel_rfl
theorem pg (b : List Int) : (Tryz.prog.info? 247).map (·.size) = some (arr .u32 (dL b)).size := SB.trans (congrArg some (by rw [dJ, ja]))
theorem De (b : List Int) : (arr .u32 (dD 64)).size = (arr .u32 (dL b)).size := by rw [dJ, dJ, ja]; rfl
theorem IV (b o cap : Nat) (blk : List Int) (hlen : Hid (blk.length = 64)) (hby : Hid (az blk = true)) (w : World) (hs : Hid (Sk .u8 w (some ⟨b, o, none⟩) blk)) (hcap : 64 ≤ cap) (hcm : cap ≤ 9223372036854775807) :
  Calls Tryz.prog 236 #[.slice (some ⟨b, o, none⟩) 64 cap] w (Rt w (.agg (arr .u32 (dL blk)))) := by
 obtain ⟨W, hW⟩ : ∃ W, (w.alloc (.cells #[.int .u32 0, .int .u32 0, .int .u32 0, .int .u32 0, .int .u32 0, .int .u32 0, .int .u32 0, .int .u32 0, .int .u32 0, .int .u32 0, .int .u32 0, .int .u32 0, .int .u32 0, .int .u32 0, .int .u32 0, .int .u32 0, .int .u32 0, .int .u32 0, .int .u32 0, .int .u32 0, .int .u32 0, .int .u32 0, .int .u32 0, .int .u32 0, .int .u32 0, .int .u32 0, .int .u32 0, .int .u32 0, .int .u32 0, .int .u32 0, .int .u32 0, .int .u32 0, .int .u32 0, .int .u32 0, .int .u32 0, .int .u32 0, .int .u32 0, .int .u32 0, .int .u32 0, .int .u32 0, .int .u32 0, .int .u32 0, .int .u32 0, .int .u32 0, .int .u32 0, .int .u32 0, .int .u32 0, .int .u32 0, .int .u32 0, .int .u32 0, .int .u32 0, .int .u32 0, .int .u32 0, .int .u32 0, .int .u32 0, .int .u32 0, .int .u32 0, .int .u32 0, .int .u32 0, .int .u32 0, .int .u32 0, .int .u32 0, .int .u32 0, .int .u32 0] 247)).alloc (.cells #[.int .u32 0, .int .u32 0, .int .u32 0, .int .u32 0, .int .u32 0, .int .u32 0, .int .u32 0, .int .u32 0, .int .u32 0, .int .u32 0, .int .u32 0, .int .u32 0, .int .u32 0, .int .u32 0, .int .u32 0, .int .u32 0, .int .u32 0, .int .u32 0, .int .u32 0, .int .u32 0, .int .u32 0, .int .u32 0, .int .u32 0, .int .u32 0, .int .u32 0, .int .u32 0, .int .u32 0, .int .u32 0, .int .u32 0, .int .u32 0, .int .u32 0, .int .u32 0, .int .u32 0, .int .u32 0, .int .u32 0, .int .u32 0, .int .u32 0, .int .u32 0, .int .u32 0, .int .u32 0, .int .u32 0, .int .u32 0, .int .u32 0, .int .u32 0, .int .u32 0, .int .u32 0, .int .u32 0, .int .u32 0, .int .u32 0, .int .u32 0, .int .u32 0, .int .u32 0, .int .u32 0, .int .u32 0, .int .u32 0, .int .u32 0, .int .u32 0, .int .u32 0, .int .u32 0, .int .u32 0, .int .u32 0, .int .u32 0, .int .u32 0, .int .u32 0] 247) = W := ⟨_, rfl⟩
 have bQ : Hid (Below w.heap.size w W) := aa (by rw [← hW]; exact aI (Below.refl _ _))
 have HB0 : Hid (bB .u32 247 W (w.heap.size + 1) (wz (dA blk 0))) := aa (by
  rw [← hW, QV]
  exact heap_alloc2_new _ _ _)
 have ek : Hid (bB .u32 247 W w.heap.size (dD 64)) := aa (by
  rw [← hW, QV]
  exact heap_alloc2_old _ _ _)
 have lG : Hid (W.heap.size = w.heap.size + 2) := aa (by rw [← hW]; simp)
 have HS := aa hs.out
 have HW := aa hW
 clear hW hs
 go_in
 go_wp2
 rw [HW.out]
 go_loopw [12] (fun i wr => ∃ k : Nat, k ≤ 16 ∧ i = .int .i64 k ∧ Hid (bB .u32 247 wr (w.heap.size + 1) (wz (dA blk k))) ∧ Hid (Below (w.heap.size + 1) W wr)) (fun i _ => 16 - (intOf i).toNat)
 case atStart => exact ⟨0, by omega, rfl, HB0, aa (Below.refl _ _)⟩
 case round =>
  obtain ⟨k, hk, rfl, HB, au⟩ := hrel
  by_cases hlt : k < 16
  ·
   clear HW
   have zR : Hid (bB .u32 247 wr (w.heap.size + 1) ((wz (dA blk k)).set k (part blk k 0))) := aa (by
    rw [set_self (by have := Vg (l := dA blk k); rwa [eT] at this)]
    exact HB.out)
   go_wp2
   go_loopw [23] (fun j u => ∃ m : Nat, m ≤ 4 ∧ j = .int .i64 m ∧ Hid (bB .u32 247 u (w.heap.size + 1) ((wz (dA blk k)).set k (part blk k m))) ∧ Hid (Below (w.heap.size + 1) W u)) (fun j _ => 4 - (intOf j).toNat)
   case atStart => exact ⟨0, by omega, rfl, zR, au⟩
   case round =>
    obtain ⟨m, hm, rfl, tV, l6⟩ := hrel
    by_cases hlm : m < 4
    ·
     have hc0 := tV.out.cell (j := k) (by rw [List.length_set, E8 (by rw [eT]; omega)]; omega)
     rw [D_ (by rw [E8 (by rw [eT]; omega)]; omega)] at hc0
     have hf0 := tV.out.free k
     have hc1 := (HS.out.below (bQ.out.trans (l6.out.mono (Nat.le_succ _)))).cell (j := 4 * k + m) (by have := hlen.out; omega)
     obtain ⟨c0, c1⟩ := iH hby.out (4 * k + m)
     have hpn : part blk k (m + 1) = part blk k m * 256 + blk.getD (4 * k + m) 0 := rfl
     have p0 := OV hby.out k m
     have p1 := G8 hby.out k m (by omega)
     obtain ⟨c, hcc⟩ : ∃ c, blk.getD (4 * k + m) 0 = c := ⟨_, rfl⟩
     rw [hcc] at hc1 c0 c1 hpn
     rw [← Nat.add_assoc] at hc1
     obtain ⟨p, hp⟩ : ∃ p, part blk k m = p := ⟨_, rfl⟩
     rw [hp] at hc0 p0 p1 hpn
     have hor := OZ p0 p1 c0 c1
     obtain ⟨q, hq⟩ : ∃ q, p * 256 + c = q := ⟨_, rfl⟩
     rw [hq] at hor hpn
     have HB2 : Hid (bB .u32 247 (wr.setCell ⟨w.heap.size + 1, k, none⟩ (.int .u32 q)) (w.heap.size + 1) ((wz (dA blk k)).set k (part blk k (m + 1)))) := aa (by
      rw [hpn]
      have h := tV.out.set (j := k) (v := q)
      rwa [List.set_set] at h)
     have zq : Hid (Below (w.heap.size + 1) W (wr.setCell ⟨w.heap.size + 1, k, none⟩ (.int .u32 q))) := aa (l6.out.setCell (Nat.le_refl _) _)
     clear hcc hp hq hpn tV l6
     go_wp2
     go_roundw
     case rel => exact ⟨m + 1, by omega, by go_num, HB2, zq⟩
     case measure => simp [intOf]; omega
    ·
     obtain rfl : m = 4 := by omega
     have HB2 : Hid (bB .u32 247 wr (w.heap.size + 1) (wz (dA blk (k + 1)))) := aa (by
      have h := tV.out
      have e := Ke (l := dA blk k) (x := CO blk k) (by rw [eT]; omega)
      rw [eT] at e
      rw [Qw, e, ← vU] at h
      exact h)
     clear tV
     go_wp2
     go_roundw
     case rel => exact ⟨k + 1, by omega, by go_num, HB2, l6⟩
     case measure => simp [intOf]; omega
  ·
   obtain rfl : k = 16 := by omega
   clear HW hlt
   have abh : Hid (bB .u32 247 wr (w.heap.size + 1) (wz (l9 (16 - 16) (dA blk 16)))) := aa (by rw [show 16 - 16 = 0 from rfl, l9]; exact HB.out)
   clear HB
   go_wp2
   rw [show (((16 : Nat) : Int)) = 16 from rfl]
   go_loopw [7] (fun i u => ∃ t : Nat, 16 ≤ t ∧ t ≤ 64 ∧ i = .int .i64 t ∧ Hid (bB .u32 247 u (w.heap.size + 1) (wz (l9 (t - 16) (dA blk 16)))) ∧ Hid (Below (w.heap.size + 1) W u)) (fun i _ => 64 - (intOf i).toNat)
   case atStart => exact ⟨16, by omega, by omega, rfl, abh, au⟩
   case round =>
    obtain ⟨t, ht0, ht, rfl, NI, l6⟩ := hrel
    by_cases hlt : t < 64
    ·
     obtain ⟨L, hL⟩ : ∃ L, l9 (t - 16) (dA blk 16) = L := ⟨_, rfl⟩
     have hLn : L.length = t := by rw [← hL, yo, eT]; omega
     have hwz : (wz L).length = 64 := E8 (by omega)
     rw [hL] at NI
     have Tm := NI.out.cell (j := t - 15) (by omega)
     have h2 := NI.out.cell (j := t - 2) (by omega)
     have h16 := NI.out.cell (j := t - 16) (by omega)
     have h7 := NI.out.cell (j := t - 7) (by omega)
     have ht0' := NI.out.cell (j := t) (by omega)
     have hfr := NI.out.free t
     rw [Rb (by omega)] at Tm h2 h16 h7
     have hnx : l9 (t + 1 - 16) (dA blk 16) = L ++ [add32 (add32 (add32 (L.getD (t - 16) 0) (Rn (L.getD (t - 15) 0))) (L.getD (t - 7) 0)) (Rm (L.getD (t - 2) 0))] := by
      rw [show t + 1 - 16 = (t - 16) + 1 by omega, l9, hL, Kj, hLn]
     obtain ⟨IJ, e15⟩ : ∃ x, L.getD (t - 15) 0 = x := ⟨_, rfl⟩
     obtain ⟨x2, e2⟩ : ∃ x, L.getD (t - 2) 0 = x := ⟨_, rfl⟩
     obtain ⟨UQ, e16⟩ : ∃ x, L.getD (t - 16) 0 = x := ⟨_, rfl⟩
     obtain ⟨x7, e7⟩ : ∃ x, L.getD (t - 7) 0 = x := ⟨_, rfl⟩
     rw [e15] at Tm hnx
     rw [e2] at h2 hnx
     rw [e16] at h16 hnx
     rw [e7] at h7 hnx
     have EW := aa hnx
     have qB := aa hLn
     have i15 : ((t : Int) - 15).toNat = t - 15 := by omega
     have i2 : ((t : Int) - 2).toNat = t - 2 := by omega
     have i16 : ((t : Int) - 16).toNat = t - 16 := by omega
     have i7 : ((t : Int) - 7).toNat = t - 7 := by omega
     have j15 : (0 : Int) ≤ (t : Int) - 15 := by omega
     have j2 : (0 : Int) ≤ (t : Int) - 2 := by omega
     have j16 : (0 : Int) ≤ (t : Int) - 16 := by omega
     have j7 : (0 : Int) ≤ (t : Int) - 7 := by omega
     clear hnx e15 e2 e16 e7 hL hLn hwz
     go_wp2
     go_quiet (fail)
     have zq := aa (ay l6.out nq)
     have X9 := aa (NI.out.drew nq)
     obtain ⟨w2, hw2⟩ : ∃ u, wr.drewN nq = u := ⟨_, rfl⟩
     rw [hw2] at zq X9
     have HW2 := aa hw2
     have g16 : w2.cell? ⟨w.heap.size + 1, t - 16, none⟩ = some (.int .u32 UQ) := by rw [← hw2]; simpa using h16
     have g7 : w2.cell? ⟨w.heap.size + 1, t - 7, none⟩ = some (.int .u32 x7) := by rw [← hw2]; simpa using h7
     have gt : w2.cell? ⟨w.heap.size + 1, t, none⟩ = some (.int .u32 ((wz L).getD t 0)) := by rw [← hw2]; simpa using ht0'
     have gf : w2.frozen? ⟨w.heap.size + 1, t, none⟩ = false := by rw [← hw2]; simpa using hfr
     clear hw2 Tm h2 h16 h7 ht0' hfr l6 NI
     go_wp2_with fail
     rw [HW2.out]
     refine (kr IJ 7 7 rfl (by decide) (by decide) _).mono ?_
     rintro e w' ⟨rfl, rfl⟩
     go_wp2_with fail
     refine (kr IJ 18 18 rfl (by decide) (by decide) _).mono ?_
     rintro e w' ⟨rfl, rfl⟩
     go_wp2_with fail
     refine (kr x2 17 17 rfl (by decide) (by decide) _).mono ?_
     rintro e w' ⟨rfl, rfl⟩
     go_wp2_with fail
     refine (kr x2 19 19 rfl (by decide) (by decide) _).mono ?_
     rintro e w' ⟨rfl, rfl⟩
     obtain ⟨r7, SI⟩ : ∃ r, iA IJ 7 = r := ⟨_, rfl⟩
     obtain ⟨Y6, FU⟩ : ∃ r, iA IJ 18 = r := ⟨_, rfl⟩
     obtain ⟨Y7, FV⟩ : ∃ r, iA x2 17 = r := ⟨_, rfl⟩
     obtain ⟨Y5, FR⟩ : ∃ r, iA x2 19 = r := ⟨_, rfl⟩
     rw [SI, FU, FV, FR]
     obtain ⟨s0, hs0⟩ : ∃ r, bits .xor .u32 (bits .xor .u32 r7 Y6) (IJ / 8) = r := ⟨_, rfl⟩
     obtain ⟨s1, hs1⟩ : ∃ r, bits .xor .u32 (bits .xor .u32 Y7 Y5) (x2 / 1024) = r := ⟨_, rfl⟩
     have YZ : Hid (Rn IJ = s0) := aa (by rw [Rn, SI, FU, hs0])
     have YY : Hid (Rm x2 = s1) := aa (by rw [Rm, FV, FR, hs1])
     clear SI FU FV FR
     go_wp2
     clear hs0 hs1
     obtain ⟨V, hV⟩ : ∃ V, (UQ + s0 + x7 + s1) % 4294967296 = V := ⟨_, rfl⟩
     have HV := aa hV
     have HN : Hid (l9 (t + 1 - 16) (dA blk 16) = L ++ [V]) := aa (by
      rw [EW.out, YZ.out, YY.out, ← hV]
      simp only [add32, iI]
      congr 2
      omega)
     have HB3 : Hid (bB .u32 247 (w2.setCell ⟨w.heap.size + 1, t, none⟩ (.int .u32 V)).drew (w.heap.size + 1) (wz (l9 (t + 1 - 16) (dA blk 16)))) := aa (by
      rw [HN.out]
      have h := X9.out.set (j := t) (v := V)
      have e := Ke (l := L) (x := V) (by have := qB.out; omega)
      rw [qB.out] at e
      rw [e] at h
      exact h)
     have JU : Hid (Below (w.heap.size + 1) W (w2.setCell ⟨w.heap.size + 1, t, none⟩ (.int .u32 V)).drew) := aa (zq.out.setCell (Nat.le_refl _) _).drew
     clear hV
     go_region
     rw [HV.out]
     clear g16 g7 gt gf
     go_wp2
     go_roundw
     case rel => exact ⟨t + 1, by omega, by omega, by go_num, HB3, JU⟩
     case measure => simp [intOf]; omega
    ·
     have JV : Hid (bB .u32 247 wr (w.heap.size + 1) (dL blk)) := aa (by
      have h := NI.out
      rwa [show t - 16 = 48 by omega, Kg] at h)
     have Q3 : Hid (bB .u32 247 wr w.heap.size (dD 64)) := aa (ek.out.keepB (Nat.lt_succ_self _) l6.out)
     have fA : Hid (Below w.heap.size w (wr.setRow w.heap.size (arr .u32 (dL blk)))) := aa (aj (bQ.out.trans (l6.out.mono (Nat.le_succ _))) (Nat.le_refl _))
     have HRR : Hid (bB .u32 247 (wr.setRow w.heap.size (arr .u32 (dL blk))) w.heap.size (dL blk)) := aa (Q3.out.setRow)
     clear NI
     go_wp2_with (first
      | ((with_reducible show wpList _ _ _ (⟨some 81, _, _, _, _, _⟩ :: _) _ _); refine wpList_load_row rfl 247 _ rfl (w.heap.size + 1) rfl _ _ _ _ JV.out Tryz.underlying247 rfl (pg blk) ?_)
      | ((with_reducible show wpList _ _ _ (⟨none, _, _, _, _, _⟩ :: _) _ _); refine wpList_store_row rfl 247 _ _ rfl w.heap.size (arr .u32 (dL blk)) rfl rfl _ _ Q3.out (pg blk) (De blk) (cu _) ?_))
     exact bodyPost_ret (v := .agg (arr .u32 (dL blk))) (results_cell_row (p := 2) (ty := 247) rfl _ _ w.heap.size _ _ _ _ rfl HRR.out Tryz.underlying247 rfl (pg blk)) rfl ⟨rfl, fA.out⟩
def bF (w : World) : Prop := (∀ k, k < 64 → w.cell? ⟨5, k, none⟩ = some (.int .u32 (KL.getD k 0))) ∧ (∀ k, k < 8 → w.cell? ⟨4, k, none⟩ = some (.int .u32 (st0.list.getD k 0)))
theorem bF.below {w w' : World} (h : bF w) (hb : Below w.heap.size w w') : bF w' := ⟨fun k hk => cell_below (h.1 k hk) hb, fun k hk => cell_below (h.2 k hk) hb⟩
def rq (s v : List Int) (k : Nat) : List Int := (List.range 8).map fun j => if j < k then add32 (s.getD j 0) (v.getD j 0) else s.getD j 0
theorem q9 (s v : List Int) (k : Nat) : (rq s v k).length = 8 := by simp [rq]
theorem EA {s v : List Int} {k : Nat} (h : k < 8) : (rq s v k).getD k 0 = s.getD k 0 := by
 simp [rq, List.getD_eq_getElem?_getD, h]
theorem Ez {s v : List Int} {k : Nat} (h : k < 8) : (rq s v k).set k (add32 (s.getD k 0) (v.getD k 0)) = rq s v (k + 1) := by
 apply List.ext_getElem?
 intro i
 by_cases hi : i < 8
 ·
  by_cases e : k = i
  · subst e; simp [rq, List.getElem?_set, h]
  ·
   have e2 : (i < k + 1) ↔ (i < k) := by omega
   simp [rq, List.getElem?_set, hi, e, e2]
 · rw [List.getElem?_eq_none (by rw [List.length_set, q9]; omega), List.getElem?_eq_none (by rw [q9]; omega)]
theorem AY {s v : List Int} (h : s.length = 8) : rq s v 0 = s := by
 apply List.ext_getElem?
 intro i
 by_cases hi : i < 8
 · simp [rq, hi, h]
 · rw [List.getElem?_eq_none (by rw [q9]; omega), List.getElem?_eq_none (by omega)]
theorem EB (s v : St) : rq s.list v.list 8 = (PV s v).list := rfl
theorem PU (xa xb xc xd xe xf xg xh : Int) : (#[.int .u32 xa, .int .u32 xb, .int .u32 xc, .int .u32 xd, .int .u32 xe, .int .u32 xf, .int .u32 xg, .int .u32 xh] : Array Value) = arr .u32 (St.mk xa xb xc xd xe xf xg xh).list := rfl
theorem Ve : (#[.int .u32 0, .int .u32 0, .int .u32 0, .int .u32 0, .int .u32 0, .int .u32 0, .int .u32 0, .int .u32 0] : Array Value) = arr .u32 (dD 8) := rfl
theorem VT : (Tryz.prog.info? 229).map (·.size) = some 8 := by kernel_rfl
theorem jM (s : St) : (Tryz.prog.info? 229).map (·.size) = some (arr .u32 s.list).size := VT
theorem VU (xa xb xc xd xe xf xg xh : Int) : ∀ k : Nat, k < 8 → ∀ w, (Instr.index 229 (.agg #[.int .u32 xa, .int .u32 xb, .int .u32 xc, .int .u32 xd, .int .u32 xe, .int .u32 xf, .int .u32 xg, .int .u32 xh]) (.int .i64 (k : Int))).run Tryz.prog w = .ok (.int .u32 ((St.mk xa xb xc xd xe xf xg xh).list.getD k 0)) w
 | 0, _ => fun w => by kernel_rfl
 | 1, _ => fun w => by kernel_rfl
 | 2, _ => fun w => by kernel_rfl
 | 3, _ => fun w => by kernel_rfl
 | 4, _ => fun w => by kernel_rfl
 | 5, _ => fun w => by kernel_rfl
 | 6, _ => fun w => by kernel_rfl
 | 7, _ => fun w => by kernel_rfl
 | k + 8, h => absurd h (by omega)
theorem QO (e f g : Int) : bits .xor .u32 (bits .and .u32 e f) (bits .and .u32 (bits .xor .u32 (if IntKind.u32.signed = true then -1 else IntKind.u32.max) e) g) = Yy e f g := rfl
theorem KA (e : Int) : bits .xor .u32 (bits .xor .u32 (iA e 6) (iA e 11)) (iA e 25) = Yg e := rfl
def Rq (e f g h k w : Int) : Int := ((h + Yg e + Yy e f g + k) % 4294967296 + w) % 4294967296
theorem Qu (e f g h k w : Int) : ((h + Yg e + Yy e f g + k) % 4294967296 + w) % 4294967296 = Rq e f g h k w := rfl
def Vp (a b c : Int) : Int := (Yh a + Yk a b c) % 4294967296
theorem K5 (a b c d e f g h k w : Int) : Vs ⟨a, b, c, d, e, f, g, h⟩ k w = ⟨(Rq e f g h k w + Vp a b c) % 4294967296, a, b, c, (d + Rq e f g h k w) % 4294967296, e, f, g⟩ := by
 have hx : OE ⟨a, b, c, d, e, f, g, h⟩ k w = Rq e f g h k w := by
  simp only [OE, Rq, add32, iI]
  omega
 simp only [Vs, hx, Vr, Vp, add32, iI]
theorem Bj {P : Program} {f : FuncId} {args : Array Value} {w : World} {n : Nat} {v : Value}
  (h : Calls P f args (w.drewN n) fun e w' => e = .returned v ∧ w.drewN n = w') : Calls P f args (w.drewN n) fun e w'' => e = .returned v ∧ ∃ m, w'' = w.drewN m :=
 h.mono fun _ _ ⟨he, hm⟩ => ⟨he, n, hm.symm⟩
theorem O6 (s : St) (b o cap : Nat) (blk : List Int) (hlen : Hid (blk.length = 64)) (hby : Hid (az blk = true)) (w : World) (hs : Hid (Sk .u8 w (some ⟨b, o, none⟩) blk)) (hcap : 64 ≤ cap) (hcm : cap ≤ 9223372036854775807) (hv : Hid (bF w)) :
  Calls Tryz.prog 221 #[.agg (arr .u32 s.list), .slice (some ⟨b, o, none⟩) 64 cap] w (Rt w (.agg (arr .u32 (DC s blk).list))) := by
 obtain ⟨xa, xb, xc, xd, xe, xf, xg, xh⟩ := s
 rw [← PU]
 obtain ⟨W, hW⟩ : ∃ W, (w.alloc (.cells #[.int .u32 xa, .int .u32 xb, .int .u32 xc, .int .u32 xd, .int .u32 xe, .int .u32 xf, .int .u32 xg, .int .u32 xh] 229)).alloc (.cells #[.int .u32 0, .int .u32 0, .int .u32 0, .int .u32 0, .int .u32 0, .int .u32 0, .int .u32 0, .int .u32 0] 229) = W := ⟨_, rfl⟩
 have bQ : Hid (Below w.heap.size w W) := aa (by rw [← hW]; exact aI (Below.refl _ _))
 have HB0 : Hid (bB .u32 229 W w.heap.size (St.mk xa xb xc xd xe xf xg xh).list) := aa (by
  rw [← hW, PU]
  exact heap_alloc2_old _ _ _)
 have HZ0 : Hid (bB .u32 229 W (w.heap.size + 1) (dD 8)) := aa (by
  rw [← hW, Ve]
  exact heap_alloc2_new _ _ _)
 have HS := aa (hs.out.below bQ.out)
 have HV := aa (hv.out.below bQ.out)
 have HW := aa hW
 have lG : Hid (w.heap.size + 2 = W.heap.size) := aa (by rw [← hW]; simp)
 clear hW hs hv
 go_in
 go_wp2_with fail
 rw [HW.out]
 refine (IV b o cap blk hlen hby _ HS hcap hcm).mono ?_
 rintro e w1 ⟨rfl, hb1⟩
 have HB1 := aa (HB0.out.below hb1)
 have HZ1 := aa (HZ0.out.below hb1)
 have ry := aa (HV.out.below hb1)
 have Xm : Hid (w.heap.size + 2 ≤ w1.heap.size) := aa (by have := hb1.size; have := lG.out; omega)
 have rY := aa (ag bQ.out hb1)
 clear hb1 HW
 go_wp2_with ((with_reducible show wpList _ _ _ (⟨none, _, _, _, _, _⟩ :: _) _ _); refine wpList_store_row rfl 247 _ _ rfl w1.heap.size (arr .u32 (dL blk)) rfl rfl _ _ (heap_alloc_new _ _) (pg blk) (De blk) (cu _) ?_)
 rw [World.setRow_alloc_new]
 have UK := aa (ag rY.out (af w1 (.cells (arr .u32 (dL blk)) 247)))
 have HB2 := aa (HB1.out.below (af w1 (.cells (arr .u32 (dL blk)) 247)))
 have HZ2 := aa (HZ1.out.below (af w1 (.cells (arr .u32 (dL blk)) 247)))
 have xq := aa (ry.out.below (af w1 (.cells (arr .u32 (dL blk)) 247)))
 have HW2 : Hid (bB .u32 247 (w1.alloc (.cells (arr .u32 (dL blk)) 247)) w1.heap.size (dL blk)) := aa (bB.new _ _)
 obtain ⟨W2, hW2⟩ : ∃ u, w1.alloc (.cells (arr .u32 (dL blk)) 247) = u := ⟨_, rfl⟩
 have Xl : Hid (w1.heap.size < W2.heap.size) := aa (by rw [← hW2]; simp)
 rw [hW2] at UK HB2 HZ2 xq HW2 ⊢
 clear hW2 HB1 HZ1 ry rY HB0 HZ0 HV HS
 obtain ⟨g0, g1, g2, g3, g4, g5, g6, g7⟩ : W2.cell? ⟨w.heap.size, 0, none⟩ = some (.int .u32 xa) ∧ W2.cell? ⟨w.heap.size, 1, none⟩ = some (.int .u32 xb) ∧ W2.cell? ⟨w.heap.size, 2, none⟩ = some (.int .u32 xc) ∧ W2.cell? ⟨w.heap.size, 3, none⟩ = some (.int .u32 xd) ∧ W2.cell? ⟨w.heap.size, 4, none⟩ = some (.int .u32 xe) ∧ W2.cell? ⟨w.heap.size, 5, none⟩ = some (.int .u32 xf) ∧ W2.cell? ⟨w.heap.size, 6, none⟩ = some (.int .u32 xg) ∧ W2.cell? ⟨w.heap.size, 7, none⟩ = some (.int .u32 xh) :=
  ⟨HB2.out.cell (j := 0) (show 0 < 8 by decide), HB2.out.cell (j := 1) (show 1 < 8 by decide), HB2.out.cell (j := 2) (show 2 < 8 by decide), HB2.out.cell (j := 3) (show 3 < 8 by decide), HB2.out.cell (j := 4) (show 4 < 8 by decide), HB2.out.cell (j := 5) (show 5 < 8 by decide), HB2.out.cell (j := 6) (show 6 < 8 by decide), HB2.out.cell (j := 7) (show 7 < 8 by decide)⟩
 obtain ⟨ws, hws⟩ : ∃ l, dL blk = l := ⟨_, rfl⟩
 have Xb : Kp (dL blk = ws) := ⟨hws⟩
 have Il : Hid (ws.length = 64) := aa (by rw [← hws, ja])
 rw [hws] at HW2
 rw [hws]
 clear hws
 go_wp2
 go_quiet (fail)
 have Iq := aa (ay (Below.refl W2.heap.size W2) nq)
 clear g0 g1 g2 g3 g4 g5 g6 g7
 go_wp2
 go_loopw [6, 7, 8, 9, 10, 11, 12, 13, 37] (fun a b c d e f g h i u => ∃ (k : Nat) (ya yb yc yd ye yf yg yh : Int), k ≤ 64 ∧ i = .int .i64 k ∧ a = .int .u32 ya ∧ b = .int .u32 yb ∧ c = .int .u32 yc ∧ d = .int .u32 yd ∧ e = .int .u32 ye ∧ f = .int .u32 yf ∧ g = .int .u32 yg ∧ h = .int .u32 yh ∧ Hid (wT ws ⟨xa, xb, xc, xd, xe, xf, xg, xh⟩ k = ⟨ya, yb, yc, yd, ye, yf, yg, yh⟩) ∧ Hid (Below W2.heap.size W2 u)) (fun _ _ _ _ _ _ _ _ i _ => 64 - (intOf i).toNat)
 case atStart => exact ⟨0, xa, xb, xc, xd, xe, xf, xg, xh, by omega, rfl, rfl, rfl, rfl, rfl, rfl, rfl, rfl, rfl, aa rfl, Iq⟩
 case round =>
  obtain ⟨k, ya, yb, yc, yd, ye, yf, yg, yh, hk, rfl, rfl, rfl, rfl, rfl, rfl, rfl, rfl, rfl, HR, l6⟩ := hrel
  by_cases hlt : k < 64
  ·
   have hk0 := (xq.out.below l6.out).1 k hlt
   have hk1 := (HW2.out.below l6.out).cell (j := k) (by have := Il.out; omega)
   have hnx : wT ws ⟨xa, xb, xc, xd, xe, xf, xg, xh⟩ (k + 1) = Vs ⟨ya, yb, yc, yd, ye, yf, yg, yh⟩ (KL.getD k 0) (ws.getD k 0) := by rw [wT, HR.out]
   obtain ⟨kc, Wy⟩ : ∃ x, KL.getD k 0 = x := ⟨_, rfl⟩
   obtain ⟨wc, Wx⟩ : ∃ x, ws.getD k 0 = x := ⟨_, rfl⟩
   rw [Wy] at hk0 hnx
   rw [Wx] at hk1 hnx
   have EW := aa hnx
   clear hnx Wy Wx
   go_wp2_with fail
   go_quiet ((go_at_call 237; exact Bj (I_ _ _ (by decide) (by decide) _)))
   rw [QO, KA, Qu]
   obtain ⟨X, hX⟩ : ∃ X, Rq ye yf yg yh kc wc = X := ⟨_, rfl⟩
   rw [hX]
   have HX := aa hX
   have zq := aa (ay l6.out nq)
   obtain ⟨w3, hw3⟩ : ∃ u, wr.drewN nq = u := ⟨_, rfl⟩
   rw [hw3] at zq ⊢
   clear hX hw3 hk0 hk1 l6
   go_wp2_with fail
   refine (kr ya 2 2 rfl (by decide) (by decide) _).mono ?_
   rintro e w' ⟨rfl, rfl⟩
   go_wp2_with fail
   refine (kr ya 13 13 rfl (by decide) (by decide) _).mono ?_
   rintro e w' ⟨rfl, rfl⟩
   go_wp2_with fail
   refine (kr ya 22 22 rfl (by decide) (by decide) _).mono ?_
   rintro e w' ⟨rfl, rfl⟩
   obtain ⟨r2, hr2⟩ : ∃ r, iA ya 2 = r := ⟨_, rfl⟩
   obtain ⟨r13, SN⟩ : ∃ r, iA ya 13 = r := ⟨_, rfl⟩
   obtain ⟨r22, SL⟩ : ∃ r, iA ya 22 = r := ⟨_, rfl⟩
   rw [hr2, SN, SL]
   obtain ⟨Y, hY⟩ : ∃ Y, Vp ya yb yc = Y := ⟨_, rfl⟩
   have HY : Kp ((bits .xor .u32 (bits .xor .u32 r2 r13) r22 + bits .xor .u32 (bits .xor .u32 (bits .and .u32 ya yb) (bits .and .u32 ya yc)) (bits .and .u32 yb yc)) % 4294967296 = Y) := ⟨by rw [← hY, ← hr2, ← SN, ← SL]; rfl⟩
   have Nt := aa hY
   have HR2 : Hid (wT ws ⟨xa, xb, xc, xd, xe, xf, xg, xh⟩ (k + 1) = ⟨(X + Y) % 4294967296, ya, yb, yc, (yd + X) % 4294967296, ye, yf, yg⟩) := aa (by
    rw [EW.out, K5, HX.out, Nt.out])
   clear hr2 SN SL hY EW
   go_wp2_with fail
   go_roundw
   case rel => exact ⟨k + 1, _, _, _, _, _, _, _, _, by omega, by go_num, rfl, rfl, rfl, rfl, rfl, rfl, rfl, rfl, by rw [HY.out]; exact HR2, zq⟩
   case measure => simp [intOf]; omega
  ·
   have vz : Kp (wT (dL blk) ⟨xa, xb, xc, xd, xe, xf, xg, xh⟩ 64 = ⟨ya, yb, yc, yd, ye, yf, yg, yh⟩) := ⟨by
    have h := HR.out
    rwa [show k = 64 by omega, ← Xb.out] at h⟩
   have HB3 : Hid (bB .u32 229 wr w.heap.size (rq (St.mk xa xb xc xd xe xf xg xh).list (St.mk ya yb yc yd ye yf yg yh).list 0)) := aa (by
    rw [AY rfl]
    exact HB2.out.below l6.out)
   have HZ3 := aa (HZ2.out.below l6.out)
   have abe := aa (ag UK.out l6.out)
   clear HR l6 HB2 HZ2 UK HW2 xq Il Xb Iq
   go_wp2
   go_loopw [109] (fun i u => ∃ m : Nat, m ≤ 8 ∧ i = .int .i64 m ∧ Hid (bB .u32 229 u w.heap.size (rq (St.mk xa xb xc xd xe xf xg xh).list (St.mk ya yb yc yd ye yf yg yh).list m)) ∧ Hid (bB .u32 229 u (w.heap.size + 1) (dD 8)) ∧ Hid (Below w.heap.size w u)) (fun i _ => 8 - (intOf i).toNat)
   case atStart => exact ⟨0, by omega, rfl, HB3, HZ3, abe⟩
   case round =>
    obtain ⟨m, hm, rfl, tV, YB, l6⟩ := hrel
    by_cases hlm : m < 8
    ·
     have hi := VU ya yb yc yd ye yf yg yh m hlm
     have hc := tV.out.cell (j := m) (by rw [q9]; exact hlm)
     have hf := tV.out.free m
     rw [EA hlm] at hc
     obtain ⟨s0, e0⟩ : ∃ x, (St.mk xa xb xc xd xe xf xg xh).list.getD m 0 = x := ⟨_, rfl⟩
     obtain ⟨v0, e1⟩ : ∃ x, (St.mk ya yb yc yd ye yf yg yh).list.getD m 0 = x := ⟨_, rfl⟩
     have hst := Ez (s := (St.mk xa xb xc xd xe xf xg xh).list) (v := (St.mk ya yb yc yd ye yf yg yh).list) hlm
     rw [e0, e1, add32, iI] at hst
     rw [e0] at hc
     rw [e1] at hi
     have jF : Hid (bB .u32 229 (wr.setCell ⟨w.heap.size, m, none⟩ (.int .u32 ((s0 + v0) % 4294967296))) w.heap.size (rq (St.mk xa xb xc xd xe xf xg xh).list (St.mk ya yb yc yd ye yf yg yh).list (m + 1))) := aa (by
      rw [← hst]
      exact tV.out.set)
     have HZ4 : Hid (bB .u32 229 (wr.setCell ⟨w.heap.size, m, none⟩ (.int .u32 ((s0 + v0) % 4294967296))) (w.heap.size + 1) (dD 8)) := aa (YB.out.set_ne (by omega))
     have l8 : Hid (Below w.heap.size w (wr.setCell ⟨w.heap.size, m, none⟩ (.int .u32 ((s0 + v0) % 4294967296)))) := aa (l6.out.setCell (Nat.le_refl _) _)
     clear hst e0 e1 tV YB l6
     go_wp2
     go_roundw
     case rel => exact ⟨m + 1, by omega, by go_num, jF, HZ4, l8⟩
     case measure => simp [intOf]; omega
    ·
     obtain ⟨T, hT⟩ : ∃ T, PV ⟨xa, xb, xc, xd, xe, xf, xg, xh⟩ ⟨ya, yb, yc, yd, ye, yf, yg, yh⟩ = T := ⟨_, rfl⟩
     have JV : Hid (bB .u32 229 wr w.heap.size T.list) := aa (by
      have h := tV.out
      rwa [show m = 8 by omega, EB, hT] at h)
     have HT : Kp (DC ⟨xa, xb, xc, xd, xe, xf, xg, xh⟩ blk = T) := ⟨by rw [DC, vz.out, hT]⟩
     have HRR : Hid (bB .u32 229 (wr.setRow (w.heap.size + 1) (arr .u32 T.list)) (w.heap.size + 1) T.list) := aa YB.out.setRow
     have fA : Hid (Below w.heap.size w (wr.setRow (w.heap.size + 1) (arr .u32 T.list))) := aa (aj l6.out (Nat.le_succ _))
     clear hT vz tV
     go_wp2_with (first
      | ((with_reducible show wpList _ _ _ (⟨some 120, _, _, _, _, _⟩ :: _) _ _); refine wpList_load_row rfl 229 _ rfl w.heap.size rfl _ _ _ _ JV.out Tryz.underlying229 rfl (jM T) ?_)
      | ((with_reducible show wpList _ _ _ (⟨none, _, _, _, _, _⟩ :: _) _ _); refine wpList_store_row rfl 229 _ _ rfl (w.heap.size + 1) (arr .u32 T.list) rfl rfl _ _ YB.out (jM T) rfl (cu _) ?_))
     rw [HT.out]
     exact bodyPost_ret (v := .agg (arr .u32 T.list)) (results_cell_row (p := 4) (ty := 229) rfl _ _ (w.heap.size + 1) _ _ _ _ rfl HRR.out Tryz.underlying229 rfl (jM T)) rfl ⟨rfl, fA.out⟩
end Go.Proofs.YtchcllcbknfikaaGreatDoor
namespace Go.Proofs.YtchcllcbknfikaaGreatDoor
open Go.ChangeShapes Go.WideShapes Go.ChangeAt Go.RowKit rQ
theorem ME : Tryz.prog.globalNamed "specie/digest.constants" = some 5 := by kernel_rfl
theorem F7 : (Tryz.prog.globals[5]?).map (·.type) = some 247 := by kernel_rfl
theorem MC : Tryz.prog.globalNamed "specie/digest.start" = some 4 := by kernel_rfl
theorem F6 : (Tryz.prog.globals[4]?).map (·.type) = some 229 := by kernel_rfl
theorem Gm : Tryz.prog.cellsOf 247 = 64 := by kernel_rfl
theorem Gj : Tryz.prog.cellsOf 229 = 8 := by kernel_rfl
theorem Er : Tryz.prog.cellsOf 209 = 1 := by kernel_rfl
theorem zC {W : World} (h : laidMetH Tryz.prog [("math/bits.deBruijn64tab", Rows.laid_math_bits_deBruijn64tab), ("specie/prime.bases", Rows.laid_specie_prime_bases), ("specie/digest.constants", Rows.laid_specie_digest_constants), ("specie/digest.start", Rows.laid_specie_digest_start)] W) : Vars W ∧ bF W := by
 have h1 : laidMet Tryz.prog [("math/bits.deBruijn64tab", Rows.laid_math_bits_deBruijn64tab), ("specie/prime.bases", Rows.laid_specie_prime_bases), ("specie/digest.constants", Rows.laid_specie_digest_constants), ("specie/digest.start", Rows.laid_specie_digest_start)] W := h
 have t1 : Lib.TabIs Tryz.prog W "math/bits.deBruijn64tab" .u8 (Lib.deBruijn64tab.map Int.ofNat) := Lib.tabIs_of_head (rest := [("specie/prime.bases", Rows.laid_specie_prime_bases), ("specie/digest.constants", Rows.laid_specie_digest_constants), ("specie/digest.start", Rows.laid_specie_digest_start)]) Wn MB Tryz.underlying205 Tryz.underlying5 Ia M0 h1
 have t2 : Lib.TabIs Tryz.prog W "specie/prime.bases" .u64 [2, 3, 5, 7, 11, 13, 17, 19, 23, 29, 31, 37] := Lib.tabIs_of_head (rest := [("specie/digest.constants", Rows.laid_specie_digest_constants), ("specie/digest.start", Rows.laid_specie_digest_start)]) MF F8 Tryz.underlying172 Tryz.underlying162 MW Gn h1.tail
 have t3 : Lib.TabIs Tryz.prog W "specie/digest.constants" .u32 KL := Lib.tabIs_of_head (rest := [("specie/digest.start", Rows.laid_specie_digest_start)]) ME F7 Tryz.underlying247 Tryz.underlying209 Er Gm h1.tail.tail
 have t4 : Lib.TabIs Tryz.prog W "specie/digest.start" .u32 st0.list := Lib.tabIs_of_head (rest := []) MC F6 Tryz.underlying229 Tryz.underlying209 Er Gj h1.tail.tail.tail
 refine ⟨⟨fun k hk => ?_, fun j hj => ?_⟩, fun k hk => ?_, fun k hk => ?_⟩
 · rw [t2.cell MF k hk]; rfl
 ·
  rw [t1.cell Wn j (by simpa using hj)]
  rw [List.getD_eq_getElem?_getD, List.getD_eq_getElem?_getD, List.getElem?_map]
  rw [List.getElem?_eq_getElem hj]
  rfl
 · rw [t3.cell ME k hk]
 · rw [t4.cell MC k hk]
def LM : Obj → Obj
 | .cells _ t frozen => .cells (KL.map fun n => Value.int .u32 n).toArray t frozen
 | o => o
def LK : Obj → Obj
 | .cells _ t frozen => .cells (st0.list.map fun n => Value.int .u32 n).toArray t frozen
 | o => o
noncomputable def tu (os : Os) : World :=
 { World.holding Tryz.prog os ⟨#[], #[], []⟩ with heap := ((((World.holding Tryz.prog os ⟨#[], #[], []⟩).heap.modify 0 LP).modify 3 Sr).modify 5 LM).modify 4 LK }
end Go.Proofs.YtchcllcbknfikaaGreatDoor
namespace Go.Proofs.YtchcllcbknfikaaGreatDoor
open Go.RowKit rQ
theorem BA (P Q G x : Int) (b : Bool) (hb : Hid (aG P Q x = b)) (h1 : P < 2305843009213693952) (Cy : 0 ≤ Q) (hQ : Q < 9223372036854775808) (w : World) :
  Calls Tryz.prog 268 #[gv P Q G, .int .i64 x] w (Rt w (.bool b)) := by
 by_cases hx : x < 1
 ·
  obtain rfl : b = false := by rw [← hb.out]; simp [aG]; omega
  go_in
  go_wp2
  go_ret
  exact ⟨rfl, af _ _⟩
 ·
  by_cases hx2 : P ≤ x
  ·
   obtain rfl : b = false := by rw [← hb.out]; simp [aG]; omega
   go_in
   go_wp2
   go_ret
   exact ⟨rfl, af _ _⟩
  ·
   have d1 : decide (x < 1) = false := by simp; omega
   have d2 : decide (P ≤ x) = false := by simp; omega
   obtain ⟨y, hy⟩ : ∃ y, pw x Q P = y := ⟨_, rfl⟩
   have g9 : ((y : Int) == 1) = b := by
    rw [← hb.out, ← hy, aG, Bool.eq_iff_iff]
    simp only [beq_iff_eq, decide_eq_true_eq]
    exact ⟨fun h => ⟨by omega, by omega, h⟩, fun h => h.2.2⟩
   have HX := aa hy
   clear hy hb
   go_in
   go_wp2_with fail
   refine (yK x Q P (by omega) h1 (by omega) (by omega) Cy hQ _).mono ?_
   rintro e w' ⟨rfl, n3, rfl⟩
   rw [HX.out]
   go_wp2
   go_ret
   exact ⟨rfl, dP _ _ _⟩
def gW (Q x : Int) : Bool := decide (0 ≤ x) && decide (x < Q)
theorem KE (P Q G : Int) (a : Nat) (h1 : P < 2305843009213693952) (Cy : 0 ≤ Q) (hQ : Q < 9223372036854775808) (W : World) (hx : Hid (nS W a P Q G)) :
  Says 267 #[.pointer (some ⟨a, 0, none⟩)] (fun x => !aG P Q x) W := fun x w1 hb => by
 show Calls Tryz.prog 267 #[.int .i64 x, .pointer (some ⟨a, 0, none⟩)] w1 fun e w' => e = .returned (.bool (!aG P Q x)) ∧ Below w1.heap.size w1 w'
 obtain ⟨c0, c1, c2⟩ := hx.out.below hb
 obtain ⟨r, hr⟩ : ∃ r, aG P Q x = r := ⟨_, rfl⟩
 have HR := aa hr
 rw [hr]
 clear hr hb
 go_in
 go_wp2_with fail
 refine (BA P Q G x r HR h1 Cy hQ _).mono ?_
 rintro e w2 ⟨rfl, hb0⟩
 go_wp2
 go_ret
 exact ⟨rfl, hb0⟩
theorem KD (P Q G : Int) (a : Nat) (W : World) (hx : Hid (nS W a P Q G)) :
  Says 258 #[.pointer (some ⟨a, 0, none⟩)] (fun x => !gW Q x) W := fun x w1 hb => by
 show Calls Tryz.prog 258 #[.int .i64 x, .pointer (some ⟨a, 0, none⟩)] w1 fun e w' => e = .returned (.bool (!gW Q x)) ∧ Below w1.heap.size w1 w'
 obtain ⟨c0, c1, c2⟩ := hx.out.below hb
 by_cases h0 : x < 0
 ·
  have e : gW Q x = false := by simp [gW]; omega
  rw [e]
  have d0 : decide (x < 0) = true := by simp; omega
  clear hb e
  go_in
  go_wp2
  go_ret
  exact ⟨rfl, Below.refl _ _⟩
 ·
  have d0 : decide (x < 0) = false := by simp; omega
  obtain ⟨t, ht⟩ : ∃ t, decide (Q ≤ x) = t := ⟨_, rfl⟩
  have e : gW Q x = !t := by
   rw [← ht, gW, decide_eq_true (show (0 : Int) ≤ x by omega), Bool.true_and, ← decide_not]
   exact decide_eq_decide.2 (by omega)
  rw [e, Bool.not_not]
  clear hb e
  go_in
  go_wp2
  go_ret
  exact ⟨by first | rfl | rw [ht], Below.refl _ _⟩
theorem q8 {f : Int → Bool} {xs : List Int} : (xs.any fun x => !f x) = !(xs.all f) := by
 induction xs with
 | nil => rfl
 | cons x xs ih => rw [List.any_cons, List.all_cons, ih, Bool.not_and]
theorem jy (P Q G : Int) (A : Option Addr) (xs : List Int) (n c : Nat) (r : Bool) (hr : Hid (xs.all (aG P Q) = r)) (hn : Hid (xs.length = n)) (hbig : Hid (n < 1000000)) (h1 : P < 2305843009213693952) (Cy : 0 ≤ Q) (hQ : Q < 9223372036854775808) (w : World) (hs : Hid (Sl w A xs)) :
  Calls Tryz.prog 256 #[gv P Q G, .slice A n c] w (Rt w (.bool r)) := by
 have HX0 := aa (aW w P Q G)
 have Io := aa (hs.out.below (af w (bq P Q G)))
 have TY := aa (KE P Q G w.heap.size h1 Cy hQ _ HX0)
 have HP : Hid ((xs.any fun x => !aG P Q x) = !r) := aa (by rw [q8, hr.out])
 clear hs
 go_in
 go_wp2_with fail
 refine (TC (.pointer (some ⟨w.heap.size, 0, none⟩)) (fun x => !aG P Q x) (!r) A xs n c HP hn hbig _ Io TY).mono ?_
 rintro e w1 ⟨rfl, hb0⟩
 have hb1 := ag (af _ _) hb0
 clear hb0
 go_wp2
 go_ret
 exact ⟨by simp, hb1⟩
theorem j_ (P Q G : Int) (A : Option Addr) (xs : List Int) (n c : Nat) (r : Bool) (hr : Hid (xs.all (gW Q) = r)) (hn : Hid (xs.length = n)) (hbig : Hid (n < 1000000)) (w : World) (hs : Hid (Sl w A xs)) :
  Calls Tryz.prog 240 #[gv P Q G, .slice A n c] w (Rt w (.bool r)) := by
 have HX0 := aa (aW w P Q G)
 have Io := aa (hs.out.below (af w (bq P Q G)))
 have TY := aa (KD P Q G w.heap.size _ HX0)
 have HP : Hid ((xs.any fun x => !gW Q x) = !r) := aa (by rw [q8, hr.out])
 clear hs
 go_in
 go_wp2_with fail
 refine (TB (.pointer (some ⟨w.heap.size, 0, none⟩)) (fun x => !gW Q x) (!r) A xs n c HP hn hbig _ Io TY).mono ?_
 rintro e w1 ⟨rfl, hb0⟩
 have hb1 := ag (af _ _) hb0
 clear hb0
 go_wp2
 go_ret
 exact ⟨by simp, hb1⟩
structure Row where
 p : Option Addr
 n : Nat
 c : Nat
 xs : List Int
abbrev Row.val (r : Row) : Value := .slice r.p r.n r.c
abbrev dh : Row := ⟨none, 0, 0, []⟩
def zh (w : World) (r : Row) : Prop := r.xs.length = r.n ∧ Sl w r.p r.xs
theorem zh.below {w w' : World} {r : Row} (h : zh w r) (hb : Below w.heap.size w w') : zh w' r := ⟨h.1, h.2.below hb⟩
def Rw (w : World) (A : Option Addr) (rs : List Row) : Prop := ∀ k, k < rs.length → (∃ b o, A = some ⟨b, o, none⟩ ∧ w.cell? ⟨b, o + k, none⟩ = some (rs.getD k dh).val) ∧ zh w (rs.getD k dh)
theorem Rw.below {w w' : World} {A : Option Addr} {rs : List Row} (h : Rw w A rs) (hb : Below w.heap.size w w') : Rw w' A rs := fun k hk => by
 obtain ⟨⟨b, o, h1, h2⟩, h3⟩ := h k hk
 exact ⟨⟨b, o, h1, (hb.cell (World.block_lt_of_cell? _ _ h2)).trans h2⟩, h3.below hb⟩
def Np (g : FuncId) (caps : Array Value) (p : Row → Bool) (W : World) : Prop :=
 ∀ (r : Row) (w1 : World), Below W.heap.size W w1 → zh w1 r → Calls Tryz.prog g (#[r.val] ++ caps) w1 fun e w' => e = .returned (.bool (p r)) ∧ Below w1.heap.size w1 w'
theorem JJ {f : Row → Bool} {xs : List Row} {k : Nat} (hk : k < xs.length) (h : f (xs.getD k dh) = false) : (xs.drop k).any f = (xs.drop (k + 1)).any f := by
 rw [List.drop_eq_getElem_cons hk, List.any_cons]
 rw [List.getD_eq_getElem?_getD, List.getElem?_eq_getElem hk] at h
 simp at h
 rw [h, Bool.false_or]
theorem Nh {f : Row → Bool} {xs : List Row} {k : Nat} (hk : k < xs.length) (h : f (xs.getD k dh) = true) : (xs.drop k).any f = true := by
 rw [List.drop_eq_getElem_cons hk, List.any_cons]
 rw [List.getD_eq_getElem?_getD, List.getElem?_eq_getElem hk] at h
 simp at h
 rw [h, Bool.true_or]
def P6 (p : Row → Bool) (xs : List Row) (w : World) (e : Ending) (w' : World) : Prop := ∃ i : Int, e = .returned (.int .i64 i) ∧ decide (0 ≤ i) = xs.any p ∧ Below w.heap.size w w'
theorem Pe (c0 : Value) (c1 : Value) (p : Row → Bool) (A : Option Addr) (xs : List Row) (n c : Nat) (hn : Hid (xs.length = n)) (hbig : Hid (n < 1000000)) (w : World) (hs : Hid (Rw w A xs)) (hp : Hid (Np 257 #[c0, c1] p w)) :
  Calls Tryz.prog 187 #[.slice A n c, .func (.func 257) #[] #[c0, c1]] w (P6 p xs w) := by
 have hn0 : n < 1000000 := hbig.out
 go_in
 go_wp2
 go_loopw [8] (fun i wr => ∃ k : Nat, k ≤ n ∧ i = .int .i64 k ∧ Hid (xs.any p = (xs.drop k).any p) ∧ Hid (Below w.heap.size w wr)) (fun i _ => n - (intOf i).toNat)
 case atStart => exact ⟨0, by omega, rfl, aa rfl, aa (Below.refl _ _)⟩
 case round =>
  obtain ⟨k, hk, rfl, HR, au⟩ := hrel
  by_cases hlt : k < n
  ·
   have hkl : k < xs.length := by rw [hn.out]; exact hlt
   obtain ⟨⟨b, o, hA, hi⟩, hok⟩ := hs.out.below au.out k hkl
   subst hA
   cases hpx : p (xs.getD k dh) with
   | false =>
    have HN : Hid (xs.any p = (xs.drop (k + 1)).any p) := aa (HR.out.trans (JJ hkl hpx))
    obtain ⟨x, hx⟩ : ∃ x, xs.getD k dh = x := ⟨_, rfl⟩
    rw [hx] at hi hpx hok
    have HC := aa (hp.out x wr au.out hok)
    have zl := aa hpx
    obtain ⟨xp, xn, xc, xl⟩ := x
    dsimp only [Row.val] at hi
    clear hx hkl hpx HR hok
    go_wp2_with fail
    refine HC.out.mono ?_
    rintro e w2 ⟨rfl, hb0⟩
    rw [zl.out]
    have HB2 := aa (ag au.out hb0)
    clear hb0
    go_wp2
    go_roundw
    case rel => exact ⟨k + 1, by omega, by go_num, HN, HB2⟩
    case measure => simp [intOf]; omega
   | true =>
    have HN : Hid (decide ((0 : Int) ≤ (k : Int)) = xs.any p) := aa (by rw [HR.out, Nh hkl hpx]; simp)
    obtain ⟨x, hx⟩ : ∃ x, xs.getD k dh = x := ⟨_, rfl⟩
    rw [hx] at hi hpx hok
    have HC := aa (hp.out x wr au.out hok)
    have zl := aa hpx
    obtain ⟨xp, xn, xc, xl⟩ := x
    dsimp only [Row.val] at hi
    clear hx hkl hpx HR hok
    go_wp2_with fail
    refine HC.out.mono ?_
    rintro e w2 ⟨rfl, hb0⟩
    rw [zl.out]
    have HB2 := aa (ag au.out hb0)
    clear hb0
    go_wp2
    go_ret
    exact ⟨k, rfl, HN.out, HB2.out⟩
  ·
   obtain rfl : k = n := by omega
   have HN : Hid (decide ((0 : Int) ≤ (-1 : Int)) = xs.any p) := aa (by rw [HR.out, ← hn.out]; simp)
   clear HR hlt
   go_wp2
   go_ret
   exact ⟨-1, rfl, HN.out, au.out⟩
theorem Tz (c0 : Value) (c1 : Value) (p : Row → Bool) (r : Bool) (A : Option Addr) (xs : List Row) (n c : Nat) (hr : Hid (xs.any p = r)) (hn : Hid (xs.length = n)) (hbig : Hid (n < 1000000)) (w : World) (hs : Hid (Rw w A xs)) (hp : Hid (Np 257 #[c0, c1] p w)) :
  Calls Tryz.prog 154 #[.slice A n c, .func (.func 257) #[] #[c0, c1]] w (Rt w (.bool r)) := by
 go_in
 go_wp2_with fail
 refine (Pe c0 c1 p A xs n c hn hbig _ hs hp).mono ?_
 rintro e w1 ⟨i, rfl, hi, hb1⟩
 have hd : decide ((0 : Int) ≤ i) = r := hi.trans hr.out
 clear hi
 go_wp2
 go_ret
 exact ⟨by first | rfl | (rw [← hd]) | simp [hd], hb1⟩
abbrev gQ (Y : Option Addr) (yn yc : Nat) (B : Option Addr) (bn bc : Nat) : Value := .agg #[.slice Y yn yc, .slice B bn bc]
abbrev jw (Y : Option Addr) (yn yc : Nat) (B : Option Addr) (bn bc : Nat) : Obj := .cells #[.slice Y yn yc, .slice B bn bc] 189
def p_ (w : World) (a : Nat) (u v : Value) : Prop := w.cell? ⟨a, 0, none⟩ = some u ∧ w.cell? ⟨a, 1, none⟩ = some v
theorem p_.below {w w' : World} {a : Nat} {u v : Value} (h : p_ w a u v) (hb : Below w.heap.size w w') : p_ w' a u v :=
 ⟨(hb.cell (World.block_lt_of_cell? _ _ h.1)).trans h.1, (hb.cell (World.block_lt_of_cell? _ _ h.2)).trans h.2⟩
theorem Dm (w : World) (T : TypeId) (u v : Value) : p_ (w.alloc (.cells #[u, v] T)) w.heap.size u v := ⟨World.cell?_alloc_at _ _ _ _ rfl, World.cell?_alloc_at _ _ _ _ rfl⟩
theorem dN (w : World) (o : Obj) (T : TypeId) (u v : Value) : p_ ((w.alloc o).alloc (.cells #[u, v] T)) (w.heap.size + 1) u v := by
 have e : (w.alloc o).heap.size = w.heap.size + 1 := by simp
 rw [← e]
 exact Dm _ _ _ _
theorem Rw.at {w : World} {b o : Nat} {rs : List Row} (h : Rw w (some ⟨b, o, none⟩) rs) {k : Nat} (hk : k < rs.length) : w.cell? ⟨b, o + k, none⟩ = some (rs.getD k dh).val := by
 obtain ⟨⟨b', o', h1, h2⟩, _⟩ := h k hk
 cases h1
 exact h2
theorem Rw.head {w : World} {b o : Nat} {rs : List Row} {p : Option Addr} {n c : Nat} {xs : List Int} (h : Rw w (some ⟨b, o, none⟩) rs) (hk : 0 < rs.length) (e : rs.getD 0 dh = ⟨p, n, c, xs⟩) : w.cell? ⟨b, o, none⟩ = some (.slice p n c) := by
 have h2 := h.at hk
 rw [e, Nat.add_zero] at h2
 exact h2
theorem Rw.some {w : World} {B : Option Addr} {rs : List Row} (h : Rw w B rs) (hk : 0 < rs.length) : ∃ b o, B = some ⟨b, o, none⟩ := by
 obtain ⟨⟨b, o, h1, _⟩, _⟩ := h 0 hk
 exact ⟨b, o, h1⟩
def mo (P Q : Int) (n : Nat) (r : Row) : Bool := decide (r.n = n) && r.xs.all (aG P Q)
def fZ (rows : List Row) : Nat := (rows.getD 0 dh).n
def eD (P Q G : Int) (ys : List Int) (rows : List Row) : Bool :=
 aV P Q G && (decide (1 ≤ ys.length) && (decide (ys.length ≤ 8) && (decide (rows.length = ys.length) && (ys.all (aG P Q) && (decide (1 ≤ fZ rows) && (decide (fZ rows ≤ 12) && rows.all (mo P Q (fZ rows))))))))
theorem jS (Y : Option Addr) (yn yc : Nat) (B : Option Addr) (rows : List Row) (bn bc n : Nat) (hbn : Hid (rows.length = bn)) (hpos : 0 < bn) (hn : Hid (fZ rows = n)) (w : World) (hB : Hid (Rw w B rows)) :
  Calls Tryz.prog 239 #[gQ Y yn yc B bn bc] w (Rt w (.int .i64 n)) := by
 obtain ⟨b, o, rfl⟩ := hB.out.some (by rw [hbn.out]; exact hpos)
 obtain ⟨R, hR⟩ : ∃ R, rows.getD 0 dh = R := ⟨_, rfl⟩
 obtain ⟨p, n0, k, xs⟩ := R
 obtain rfl : n0 = n := by rw [← hn.out, fZ, hR]
 have hc := (hB.out.below (af w (jw Y yn yc (some ⟨b, o, none⟩) bn bc))).head (by rw [hbn.out]; exact hpos) hR
 clear hR hB hn
 go_in
 go_wp2
 go_ret
 exact ⟨rfl, af _ _⟩
theorem fM (Y : Option Addr) (yn yc : Nat) (B : Option Addr) (rows : List Row) (bn bc n : Nat) (hbn : Hid (rows.length = bn)) (hpos : 0 < bn) (hn : Hid (fZ rows = n)) (w : World) (hB : Hid (Rw w B rows)) :
  Calls Tryz.prog 226 #[gQ Y yn yc B bn bc] w (Rt w (.int .i64 n)) := by
 obtain ⟨b, o, rfl⟩ := hB.out.some (by rw [hbn.out]; exact hpos)
 obtain ⟨R, hR⟩ : ∃ R, rows.getD 0 dh = R := ⟨_, rfl⟩
 obtain ⟨p, n0, k, xs⟩ := R
 obtain rfl : n0 = n := by rw [← hn.out, fZ, hR]
 have hc := (hB.out.below (af w (jw Y yn yc (some ⟨b, o, none⟩) bn bc))).head (by rw [hbn.out]; exact hpos) hR
 clear hR hB hn
 go_in
 go_wp2
 go_ret
 exact ⟨rfl, af _ _⟩
theorem Ou (P Q G : Int) (n a g : Nat) (h1 : P < 2305843009213693952) (Cy : 0 ≤ Q) (hQ : Q < 9223372036854775808) (ac4 : n ≤ 12) (W : World) (hn : Hid (W.cell? ⟨a, 0, none⟩ = some (.int .i64 n))) (hx : Hid (nS W g P Q G)) :
  Np 257 #[.pointer (some ⟨a, 0, none⟩), .pointer (some ⟨g, 0, none⟩)] (fun r => !mo P Q n r) W := fun r w1 hb hok => by
 obtain ⟨p, m, c, xs⟩ := r
 show Calls Tryz.prog 257 #[.slice p m c, .pointer (some ⟨a, 0, none⟩), .pointer (some ⟨g, 0, none⟩)] w1 fun e w' => e = .returned (.bool (!mo P Q n ⟨p, m, c, xs⟩)) ∧ Below w1.heap.size w1 w'
 obtain ⟨c0, c1, c2⟩ := hx.out.below hb
 have ca := cell_below hn.out hb
 have hl : xs.length = m := hok.1
 have HS : Hid (Sl w1 p xs) := aa hok.2
 by_cases hm : m = n
 ·
  subst hm
  obtain ⟨r, hr⟩ : ∃ r, xs.all (aG P Q) = r := ⟨_, rfl⟩
  have e : mo P Q m ⟨p, m, c, xs⟩ = r := by simp [mo, hr]
  rw [e]
  have HR := aa hr
  have HL := aa hl
  clear hr hb hok e hl
  go_in
  go_wp2_with fail
  refine (jy P Q G p xs m c r HR HL (aa (by omega)) h1 Cy hQ _ HS).mono ?_
  rintro e w2 ⟨rfl, hb0⟩
  go_wp2
  go_ret
  exact ⟨rfl, hb0⟩
 ·
  have e : mo P Q n ⟨p, m, c, xs⟩ = false := by simp [mo, hm]
  rw [e]
  have hne : ((m : Int) != (n : Int)) = true := by simp; omega
  clear hb hok e hl
  go_in
  go_wp2
  go_ret
  exact ⟨rfl, Below.refl _ _⟩
theorem BZ {f : Row → Bool} {xs : List Row} : (xs.any fun x => !f x) = !(xs.all f) := by
 induction xs with
 | nil => rfl
 | cons x xs ih => rw [List.any_cons, List.all_cons, ih, Bool.not_and]
theorem jL (P Q G : Int) (Y : Option Addr) (ys : List Int) (yn yc : Nat) (B : Option Addr) (rows : List Row) (bn bc : Nat) (r : Bool) (hr : Hid (eD P Q G ys rows = r)) (hyn : Hid (ys.length = yn)) (hbn : Hid (rows.length = bn)) (hQ : Q < 9223372036854775808) (w : World) (hv : Hid (Vars w)) (hY : Hid (Sl w Y ys)) (hB : Hid (Rw w B rows)) :
  Calls Tryz.prog 238 #[gv P Q G, gQ Y yn yc B bn bc] w (Rt w (.bool r)) := by
 obtain ⟨w0, hW⟩ : ∃ W, (w.alloc (bq P Q G)).alloc (jw Y yn yc B bn bc) = W := ⟨_, rfl⟩
 have ai : Hid (Below w.heap.size w w0) := aa (by rw [← hW]; exact aI (Below.refl _ _))
 have HX0 : Hid (nS w0 w.heap.size P Q G) := aa (by rw [← hW]; exact (aW w P Q G).below (af _ _))
 have ek : Hid (p_ w0 (w.heap.size + 1) (.slice Y yn yc) (.slice B bn bc)) := aa (by rw [← hW]; exact dN _ _ _ _ _)
 have w_ : Hid (Sl w0 Y ys) := aa (hY.out.below ai.out)
 have oJ : Hid (Rw w0 B rows) := aa (hB.out.below ai.out)
 have qy : Hid (Vars w0) := aa (hv.out.below ai.out)
 have HW := aa hW
 clear hW hY hv
 have hr' := hr.out
 rw [eD, hyn.out, hbn.out] at hr'
 cases hval : aV P Q G with
 | false =>
  obtain rfl : r = false := by rw [← hr', hval, Bool.false_and]
  have jV := aa hval
  clear hr hr' hval hB
  go_in
  go_wp2_with fail
  rw [HW.out]
  go_wp2_with fail
  refine (dB P Q G false jV hQ _ qy).mono ?_
  rintro e w1 ⟨rfl, hb0⟩
  have hb1 := ag (ai.out) hb0
  have ry := aa (qy.out.below hb0)
  have qz := aa (HX0.out.below hb0)
  have HR1 := aa (ek.out.below hb0)
  have wZ := aa (w_.out.below hb0)
  have nP := aa (oJ.out.below hb0)
  clear hb0
  obtain ⟨c0, c1, c2⟩ := qz.out
  obtain ⟨d0, d1⟩ := HR1.out
  go_wp2
  go_ret
  exact ⟨rfl, hb1⟩
 | true =>
  obtain ⟨hp2, hp, hq3, Av⟩ := bH hval
  have jV := aa hval
  rw [hval, Bool.true_and] at hr'
  clear hval
  by_cases h1 : yn < 1
  ·
   obtain rfl : r = false := by rw [← hr', decide_eq_false (show ¬ 1 ≤ yn by omega)]; rfl
   have aae : decide ((yn : Int) < 1) = true := by simp; omega
   clear hr hr' hB
   go_in
   go_wp2_with fail
   rw [HW.out]
   go_wp2_with fail
   refine (dB P Q G true jV hQ _ qy).mono ?_
   rintro e w1 ⟨rfl, hb0⟩
   have hb1 := ag (ai.out) hb0
   have ry := aa (qy.out.below hb0)
   have qz := aa (HX0.out.below hb0)
   have HR1 := aa (ek.out.below hb0)
   have wZ := aa (w_.out.below hb0)
   have nP := aa (oJ.out.below hb0)
   clear hb0
   obtain ⟨c0, c1, c2⟩ := qz.out
   obtain ⟨d0, d1⟩ := HR1.out
   go_wp2
   go_ret
   exact ⟨rfl, hb1⟩
  ·
   rw [decide_eq_true (show 1 ≤ yn by omega), Bool.true_and] at hr'
   have aae : decide ((yn : Int) < 1) = false := by simp; omega
   by_cases h2 : 8 < yn
   ·
    obtain rfl : r = false := by rw [← hr', decide_eq_false (show ¬ yn ≤ 8 by omega)]; rfl
    have aad : decide ((8 : Int) < (yn : Int)) = true := by simp; omega
    clear hr hr' hB
    go_in
    go_wp2_with fail
    rw [HW.out]
    go_wp2_with fail
    refine (dB P Q G true jV hQ _ qy).mono ?_
    rintro e w1 ⟨rfl, hb0⟩
    have hb1 := ag (ai.out) hb0
    have ry := aa (qy.out.below hb0)
    have qz := aa (HX0.out.below hb0)
    have HR1 := aa (ek.out.below hb0)
    have wZ := aa (w_.out.below hb0)
    have nP := aa (oJ.out.below hb0)
    clear hb0
    obtain ⟨c0, c1, c2⟩ := qz.out
    obtain ⟨d0, d1⟩ := HR1.out
    go_wp2
    go_ret
    exact ⟨rfl, hb1⟩
   ·
    rw [decide_eq_true (show yn ≤ 8 by omega), Bool.true_and] at hr'
    have aad : decide ((8 : Int) < (yn : Int)) = false := by simp; omega
    by_cases h3 : ¬ bn = yn
    ·
     obtain rfl : r = false := by rw [← hr', decide_eq_false h3]; rfl
     have WH : ((bn : Int) != (yn : Int)) = true := by simp; omega
     clear hr hr' hB
     go_in
     go_wp2_with fail
     rw [HW.out]
     go_wp2_with fail
     refine (dB P Q G true jV hQ _ qy).mono ?_
     rintro e w1 ⟨rfl, hb0⟩
     have hb1 := ag (ai.out) hb0
     have ry := aa (qy.out.below hb0)
     have qz := aa (HX0.out.below hb0)
     have HR1 := aa (ek.out.below hb0)
     have wZ := aa (w_.out.below hb0)
     have nP := aa (oJ.out.below hb0)
     clear hb0
     obtain ⟨c0, c1, c2⟩ := qz.out
     obtain ⟨d0, d1⟩ := HR1.out
     go_wp2
     go_ret
     exact ⟨rfl, hb1⟩
    ·
     rw [decide_eq_true (show bn = yn by omega), Bool.true_and] at hr'
     have WH : ((bn : Int) != (yn : Int)) = false := by simp; omega
     obtain rfl : bn = yn := by omega
     clear WH h3
     cases h4 : ys.all (aG P Q) with
     | false =>
      obtain rfl : r = false := by rw [← hr', h4]; rfl
      have HE := aa h4
      clear hr hr' hB h4
      go_in
      go_wp2_with fail
      rw [HW.out]
      go_wp2_with fail
      refine (dB P Q G true jV hQ _ qy).mono ?_
      rintro e w1 ⟨rfl, hb0⟩
      have hb1 := ag (ai.out) hb0
      have ry := aa (qy.out.below hb0)
      have qz := aa (HX0.out.below hb0)
      have HR1 := aa (ek.out.below hb0)
      have wZ := aa (w_.out.below hb0)
      have nP := aa (oJ.out.below hb0)
      clear hb0
      obtain ⟨c0, c1, c2⟩ := qz.out
      obtain ⟨d0, d1⟩ := HR1.out
      go_wp2_with fail
      refine (jy P Q G Y ys bn yc false HE hyn (aa (by omega)) hp (by omega) hQ _ wZ).mono ?_
      rintro e w2 ⟨rfl, hb0⟩
      have hb2 := ag hb1 hb0
      have xq := aa (ry.out.below hb0)
      have zz := aa (qz.out.below hb0)
      have HR2 := aa (HR1.out.below hb0)
      have Nt := aa (wZ.out.below hb0)
      have Cb := aa (nP.out.below hb0)
      clear c0 c1 c2 d0 d1 hb0
      obtain ⟨c0, c1, c2⟩ := zz.out
      obtain ⟨d0, d1⟩ := HR2.out
      go_wp2
      go_ret
      exact ⟨rfl, hb2⟩
     | true =>
      have HE := aa h4
      rw [h4, Bool.true_and] at hr'
      obtain ⟨b0, o0, rfl⟩ := hB.out.some (by rw [hbn.out]; omega)
      obtain ⟨R, hR⟩ : ∃ R, rows.getD 0 dh = R := ⟨_, rfl⟩
      obtain ⟨p0, n0, k0, x0⟩ := R
      have hN : fZ rows = n0 := by rw [fZ, hR]
      rw [hN] at hr'
      have hpos : 0 < rows.length := by rw [hbn.out]; omega
      have abJ : 0 < bn := by omega
      have HR_ := aa hR
      clear hR h4 hB hN
      by_cases h5 : n0 < 1
      ·
       obtain rfl : r = false := by rw [← hr', decide_eq_false (show ¬ 1 ≤ n0 by omega)]; rfl
       have d5 : decide ((n0 : Int) < 1) = true := by simp; omega
       clear hr hr'
       go_in
       go_wp2_with fail
       rw [HW.out]
       go_wp2_with fail
       refine (dB P Q G true jV hQ _ qy).mono ?_
       rintro e w1 ⟨rfl, hb0⟩
       have hb1 := ag (ai.out) hb0
       have ry := aa (qy.out.below hb0)
       have qz := aa (HX0.out.below hb0)
       have HR1 := aa (ek.out.below hb0)
       have wZ := aa (w_.out.below hb0)
       have nP := aa (oJ.out.below hb0)
       clear hb0
       obtain ⟨c0, c1, c2⟩ := qz.out
       obtain ⟨d0, d1⟩ := HR1.out
       go_wp2_with fail
       refine (jy P Q G Y ys bn yc true HE hyn (aa (by omega)) hp (by omega) hQ _ wZ).mono ?_
       rintro e w2 ⟨rfl, hb0⟩
       have hb2 := ag hb1 hb0
       have xq := aa (ry.out.below hb0)
       have zz := aa (qz.out.below hb0)
       have HR2 := aa (HR1.out.below hb0)
       have Nt := aa (wZ.out.below hb0)
       have Cb := aa (nP.out.below hb0)
       clear c0 c1 c2 d0 d1 hb0
       obtain ⟨c0, c1, c2⟩ := zz.out
       obtain ⟨d0, d1⟩ := HR2.out
       have hc0 := Cb.out.head hpos HR_.out
       have hq : Below w2.heap.size w2 (w2.alloc (.cells #[.int .i64 n0] 3)) := af _ _
       have bV := ag hb2 hq
       clear hq
       go_wp2
       go_ret
       exact ⟨rfl, bV⟩
      ·
       rw [decide_eq_true (show 1 ≤ n0 by omega), Bool.true_and] at hr'
       have d5 : decide ((n0 : Int) < 1) = false := by simp; omega
       by_cases h6 : 12 < n0
       ·
        obtain rfl : r = false := by rw [← hr', decide_eq_false (show ¬ n0 ≤ 12 by omega)]; rfl
        have d6 : decide ((12 : Int) < (n0 : Int)) = true := by simp; omega
        clear hr hr'
        go_in
        go_wp2_with fail
        rw [HW.out]
        go_wp2_with fail
        refine (dB P Q G true jV hQ _ qy).mono ?_
        rintro e w1 ⟨rfl, hb0⟩
        have hb1 := ag (ai.out) hb0
        have ry := aa (qy.out.below hb0)
        have qz := aa (HX0.out.below hb0)
        have HR1 := aa (ek.out.below hb0)
        have wZ := aa (w_.out.below hb0)
        have nP := aa (oJ.out.below hb0)
        clear hb0
        obtain ⟨c0, c1, c2⟩ := qz.out
        obtain ⟨d0, d1⟩ := HR1.out
        go_wp2_with fail
        refine (jy P Q G Y ys bn yc true HE hyn (aa (by omega)) hp (by omega) hQ _ wZ).mono ?_
        rintro e w2 ⟨rfl, hb0⟩
        have hb2 := ag hb1 hb0
        have xq := aa (ry.out.below hb0)
        have zz := aa (qz.out.below hb0)
        have HR2 := aa (HR1.out.below hb0)
        have Nt := aa (wZ.out.below hb0)
        have Cb := aa (nP.out.below hb0)
        clear c0 c1 c2 d0 d1 hb0
        obtain ⟨c0, c1, c2⟩ := zz.out
        obtain ⟨d0, d1⟩ := HR2.out
        have hc0 := Cb.out.head hpos HR_.out
        have hq : Below w2.heap.size w2 (w2.alloc (.cells #[.int .i64 n0] 3)) := af _ _
        have bV := ag hb2 hq
        clear hq
        go_wp2
        go_ret
        exact ⟨rfl, bV⟩
       ·
        rw [decide_eq_true (show n0 ≤ 12 by omega), Bool.true_and] at hr'
        have d6 : decide ((12 : Int) < (n0 : Int)) = false := by simp; omega
        have HP : Hid ((rows.any fun x => !mo P Q n0 x) = !r) := aa (by rw [BZ, hr'])
        clear hr hr'
        go_in
        go_wp2_with fail
        rw [HW.out]
        go_wp2_with fail
        refine (dB P Q G true jV hQ _ qy).mono ?_
        rintro e w1 ⟨rfl, hb0⟩
        have hb1 := ag (ai.out) hb0
        have ry := aa (qy.out.below hb0)
        have qz := aa (HX0.out.below hb0)
        have HR1 := aa (ek.out.below hb0)
        have wZ := aa (w_.out.below hb0)
        have nP := aa (oJ.out.below hb0)
        clear hb0
        obtain ⟨c0, c1, c2⟩ := qz.out
        obtain ⟨d0, d1⟩ := HR1.out
        go_wp2_with fail
        refine (jy P Q G Y ys bn yc true HE hyn (aa (by omega)) hp (by omega) hQ _ wZ).mono ?_
        rintro e w2 ⟨rfl, hb0⟩
        have hb2 := ag hb1 hb0
        have xq := aa (ry.out.below hb0)
        have zz := aa (qz.out.below hb0)
        have HR2 := aa (HR1.out.below hb0)
        have Nt := aa (wZ.out.below hb0)
        have Cb := aa (nP.out.below hb0)
        clear c0 c1 c2 d0 d1 hb0
        obtain ⟨c0, c1, c2⟩ := zz.out
        obtain ⟨d0, d1⟩ := HR2.out
        have hc0 := Cb.out.head hpos HR_.out
        have hq : Below w2.heap.size w2 (w2.alloc (.cells #[.int .i64 n0] 3)) := af _ _
        have hcn : (w2.alloc (.cells #[.int .i64 n0] 3)).cell? ⟨w2.heap.size, 0, none⟩ = some (.int .i64 n0) := World.cell?_alloc_at _ _ _ _ rfl
        have HXn := aa (zz.out.below hq)
        have HWn := aa (Cb.out.below hq)
        have ZJ := ag hb2 hq
        have hRn := HR2.out.below hq
        obtain ⟨d2, d3⟩ := hRn
        have TY := aa (Ou P Q G n0 w2.heap.size w.heap.size hp (by omega) hQ (by omega) _ (aa hcn) HXn)
        have U8 := aa (Tz (.pointer (some ⟨w2.heap.size, 0, none⟩)) (.pointer (some ⟨w.heap.size, 0, none⟩)) (fun x => !mo P Q n0 x) (!r) (some ⟨b0, o0, none⟩) rows bn bc HP hbn (aa (by omega)) _ HWn TY)
        clear hq
        go_wp2_with fail
        refine U8.out.mono ?_
        rintro e w9 ⟨rfl, hb0⟩
        have bV := ag ZJ hb0
        clear hb0
        go_wp2
        go_ret
        exact ⟨by simp, bV⟩
end Go.Proofs.YtchcllcbknfikaaGreatDoor
namespace Go.Proofs.YtchcllcbknfikaaGreatDoor
open Go.ChangeShapes Go.WideShapes Go.ChangeAt Go.RowKit rQ
section
variable {H : Type} {enc : TypeId × Value → H} {w : World} {base : Nat} {held : Bool}
end
section
variable {H : Type} {enc : TypeId × Value → H} {w : World} {base : Nat} {held : Bool}
theorem Es : Tryz.prog.cellsOf 24 = 1 := by kernel_rfl
theorem open_row {n : Nat} {cs : List Value} {x : DataW H × List MemPlace} (h : DataW.trod enc Tryz.prog w base (fun _ => true) held n 24 cs = some x) :
  ∃ R : Row, cs = [R.val] ∧ zh w R := by
 rcases open_ints Tryz.underlying24 Tryz.underlying3 kG h with ⟨rfl, _⟩ | ⟨a, len, cap, zs, rfl, _, hlc, _, hz, _, hcell, _⟩
 · exact ⟨dh, rfl, rfl, fun k hk => absurd hk (by simp)⟩
 ·
  simp at hz
  refine ⟨⟨some a, len, cap, zs.take len⟩, rfl, by show (zs.take len).length = len; rw [List.length_take]; omega, fun k hk => ?_⟩
  dsimp only at hk ⊢
  rw [List.length_take] at hk
  obtain ⟨b, off, rfl, hc⟩ := ints_at hcell (by omega)
  refine ⟨b, off, rfl, ?_⟩
  rw [hc k (by omega), List.getD_eq_getElem?_getD, List.getD_eq_getElem?_getD, List.getElem?_take_of_lt (by omega)]
end
theorem ze : Tryz.prog.cellsOf 54 = 3 := by kernel_rfl
section
variable {H : Type} {enc : TypeId × Value → H} {w : World} {base : Nat} {held : Bool}
end
theorem M7 : Tryz.prog.cellsOf 99 = 5 := by kernel_rfl
section
variable {H : Type} {enc : TypeId × Value → H} {w : World} {base : Nat} {held : Bool}
end
end Go.Proofs.YtchcllcbknfikaaGreatDoor
namespace Go.Proofs.YtchcllcbknfikaaGreatDoor
open Go
section
variable {P : Program} {ops : Array Oper} {Q : Exit → Act → World → Prop} {md : Region.Mode} {S : World → Prop} {E : List Nat}
def kM (P : Program) (md : Region.Mode) (ops : Array Oper) (Q : Exit → Act → World → Prop) (S : World → Prop) (E : List Nat) : Nat → Array Bool → Act → World → Prop
 | 0, listed, a, w => Region.ready md ops listed = [] ∧ Q .normal a w
 | fuel + 1, listed, a, w =>
  (Region.ready md ops listed = [] → Q .normal a w) ∧
  ∀ i ∈ Region.ready md ops listed, wpOp P ops Q i (fun a' w' => (i ∉ E → S w') ∧ kM P md ops Q S E fuel (listed.setIfInBounds i true) a' w') a w
theorem yj : ∀ (fuel : Nat) (listed : Array Bool) (a : Act) (w : World), kM P md ops Q S E fuel listed a w → wpAny P md ops Q fuel listed a w
 | 0, _, _, _, h => h
 | fuel + 1, _, _, _, h => ⟨h.1, fun i hi => wpOp_mono (fun a' w' h' => yj fuel _ a' w' h'.2) (h.2 i hi)⟩
def y_ (md : Region.Mode) (ops : Array Oper) (i : Nat) : List Nat :=
 (List.range ops.size).foldl (fun C x => if ((ops[x]?).map (·.after.any fun e => Region.binds md e && (e.on == i || C.contains e.on))).getD false then x :: C else C) []
def si (md : Region.Mode) (ops : Array Oper) (listed : Array Bool) (i : Nat) (E : List Nat) : Bool :=
 (E.all fun s => (y_ md ops i).contains s) && (y_ md ops i).all fun x => !listed.getD x true && ((ops[x]?).map (·.after.any fun e => Region.binds md e && (e.on == i || (y_ md ops i).contains e.on))).getD false
def Late (md : Region.Mode) (ops : Array Oper) (C : List Nat) (listed : Array Bool) (i : Nat) : Prop :=
 ∀ x ∈ C, listed.getD x true = false ∧ ∃ o, ops[x]? = some o ∧ ∃ e ∈ o.after, Region.binds md e = true ∧ (e.on = i ∨ e.on ∈ C)
theorem yU {listed : Array Bool} {i : Nat} (h : si md ops listed i E = true) : (∀ s ∈ E, s ∈ y_ md ops i) ∧ Late md ops (y_ md ops i) listed i := by
 unfold si at h
 rw [Bool.and_eq_true] at h
 refine ⟨fun s hs => by simpa using List.all_eq_true.1 h.1 s hs, fun x hx => ?_⟩
 have h2 := List.all_eq_true.1 h.2 x hx
 rw [Bool.and_eq_true] at h2
 refine ⟨by simpa using h2.1, ?_⟩
 have h3 := h2.2
 cases ho : ops[x]? with
 | none => rw [ho] at h3; simp at h3
 | some o =>
  rw [ho] at h3
  simp only [Option.map_some, Option.getD_some] at h3
  obtain ⟨e, he, hb⟩ := Array.any_eq_true'.1 h3
  simp only [Bool.and_eq_true, Bool.or_eq_true, beq_iff_eq] at hb
  exact ⟨o, rfl, e, he, hb.1, hb.2.imp id (by simp)⟩
theorem Late.not_ready {C : List Nat} {listed : Array Bool} {i j : Nat} (h : Late md ops C listed i) (hi : listed.getD i true = false) (hj : j ∈ Region.ready md ops listed) : j ∉ C := fun hc => by
 obtain ⟨_, o, ho, e, he, hb, h4⟩ := h j hc
 obtain ⟨_, o', ho', hall⟩ := mem_ready.1 hj
 rw [ho] at ho'
 cases ho'
 have h5 := hall e he hb
 have h6 : listed.getD e.on true = false := by
  rcases h4 with h4 | h4
  · rw [h4]; exact hi
  · exact (h _ h4).1
 rcases Nat.lt_or_ge e.on listed.size with h' | h'
 · simp [h'] at h5 h6; rw [h6] at h5; cases h5
 · simp [Array.getElem?_eq_none h'] at h5
theorem Late.step {C : List Nat} {listed : Array Bool} {i j : Nat} (h : Late md ops C listed i) (hj : j ∉ C) : Late md ops C (listed.setIfInBounds j true) i := fun x hx => by
 obtain ⟨h1, h2⟩ := h x hx
 have hne : j ≠ x := fun e => hj (by rw [e]; exact hx)
 exact ⟨by rw [getD_set_ne true hne]; exact h1, h2⟩
theorem IP {i : Nat} {oi : Oper} {v : Value} {C : List Nat} (hs : ∀ s ∈ E, s ∈ C) (hi : ops[i]? = some oi) (hsel : ∀ (j : Nat) (o : Oper) cs b, ops[j]? = some o → o.op ≠ .select cs b)
  (hQ : ∀ c a w, Q (.panic c) (a.put oi.dst v) w → Q (.panic c) a w) :
  ∀ (fuel : Nat) (listed : Array Bool) (a : Act) (w : World),
   (∀ j oj, ops[j]? = some oj → j ≠ i → listed.getD j true = false → (∀ e ∈ oj.after, Region.binds md e = true → e.on ≠ i) → oi.apart ops oj = true) →
   Late md ops C listed i → i ∈ Region.ready md ops listed → YieldsIf P ops S oi v a → S w →
   kM P md ops Q S E fuel (listed.setIfInBounds i true) (a.put oi.dst v) w → kM P md ops Q S E (fuel + 1) listed a w := by
 intro fuel
 induction fuel with
 | zero =>
  intro listed a w _ _ hr hy hS H
  refine ⟨fun h => (by rw [h] at hr; cases hr), fun j hj => ?_⟩
  by_cases hji : j = i
  · subst hji; exact hy.wpOp hi hS ⟨fun _ => hS, H⟩
  ·
   have := ready_mono hj hji
   rw [H.1] at this
   cases this
 | succ fuel ih =>
  intro listed a w hfree QC hr hy hS H
  refine ⟨fun h => (by rw [h] at hr; cases hr), fun j hj => ?_⟩
  by_cases hji : j = i
  · subst hji; exact hy.wpOp hi hS ⟨fun _ => hS, H⟩
  ·
   have h1 := H.2 j (ready_mono hj hji)
   have ZA := (mem_ready.1 hr).1
   have hjC := QC.not_ready ZA hj
   have hjs : j ∉ E := fun e => hjC (hs j e)
   obtain ⟨hjun, oj, hoj, hall⟩ := mem_ready.1 hj
   have hnot : ∀ e ∈ oj.after, Region.binds md e = true → e.on ≠ i := fun e he hb heq => by
    have h1 := hall e he hb
    have h0 := (mem_ready.1 hr).1
    rw [heq] at h1
    rcases Nat.lt_or_ge i listed.size with h' | h'
    · simp [h'] at h0 h1; rw [h0] at h1; cases h1
    · simp [Array.getElem?_eq_none h'] at h1
   have h2 := wpOp_putIf hoj (hfree j oj hoj hji hjun hnot) (fun cs b => hsel i oi cs b hi) (fun cs b => hsel j oj cs b hoj) hQ hy h1
   have hfree' : ∀ k ok, ops[k]? = some ok → k ≠ i → (listed.setIfInBounds j true).getD k true = false →
     (∀ e ∈ ok.after, Region.binds md e = true → e.on ≠ i) → oi.apart ops ok = true := fun k ok hk hki hun hno => by
    refine hfree k ok hk hki ?_ hno
    by_cases hjk : j = k
    · subst hjk; exact hjun
    · rw [getD_set_ne true hjk] at hun; exact hun
   refine wpOp_mono (fun a' w' h3 => ⟨fun _ => h3.2.1 hjs, ih (listed.setIfInBounds j true) a' w' hfree' (QC.step hjC) (ready_mono hr (Ne.symm hji)) h3.1 (h3.2.1 hjs) ?_⟩) h2
   rw [Array.setIfInBounds_comm _ _ hji]
   exact h3.2.2
theorem jX {i : Nat} {oi : Oper} {v : Value} {fuel : Nat} {listed : Array Bool} {a : Act} {w : World} (hi : ops[i]? = some oi)
  (hs : Region.noSelect ops = true) (hf : Region.free md ops listed i = true) (hr : (Region.ready md ops listed).contains i = true) (hl : si md ops listed i E = true)
  (hQ : ∀ c a w, Q (.panic c) (a.put oi.dst v) w → Q (.panic c) a w) (hy : YieldsIf P ops S oi v a) (hS : S w)
  (h : kM P md ops Q S E fuel (listed.setIfInBounds i true) (a.put oi.dst v) w) : kM P md ops Q S E (fuel + 1) listed a w :=
 IP (yU hl).1 hi (Region.noSelect_spec hs) hQ fuel listed a w (Region.free_spec hi hf) (yU hl).2 (by simpa using hr) hy hS h
theorem N7 {i : Nat} {o : Oper} {fuel : Nat} {listed : Array Bool} {a : Act} {w : World} (hr : Region.ready md ops listed = [i]) (ho : ops[i]? = some o)
  (h : ∀ K' : Act → World → Prop, Shut (∀ a w, S w → (S w → kM P md ops Q S E fuel (listed.setIfInBounds i true) a w) → K' a w) → if Region.wanted o (yielded ops a.tmps) = true then Oper.wp P o a w K' Q else K' (a.put o.dst undef) w) :
  kM P md ops Q S E (fuel + 1) listed a w :=
 ⟨fun h0 => absurd (hr ▸ h0) (by simp), fun j hj => by
  rw [hr] at hj
  obtain rfl : j = i := by simpa using hj
  exact wpOp_step ho (fun K' hK => h K' (fun a w hS hW => hK a w ⟨fun _ => hS, hW hS⟩))⟩
theorem qq1 {α : Type _} {xs : List α} {i : Nat} (h : i < xs.toArray.size) : xs.toArray[i] = xs[i]'(by simpa using h) := rfl
theorem qq2 {α : Type _} (a : α) (l : List α) (h : 0 < (a :: l).length) : getElem (a :: l) 0 h = a := rfl
theorem qq3 {α : Type _} (a : α) (l : List α) (i : Nat) (h : i + 1 < (a :: l).length) : getElem (a :: l) (i+1) h = getElem l i (Nat.lt_of_succ_lt_succ h) := rfl
theorem qq4 {α : Type _} (l : List α) (i : Nat) (a : α) : l.toArray.setIfInBounds i a = (l.set i a).toArray := List.setIfInBounds_toArray l i a
theorem qq5 {α : Type _} {x : α} {xs : List α} {a : α} : (x :: xs).set 0 a = a :: xs := rfl
theorem qq6 {α : Type _} {x : α} {xs : List α} {i : Nat} {a : α} : (x :: xs).set (i + 1) a = x :: xs.set i a := rfl
theorem tkV (i : Nat) {oi : Oper} {v : Value} {fuel : Nat} {listed : Array Bool} {a : Act} {w : World} (h : kM P md ops Q S E fuel (listed.setIfInBounds i true) (a.put oi.dst v) w) (hi : ops[i]? = some oi := by rfl)
  (hs : Region.noSelect ops = true := by kernel_rfl) (hf : Region.free md ops listed i = true := by kernel_rfl) (hr : (Region.ready md ops listed).contains i = true := by kernel_rfl) (hl : si md ops listed i E = true := by kernel_rfl)
  (hQ : ∀ c a w, Q (.panic c) (a.put oi.dst v) w → Q (.panic c) a w := by exact fun _ _ _ h => h) (hw : Region.wanted oi (yielded ops a.tmps) = true := by rfl)
  (hy : ∀ w, S w → (execOp a.eval oi).run P w = .ok (.value v) w := by intro wS hSw; (try dsimp only at hSw); go_simp <;> with_reducible rfl) (hS : S w := by assumption) : kM P md ops Q S E (fuel + 1) listed a w :=
 jX hi hs hf hr hl hQ (Or.inl ⟨hw, hy⟩) hS h
theorem tkU (i : Nat) {oi : Oper} {fuel : Nat} {listed : Array Bool} {a : Act} {w : World} (h : kM P md ops Q S E fuel (listed.setIfInBounds i true) (a.put oi.dst undef) w) (hi : ops[i]? = some oi := by rfl)
  (hs : Region.noSelect ops = true := by kernel_rfl) (hf : Region.free md ops listed i = true := by kernel_rfl) (hr : (Region.ready md ops listed).contains i = true := by kernel_rfl) (hl : si md ops listed i E = true := by kernel_rfl)
  (hQ : ∀ c a w, Q (.panic c) (a.put oi.dst undef) w → Q (.panic c) a w := by exact fun _ _ _ h => h) (hw : Region.wanted oi (yielded ops a.tmps) = false := by rfl) (hS : S w := by assumption) : kM P md ops Q S E (fuel + 1) listed a w :=
 jX hi hs hf hr hl hQ (Or.inr ⟨hw, rfl⟩) hS h
theorem NZ {i1 i2 : Nat} {o1 o2 : Oper} {fuel : Nat} {listed : Array Bool} {a : Act} {w : World} (hr : Region.ready md ops listed = [i1, i2]) (ho1 : ops[i1]? = some o1) (ho2 : ops[i2]? = some o2)
  (h1 : ∀ K' : Act → World → Prop, Shut (∀ a w, S w → (S w → kM P md ops Q S E fuel (listed.setIfInBounds i1 true) a w) → K' a w) → if Region.wanted o1 (yielded ops a.tmps) = true then Oper.wp P o1 a w K' Q else K' (a.put o1.dst undef) w)
  (h2 : ∀ K' : Act → World → Prop, Shut (∀ a w, S w → (S w → kM P md ops Q S E fuel (listed.setIfInBounds i2 true) a w) → K' a w) → if Region.wanted o2 (yielded ops a.tmps) = true then Oper.wp P o2 a w K' Q else K' (a.put o2.dst undef) w) :
  kM P md ops Q S E (fuel + 1) listed a w :=
 ⟨fun h0 => absurd (hr ▸ h0) (by simp), fun j hj => by
  rw [hr] at hj
  rcases (by simpa using hj : j = i1 ∨ j = i2) with rfl | rfl
  · exact wpOp_step ho1 (fun K' hK => h1 K' (fun a w hS hW => hK a w ⟨fun _ => hS, hW hS⟩))
  · exact wpOp_step ho2 (fun K' hK => h2 K' (fun a w hS hW => hK a w ⟨fun _ => hS, hW hS⟩))⟩
theorem Kh {i : Nat} {o : Oper} {fuel : Nat} {listed : Array Bool} {a : Act} {w : World} (hr : Region.ready md ops listed = [i]) (hE : i ∈ E) (ho : ops[i]? = some o)
  (h : ∀ K' : Act → World → Prop, Shut (∀ a w, kM P md ops Q S E fuel (listed.setIfInBounds i true) a w → K' a w) → if Region.wanted o (yielded ops a.tmps) = true then Oper.wp P o a w K' Q else K' (a.put o.dst undef) w) :
  kM P md ops Q S E (fuel + 1) listed a w :=
 ⟨fun h0 => absurd (hr ▸ h0) (by simp), fun j hj => by
  rw [hr] at hj
  obtain rfl : j = i := by simpa using hj
  exact wpOp_step ho (fun K' hK => h K' (fun a w hW => hK a w ⟨fun h => absurd hE h, hW⟩))⟩
theorem CL {i1 i2 : Nat} {o1 o2 : Oper} {fuel : Nat} {listed : Array Bool} {a : Act} {w : World} (hr : Region.ready md ops listed = [i1, i2]) (hE1 : i1 ∈ E) (hE2 : i2 ∈ E) (ho1 : ops[i1]? = some o1) (ho2 : ops[i2]? = some o2)
  (h1 : ∀ K' : Act → World → Prop, Shut (∀ a w, kM P md ops Q S E fuel (listed.setIfInBounds i1 true) a w → K' a w) → if Region.wanted o1 (yielded ops a.tmps) = true then Oper.wp P o1 a w K' Q else K' (a.put o1.dst undef) w)
  (h2 : ∀ K' : Act → World → Prop, Shut (∀ a w, kM P md ops Q S E fuel (listed.setIfInBounds i2 true) a w → K' a w) → if Region.wanted o2 (yielded ops a.tmps) = true then Oper.wp P o2 a w K' Q else K' (a.put o2.dst undef) w) :
  kM P md ops Q S E (fuel + 1) listed a w :=
 ⟨fun h0 => absurd (hr ▸ h0) (by simp), fun j hj => by
  rw [hr] at hj
  rcases (by simpa using hj : j = i1 ∨ j = i2) with rfl | rfl
  · exact wpOp_step ho1 (fun K' hK => h1 K' (fun a w hW => hK a w ⟨fun h => absurd hE1 h, hW⟩))
  · exact wpOp_step ho2 (fun K' hK => h2 K' (fun a w hW => hK a w ⟨fun h => absurd hE2 h, hW⟩))⟩
theorem Ki {listed : Array Bool} {a : Act} {w : World} (hr : Region.ready md ops listed = []) (h : Q .normal a w) : ∀ fuel, kM P md ops Q S E fuel listed a w
 | 0 => ⟨hr, h⟩
 | _ + 1 => ⟨fun _ => h, by rw [hr]; simp⟩
theorem bD {id : Nat} {a : Act} {w : World} (hm : P.follows .mixedOrders = true) (hS : S w.drew)
  (h : S w.drew → kM P .any ops Q S E ops.size (Array.replicate ops.size false) a w.drew) : (Code.region id ops true).wp P Q a w :=
 wp_region_any hm (yj _ _ _ _ (h hS))
end
section
variable {P : Program} {ops : Array Oper} {Q : Exit → Act → World → Prop} {md : Region.Mode} {S : World → Prop} {E : List Nat}
theorem IM {fuel : Nat} {listed : Array Bool} {a : Act} {w : World} (h : ∀ (T : Nat → Array Bool → Act → World → Prop) (a0 : Act), T = kM P md ops Q S E → a0 = a → T fuel listed a0 w) : kM P md ops Q S E fuel listed a w := h _ _ rfl rfl
end
end Go.Proofs.YtchcllcbknfikaaGreatDoor
namespace Go.Proofs.YtchcllcbknfikaaGreatDoor
open Go.RowKit rQ
theorem pY {b c u : World} (h : Hid (Below b.heap.size b c)) (h2 : Hid (Below c.heap.size c u)) : Hid (Below b.heap.size b u) := aa (ag h.out h2.out)
theorem bY {b c u : World} (h : Hid (Below b.heap.size b c)) (h2 : Below c.heap.size c u) : Hid (Below b.heap.size b u) := aa (ag h.out h2)
theorem bb2 {a b u u2 : World} (h : Hid (Below a.heap.size a u ∧ Below b.heap.size b u)) (q : Below u.heap.size u u2) : Hid (Below a.heap.size a u2 ∧ Below b.heap.size b u2) := aa ⟨ag h.out.1 q, ag h.out.2 q⟩
theorem bb3 {a b c u u2 : World} (h : Hid (Below a.heap.size a u ∧ Below b.heap.size b u ∧ Below c.heap.size c u)) (q : Below u.heap.size u u2) : Hid (Below a.heap.size a u2 ∧ Below b.heap.size b u2 ∧ Below c.heap.size c u2) := aa ⟨ag h.out.1 q, ag h.out.2.1 q, ag h.out.2.2 q⟩
theorem bb4 {a b c d u u2 : World} (h : Hid (Below a.heap.size a u ∧ Below b.heap.size b u ∧ Below c.heap.size c u ∧ Below d.heap.size d u)) (q : Below u.heap.size u u2) : Hid (Below a.heap.size a u2 ∧ Below b.heap.size b u2 ∧ Below c.heap.size c u2 ∧ Below d.heap.size d u2) := aa ⟨ag h.out.1 q, ag h.out.2.1 q, ag h.out.2.2.1 q, ag h.out.2.2.2 q⟩
theorem Yx {P : Program} {f : Nat} {args : Array Value} {b w : World} {E0 : Ending} {Q : Ending → World → Prop} (hB : Hid (Below b.heap.size b w)) (h : Calls P f args w fun e w' => e = E0 ∧ Below w.heap.size w w') (k : ∀ w', Hid (Below b.heap.size b w') → Q E0 w') : Calls P f args w Q :=
 h.mono (fun e w' he => by obtain ⟨rfl, hb⟩ := he; exact k w' (bY hB hb))
theorem eB {P : Program} {f : Nat} {args : Array Value} {b w : World} {E0 : Ending} {Q : Ending → World → Prop} {C : World → Prop} (kC : Hid (∀ u, Hid (Below b.heap.size b u) → C u)) (hB : Hid (Below b.heap.size b w)) (h : Calls P f args w fun e w' => e = E0 ∧ Below w.heap.size w w') (k : ∀ w', Hid (Below b.heap.size b w') → C w' → Q E0 w') : Calls P f args w Q :=
 Yx hB h (fun w' h' => k w' h' (kC.out _ h'))
theorem MU {P : Program} {f : Nat} {args : Array Value} {b c w : World} {E0 : Ending} {Q : Ending → World → Prop} (hB : Hid (Below b.heap.size b w)) (hC : Hid (Below c.heap.size c w)) (h : Calls P f args w fun e w' => e = E0 ∧ Below w.heap.size w w') (k : ∀ w', Hid (Below b.heap.size b w') → Hid (Below c.heap.size c w') → Q E0 w') : Calls P f args w Q :=
 h.mono (fun e w' he => by obtain ⟨rfl, hb⟩ := he; exact k w' (bY hB hb) (bY hC hb))
theorem rW {P : Program} {f : Nat} {args : Array Value} {b c d w : World} {E0 : Ending} {Q : Ending → World → Prop} (hB : Hid (Below b.heap.size b w)) (hC : Hid (Below c.heap.size c w)) (hD : Hid (Below d.heap.size d w)) (h : Calls P f args w fun e w' => e = E0 ∧ Below w.heap.size w w') (k : ∀ w', Hid (Below b.heap.size b w') → Hid (Below c.heap.size c w') → Hid (Below d.heap.size d w') → Q E0 w') : Calls P f args w Q :=
 h.mono (fun e w' he => by obtain ⟨rfl, hb⟩ := he; exact k w' (bY hB hb) (bY hC hb) (bY hD hb))
theorem bS (b : World) : Hid (Below b.heap.size b b) := aa (Below.refl _ _)
theorem gV {w w0 : World} (φ : World → Prop) (hb : Hid (Below w.heap.size w w0)) (h : Hid (φ w)) (st : ∀ {u}, φ w → Below w.heap.size w u → φ u) : Hid (∀ u : World, Hid (Below w0.heap.size w0 u) → Hid (φ u)) :=
 aa (fun u hu => aa (st h.out (ag hb.out hu.out)))
theorem wh {w : World} (φ : World → Prop) (h : φ w) (st : ∀ {u}, φ w → Below w.heap.size w u → φ u) : Hid (∀ u : World, Hid (Below w.heap.size w u) → Hid (φ u)) :=
 aa (fun u hu => aa (st h hu.out))
theorem mkS {w w0 : World} {A : Option Addr} {xs : List Int} (hb : Hid (Below w.heap.size w w0)) (h : Hid (Sl w A xs)) : Hid (∀ u : World, Hid (Below w0.heap.size w0 u) → Hid (Sl u A xs)) := gV (fun u => Sl u A xs) hb h (·.below)
theorem mkV {w w0 : World} (hb : Hid (Below w.heap.size w w0)) (h : Hid (Vars w)) : Hid (∀ u : World, Hid (Below w0.heap.size w0 u) → Hid (Vars u)) := gV (fun u => Vars u) hb h (·.below)
theorem r_ {w w0 : World} (hb : Hid (Below w.heap.size w w0)) (h : Hid (bF w)) : Hid (∀ u : World, Hid (Below w0.heap.size w0 u) → Hid (bF u)) := gV (fun u => bF u) hb h (·.below)
theorem O4 {w0 : World} (b : Nat) {o : Obj} (h : w0.heap[b]? = some o) : Hid (∀ u : World, Hid (Below w0.heap.size w0 u) → Hid (u.heap[b]? = some o)) := aa (fun u hu => aa ((hu.out.block b (Array.getElem?_eq_some_iff.1 h).1).trans h))
theorem Yj {w0 : World} {p : Addr} {v : Value} (h : w0.cell? p = some v) : Hid (∀ u : World, Hid (Below w0.heap.size w0 u) → u.cell? p = some v) := aa (fun u hu => cell_below h hu.out)
theorem fe {w w0 u : World} (h : Hid (Below w.heap.size w w0)) (h2 : Hid (Below w0.heap.size w0 u)) : Below w.heap.size w u := ag h.out h2.out
def BO (u : World) (b : Nat) (o : Obj) : Prop := ∃ c T, o = .cells c T ∧ ∀ (j : Nat) v, c[j]? = some v → Own u ⟨b, j, none⟩ v
theorem BO.new (w : World) (c : Array Value) (T : TypeId) : BO (w.alloc (.cells c T)) w.heap.size (.cells c T) := ⟨c, T, rfl, fun _ _ h => Gt rfl h⟩
theorem BO.below {u u2 : World} {b : Nat} {o : Obj} (h : BO u b o) (hb : Below u.heap.size u u2) : BO u2 b o := by
 obtain ⟨c, T, e, h⟩ := h
 exact ⟨c, T, e, fun j v hj => (h j v hj).below hb⟩
theorem BO.get {u : World} {b : Nat} {c : Array Value} {T : TypeId} (h : BO u b (.cells c T)) (j : Nat) {v : Value} (hj : c[j]? = some v) : Own u ⟨b, j, none⟩ v := by
 obtain ⟨c', T', e, h⟩ := h
 cases e
 exact h j v hj
theorem xO {c : Array Value} {T : TypeId} (u : World) (b : Nat) (h : BO u b (.cells c T)) : True := trivial
theorem bq1 {a0 : Value} {r : List Value} {T : TypeId} (u : World) (b : Nat) (h : BO u b (.cells (a0 :: r).toArray T)) : u.cell? ⟨b, 0, none⟩ = some a0 := (h.get 0 (by simp)).1
theorem xN {a0 a1 : Value} {r : List Value} {T : TypeId} (u : World) (b : Nat) (h : BO u b (.cells (a0 :: a1 :: r).toArray T)) : u.cell? ⟨b, 0, none⟩ = some a0 ∧ u.cell? ⟨b, 1, none⟩ = some a1 := ⟨(h.get 0 (by simp)).1, (h.get 1 (by simp)).1⟩
theorem p8 {a0 a1 a2 : Value} {r : List Value} {T : TypeId} (u : World) (b : Nat) (h : BO u b (.cells (a0 :: a1 :: a2 :: r).toArray T)) : u.cell? ⟨b, 0, none⟩ = some a0 ∧ u.cell? ⟨b, 1, none⟩ = some a1 ∧ u.cell? ⟨b, 2, none⟩ = some a2 := ⟨(h.get 0 (by simp)).1, (h.get 1 (by simp)).1, (h.get 2 (by simp)).1⟩
theorem sG {a0 a1 a2 a3 a4 : Value} {r : List Value} {T : TypeId} (u : World) (b : Nat) (h : BO u b (.cells (a0 :: a1 :: a2 :: a3 :: a4 :: r).toArray T)) : u.cell? ⟨b, 0, none⟩ = some a0 ∧ u.cell? ⟨b, 1, none⟩ = some a1 ∧ u.cell? ⟨b, 2, none⟩ = some a2 ∧ u.cell? ⟨b, 3, none⟩ = some a3 ∧ u.cell? ⟨b, 4, none⟩ = some a4 := ⟨(h.get 0 (by simp)).1, (h.get 1 (by simp)).1, (h.get 2 (by simp)).1, (h.get 3 (by simp)).1, (h.get 4 (by simp)).1⟩
theorem xM {a0 a1 a2 a3 a4 a5 a6 a7 a8 : Value} {r : List Value} {T : TypeId} (u : World) (b : Nat) (h : BO u b (.cells (a0 :: a1 :: a2 :: a3 :: a4 :: a5 :: a6 :: a7 :: a8 :: r).toArray T)) : u.cell? ⟨b, 0, none⟩ = some a0 ∧ u.cell? ⟨b, 1, none⟩ = some a1 ∧ u.cell? ⟨b, 2, none⟩ = some a2 ∧ u.cell? ⟨b, 3, none⟩ = some a3 ∧ u.cell? ⟨b, 4, none⟩ = some a4 ∧ u.cell? ⟨b, 5, none⟩ = some a5 ∧ u.cell? ⟨b, 6, none⟩ = some a6 ∧ u.cell? ⟨b, 7, none⟩ = some a7 ∧ u.cell? ⟨b, 8, none⟩ = some a8 := ⟨(h.get 0 (by simp)).1, (h.get 1 (by simp)).1, (h.get 2 (by simp)).1, (h.get 3 (by simp)).1, (h.get 4 (by simp)).1, (h.get 5 (by simp)).1, (h.get 6 (by simp)).1, (h.get 7 (by simp)).1, (h.get 8 (by simp)).1⟩
theorem bp0 {c : Array Value} {T : TypeId} (u : World) (b : Nat) (R : Prop) (h : BO u b (.cells c T)) (r : R) : R := r
theorem wI {a0 a1 : Value} {r : List Value} {T : TypeId} (u : World) (b : Nat) (R : Prop) (h : BO u b (.cells (a0 :: a1 :: r).toArray T)) (g : R) : u.cell? ⟨b, 0, none⟩ = some a0 ∧ u.cell? ⟨b, 1, none⟩ = some a1 ∧ R := ⟨(h.get 0 (by simp)).1, (h.get 1 (by simp)).1, g⟩
theorem gq {a0 a1 a2 : Value} {r : List Value} {T : TypeId} (u : World) (b : Nat) (R : Prop) (h : BO u b (.cells (a0 :: a1 :: a2 :: r).toArray T)) (g : R) : u.cell? ⟨b, 0, none⟩ = some a0 ∧ u.cell? ⟨b, 1, none⟩ = some a1 ∧ u.cell? ⟨b, 2, none⟩ = some a2 ∧ R := ⟨(h.get 0 (by simp)).1, (h.get 1 (by simp)).1, (h.get 2 (by simp)).1, g⟩
theorem J6 {a0 a1 a2 a3 a4 : Value} {r : List Value} {T : TypeId} (u : World) (b : Nat) (R : Prop) (h : BO u b (.cells (a0 :: a1 :: a2 :: a3 :: a4 :: r).toArray T)) (g : R) : u.cell? ⟨b, 0, none⟩ = some a0 ∧ u.cell? ⟨b, 1, none⟩ = some a1 ∧ u.cell? ⟨b, 2, none⟩ = some a2 ∧ u.cell? ⟨b, 3, none⟩ = some a3 ∧ u.cell? ⟨b, 4, none⟩ = some a4 ∧ R := ⟨(h.get 0 (by simp)).1, (h.get 1 (by simp)).1, (h.get 2 (by simp)).1, (h.get 3 (by simp)).1, (h.get 4 (by simp)).1, g⟩
theorem Yz {a0 a1 a2 a3 a4 a5 a6 a7 a8 : Value} {r : List Value} {T : TypeId} (u : World) (b : Nat) (R : Prop) (h : BO u b (.cells (a0 :: a1 :: a2 :: a3 :: a4 :: a5 :: a6 :: a7 :: a8 :: r).toArray T)) (g : R) : u.cell? ⟨b, 0, none⟩ = some a0 ∧ u.cell? ⟨b, 1, none⟩ = some a1 ∧ u.cell? ⟨b, 2, none⟩ = some a2 ∧ u.cell? ⟨b, 3, none⟩ = some a3 ∧ u.cell? ⟨b, 4, none⟩ = some a4 ∧ u.cell? ⟨b, 5, none⟩ = some a5 ∧ u.cell? ⟨b, 6, none⟩ = some a6 ∧ u.cell? ⟨b, 7, none⟩ = some a7 ∧ u.cell? ⟨b, 8, none⟩ = some a8 ∧ R := ⟨(h.get 0 (by simp)).1, (h.get 1 (by simp)).1, (h.get 2 (by simp)).1, (h.get 3 (by simp)).1, (h.get 4 (by simp)).1, (h.get 5 (by simp)).1, (h.get 6 (by simp)).1, (h.get 7 (by simp)).1, (h.get 8 (by simp)).1, g⟩
theorem st1 {c0 : Array Value} {T0 : TypeId} {C0 : World → Nat → Prop} (o0 : Obj) (h0 : ∀ u b, BO u b (.cells c0 T0) → C0 u b) (w : World) (q0 : o0 = .cells c0 T0 := by rfl) : ∃ w0, Hid ((w.alloc o0) = w0) ∧ Hid (Below w.heap.size w w0) ∧ Hid (∀ u : World, Hid (Below w0.heap.size w0 u) → C0 u (w.heap.size)) := by
 subst q0
 have p0 : BO ((w.alloc (.cells c0 T0))) (w.heap.size) (.cells c0 T0) := BO.new w c0 T0
 exact ⟨_, aa rfl, aa (af _ _), aa (fun u h => h0 _ _ (p0.below h.out))⟩
theorem st2 {c0 c1 : Array Value} {T0 T1 : TypeId} {C0 : World → Nat → Prop → Prop} {C1 : World → Nat → Prop} (o0 : Obj) (h0 : ∀ u b R, BO u b (.cells c0 T0) → R → C0 u b R) (o1 : Obj) (h1 : ∀ u b, BO u b (.cells c1 T1) → C1 u b) (w : World) (q0 : o0 = .cells c0 T0 := by rfl) (q1 : o1 = .cells c1 T1 := by rfl) : ∃ w0, Hid (((w.alloc o0).alloc o1) = w0) ∧ Hid (Below w.heap.size w w0) ∧ Hid (∀ u : World, Hid (Below w0.heap.size w0 u) → C0 u (w.heap.size) (C1 u (w.heap.size + 1))) := by
 subst q0 q1
 have p0 : BO (((w.alloc (.cells c0 T0)).alloc (.cells c1 T1))) (w.heap.size) (.cells c0 T0) := BO.below (BO.new w c0 T0) (af _ _)
 have p1 : BO (((w.alloc (.cells c0 T0)).alloc (.cells c1 T1))) (w.heap.size + 1) (.cells c1 T1) := (show (w.alloc (.cells c0 T0)).heap.size = w.heap.size + 1 by simp) ▸ BO.new (w.alloc (.cells c0 T0)) c1 T1
 exact ⟨_, aa rfl, aa (ag (af _ _) (af _ _)), aa (fun u h => h0 _ _ _ (p0.below h.out) (h1 _ _ (p1.below h.out)))⟩
theorem qF {c0 c1 c2 : Array Value} {T0 T1 T2 : TypeId} {C0 : World → Nat → Prop → Prop} {C1 : World → Nat → Prop → Prop} {C2 : World → Nat → Prop} (o0 : Obj) (h0 : ∀ u b R, BO u b (.cells c0 T0) → R → C0 u b R) (o1 : Obj) (h1 : ∀ u b R, BO u b (.cells c1 T1) → R → C1 u b R) (o2 : Obj) (h2 : ∀ u b, BO u b (.cells c2 T2) → C2 u b) (w : World) (q0 : o0 = .cells c0 T0 := by rfl) (q1 : o1 = .cells c1 T1 := by rfl) (q2 : o2 = .cells c2 T2 := by rfl) : ∃ w0, Hid ((((w.alloc o0).alloc o1).alloc o2) = w0) ∧ Hid (Below w.heap.size w w0) ∧ Hid (∀ u : World, Hid (Below w0.heap.size w0 u) → C0 u (w.heap.size) (C1 u (w.heap.size + 1) (C2 u (w.heap.size + 2)))) := by
 subst q0 q1 q2
 have p0 : BO ((((w.alloc (.cells c0 T0)).alloc (.cells c1 T1)).alloc (.cells c2 T2))) (w.heap.size) (.cells c0 T0) := BO.below (BO.below (BO.new w c0 T0) (af _ _)) (af _ _)
 have p1 : BO ((((w.alloc (.cells c0 T0)).alloc (.cells c1 T1)).alloc (.cells c2 T2))) (w.heap.size + 1) (.cells c1 T1) := BO.below ((show (w.alloc (.cells c0 T0)).heap.size = w.heap.size + 1 by simp) ▸ BO.new (w.alloc (.cells c0 T0)) c1 T1) (af _ _)
 have p2 : BO ((((w.alloc (.cells c0 T0)).alloc (.cells c1 T1)).alloc (.cells c2 T2))) (w.heap.size + 2) (.cells c2 T2) := (show ((w.alloc (.cells c0 T0)).alloc (.cells c1 T1)).heap.size = w.heap.size + 2 by simp) ▸ BO.new ((w.alloc (.cells c0 T0)).alloc (.cells c1 T1)) c2 T2
 exact ⟨_, aa rfl, aa (ag (ag (af _ _) (af _ _)) (af _ _)), aa (fun u h => h0 _ _ _ (p0.below h.out) (h1 _ _ _ (p1.below h.out) (h2 _ _ (p2.below h.out))))⟩
theorem JX {c0 c1 c2 c3 : Array Value} {T0 T1 T2 T3 : TypeId} {C0 : World → Nat → Prop → Prop} {C1 : World → Nat → Prop → Prop} {C2 : World → Nat → Prop → Prop} {C3 : World → Nat → Prop} (o0 : Obj) (h0 : ∀ u b R, BO u b (.cells c0 T0) → R → C0 u b R) (o1 : Obj) (h1 : ∀ u b R, BO u b (.cells c1 T1) → R → C1 u b R) (o2 : Obj) (h2 : ∀ u b R, BO u b (.cells c2 T2) → R → C2 u b R) (o3 : Obj) (h3 : ∀ u b, BO u b (.cells c3 T3) → C3 u b) (w : World) (q0 : o0 = .cells c0 T0 := by rfl) (q1 : o1 = .cells c1 T1 := by rfl) (q2 : o2 = .cells c2 T2 := by rfl) (q3 : o3 = .cells c3 T3 := by rfl) : ∃ w0, Hid (((((w.alloc o0).alloc o1).alloc o2).alloc o3) = w0) ∧ Hid (Below w.heap.size w w0) ∧ Hid (∀ u : World, Hid (Below w0.heap.size w0 u) → C0 u (w.heap.size) (C1 u (w.heap.size + 1) (C2 u (w.heap.size + 2) (C3 u (w.heap.size + 3))))) := by
 subst q0 q1 q2 q3
 have p0 : BO (((((w.alloc (.cells c0 T0)).alloc (.cells c1 T1)).alloc (.cells c2 T2)).alloc (.cells c3 T3))) (w.heap.size) (.cells c0 T0) := BO.below (BO.below (BO.below (BO.new w c0 T0) (af _ _)) (af _ _)) (af _ _)
 have p1 : BO (((((w.alloc (.cells c0 T0)).alloc (.cells c1 T1)).alloc (.cells c2 T2)).alloc (.cells c3 T3))) (w.heap.size + 1) (.cells c1 T1) := BO.below (BO.below ((show (w.alloc (.cells c0 T0)).heap.size = w.heap.size + 1 by simp) ▸ BO.new (w.alloc (.cells c0 T0)) c1 T1) (af _ _)) (af _ _)
 have p2 : BO (((((w.alloc (.cells c0 T0)).alloc (.cells c1 T1)).alloc (.cells c2 T2)).alloc (.cells c3 T3))) (w.heap.size + 2) (.cells c2 T2) := BO.below ((show ((w.alloc (.cells c0 T0)).alloc (.cells c1 T1)).heap.size = w.heap.size + 2 by simp) ▸ BO.new ((w.alloc (.cells c0 T0)).alloc (.cells c1 T1)) c2 T2) (af _ _)
 have p3 : BO (((((w.alloc (.cells c0 T0)).alloc (.cells c1 T1)).alloc (.cells c2 T2)).alloc (.cells c3 T3))) (w.heap.size + 3) (.cells c3 T3) := (show (((w.alloc (.cells c0 T0)).alloc (.cells c1 T1)).alloc (.cells c2 T2)).heap.size = w.heap.size + 3 by simp) ▸ BO.new (((w.alloc (.cells c0 T0)).alloc (.cells c1 T1)).alloc (.cells c2 T2)) c3 T3
 exact ⟨_, aa rfl, aa (ag (ag (ag (af _ _) (af _ _)) (af _ _)) (af _ _)), aa (fun u h => h0 _ _ _ (p0.below h.out) (h1 _ _ _ (p1.below h.out) (h2 _ _ _ (p2.below h.out) (h3 _ _ (p3.below h.out)))))⟩
theorem sI {c : Array Value} {T : TypeId} {C : World → Nat → Prop} (o : Obj) (e : ∀ u b, BO u b (.cells c T) → C u b) (w : World) (q : o = .cells c T := by rfl) : ∃ w2, w.alloc o = w2 ∧ Hid (Below w.heap.size w w2) ∧ Hid (w2.heap.size = w.heap.size + 1) ∧ Hid (w2.heap[w.heap.size]? = some o) ∧ Hid (∀ u : World, Hid (Below w2.heap.size w2 u) → C u w.heap.size) := by
 subst q
 exact ⟨_, rfl, aa (af _ _), aa (by simp), aa (heap_alloc_new _ _), aa (fun u h => e _ _ ((BO.new w c T).below h.out))⟩
theorem qq : (∀ {α : Type} (xs : List α) (i : Nat) (h : i < xs.toArray.size), xs.toArray[i] = xs[i]'(by simpa using h)) ∧ (∀ {α : Type} (a : α) (l : List α) (h : 0 < (a :: l).length), getElem (a :: l) 0 h = a) ∧
  (∀ {α : Type} (a : α) (l : List α) (i : Nat) (h : i + 1 < (a :: l).length), getElem (a :: l) (i+1) h = getElem l i (Nat.lt_of_succ_lt_succ h)) ∧
  (∀ (a : Act) (d : Tmp) (v : Value), a.put (some d) v = { a with tmps := a.tmps.setIfInBounds d v }) ∧ (∀ (a : Act) (v : Value), a.put none v = a) ∧
  (∀ {α : Type} (l : List α) (i : Nat) (a : α), l.toArray.setIfInBounds i a = (l.set i a).toArray) ∧ (∀ {α : Type} (x : α) (xs : List α) (a : α), (x :: xs).set 0 a = a :: xs) ∧ (∀ {α : Type} (x : α) (xs : List α) (i : Nat) (a : α), (x :: xs).set (i + 1) a = x :: xs.set i a) ∧
  (∀ a b : Value, cond true a b = a) ∧ (∀ a b : Value, cond false a b = b) :=
 ⟨fun _ _ _ => rfl, fun _ _ _ => rfl, fun _ _ _ _ => rfl, fun _ _ _ => rfl, fun _ _ => rfl, fun l i a => List.setIfInBounds_toArray l i a, fun _ _ _ => rfl, fun _ _ _ _ => rfl, fun _ _ => rfl, fun _ _ => rfl⟩
section
variable {P : Program} {ops : Array Oper} {Q : Exit → Act → World → Prop} {md : Region.Mode} {S : World → Prop} {E : List Nat}
theorem aH (i : Nat) {oi : Oper} {v : Value} {fuel : Nat} {listed l2 : Array Bool} {a a2 : Act} {w : World} (h : kM P md ops Q S E fuel l2 a2 w) (hi : ops[i]? = some oi := by rfl)
  (hs : Region.noSelect ops = true := by kernel_rfl) (hf : Region.free md ops listed i = true := by kernel_rfl) (hr : (Region.ready md ops listed).contains i = true := by kernel_rfl) (hl : si md ops listed i E = true := by kernel_rfl)
  (hQ : ∀ c a w, Q (.panic c) (a.put oi.dst v) w → Q (.panic c) a w := by exact fun _ _ _ h => h) (hw : Region.wanted oi (yielded ops a.tmps) = true := by rfl)
  (hy : ∀ w, S w → (execOp a.eval oi).run P w = .ok (.value v) w := by intro wS hSw; have zS := hO.out wS hSw; go_simp <;> with_reducible rfl) (hS : S w := by assumption) (hn : listed.setIfInBounds i true = l2 ∧ a.put oi.dst v = a2 := by refine ⟨?_, ?_⟩ <;> (try simp only [qq]) <;> rfl) : kM P md ops Q S E (fuel + 1) listed a w :=
 jX hi hs hf hr hl hQ (Or.inl ⟨hw, hy⟩) hS (hn.1 ▸ hn.2 ▸ h)
theorem bN (i : Nat) {oi : Oper} {v : Value} {fuel : Nat} {listed l2 : Array Bool} {a a2 : Act} {w : World} (h : kM P md ops Q S E fuel l2 a2 w) (hi : ops[i]? = some oi := by rfl)
  (hs : Region.noSelect ops = true := by kernel_rfl) (hf : Region.free md ops listed i = true := by kernel_rfl) (hr : (Region.ready md ops listed).contains i = true := by kernel_rfl) (hl : si md ops listed i E = true := by kernel_rfl)
  (hQ : ∀ c a w, Q (.panic c) (a.put oi.dst v) w → Q (.panic c) a w := by exact fun _ _ _ h => h) (hw : Region.wanted oi (yielded ops a.tmps) = true := by rfl)
  (hy : ∀ w, S w → (execOp a.eval oi).run P w = .ok (.value v) w := by intro wS hSw; (try dsimp only at hSw); go_simp <;> with_reducible rfl) (hS : S w := by assumption) (hn : listed.setIfInBounds i true = l2 ∧ a.put oi.dst v = a2 := by refine ⟨?_, ?_⟩ <;> (try simp only [qq]) <;> rfl) : kM P md ops Q S E (fuel + 1) listed a w :=
 jX hi hs hf hr hl hQ (Or.inl ⟨hw, hy⟩) hS (hn.1 ▸ hn.2 ▸ h)
theorem Bc (i : Nat) {oi : Oper} (v : Value) {fuel : Nat} {listed l2 : Array Bool} {a a2 : Act} {w : World} (hi : ops[i]? = some oi) (hy : ∀ w, S w → (execOp a.eval oi).run P w = .ok (.value v) w) (h : kM P md ops Q S E fuel l2 a2 w)
  (hs : Region.noSelect ops = true := by kernel_rfl) (hf : Region.free md ops listed i = true := by kernel_rfl) (hr : (Region.ready md ops listed).contains i = true := by kernel_rfl) (hl : si md ops listed i E = true := by kernel_rfl)
  (hQ : ∀ c a w, Q (.panic c) (a.put oi.dst v) w → Q (.panic c) a w := by exact fun _ _ _ h => h) (hw : Region.wanted oi (yielded ops a.tmps) = true := by rfl) (hS : S w := by assumption) (hn : listed.setIfInBounds i true = l2 ∧ a.put oi.dst v = a2 := by refine ⟨?_, ?_⟩ <;> (try simp only [qq]) <;> rfl) : kM P md ops Q S E (fuel + 1) listed a w :=
 jX hi hs hf hr hl hQ (Or.inl ⟨hw, hy⟩) hS (hn.1 ▸ hn.2 ▸ h)
theorem jl (i : Nat) {oi : Oper} {fuel : Nat} {listed l2 : Array Bool} {a a2 : Act} {w : World} (h : kM P md ops Q S E fuel l2 a2 w) (hi : ops[i]? = some oi := by rfl)
  (hs : Region.noSelect ops = true := by kernel_rfl) (hf : Region.free md ops listed i = true := by kernel_rfl) (hr : (Region.ready md ops listed).contains i = true := by kernel_rfl) (hl : si md ops listed i E = true := by kernel_rfl)
  (hQ : ∀ c a w, Q (.panic c) (a.put oi.dst undef) w → Q (.panic c) a w := by exact fun _ _ _ h => h) (hw : Region.wanted oi (yielded ops a.tmps) = false := by rfl) (hS : S w := by assumption) (hn : listed.setIfInBounds i true = l2 ∧ a.put oi.dst undef = a2 := by refine ⟨?_, ?_⟩ <;> (try simp only [qq]) <;> rfl) : kM P md ops Q S E (fuel + 1) listed a w :=
 jX hi hs hf hr hl hQ (Or.inr ⟨hw, rfl⟩) hS (hn.1 ▸ hn.2 ▸ h)
theorem bW (i : Nat) {o : Oper} {fuel : Nat} {listed : Array Bool} {a : Act} {w : World}
  (h : ∀ K' : Act → World → Prop, Shut (∀ a w, S w → (S w → kM P md ops Q S E fuel (listed.setIfInBounds i true) a w) → K' a w) → if Region.wanted o (yielded ops a.tmps) = true then Oper.wp P o a w K' Q else K' (a.put o.dst undef) w)
  (hr : Region.ready md ops listed = [i] := by kernel_rfl) (ho : ops[i]? = some o := by rfl) : kM P md ops Q S E (fuel + 1) listed a w := N7 hr ho h
def JY (md : Region.Mode) (ops : Array Oper) (E : List Nat) (l : Array Bool) (i : Nat) : Bool := Region.noSelect ops && (Region.free md ops l i && ((Region.ready md ops l).contains i && si md ops l i E))
theorem He {i : Nat} {o : Oper} {v : Value} {fuel : Nat} {l l2 : Array Bool} {a a2 : Act} {w : World} (g : ops[i]? = some o) (c : JY md ops E l i = true) (hw : Region.wanted o (yielded ops a.tmps) = true) (y : ∀ w, S w → (execOp a.eval o).run P w = .ok (.value v) w) (hS : S w) (n : l.setIfInBounds i true = l2 ∧ a.put o.dst v = a2)
    (q : ∀ d v c a w, Q (.panic c) (Act.put a d v) w → Q (.panic c) a w) (h : kM P md ops Q S E fuel l2 a2 w) : kM P md ops Q S E (fuel + 1) l a w := by
  simp only [JY, Bool.and_eq_true] at c
  obtain ⟨rfl, rfl⟩ := n
  exact jX g c.1 c.2.1 c.2.2.1 c.2.2.2 (q _ _) (Or.inl ⟨hw, y⟩) hS h
theorem Hf {i : Nat} {o : Oper} {fuel : Nat} {l l2 : Array Bool} {a a2 : Act} {w : World} (g : ops[i]? = some o) (c : JY md ops E l i = true) (hw : Region.wanted o (yielded ops a.tmps) = false) (hS : S w) (n : l.setIfInBounds i true = l2 ∧ a.put o.dst undef = a2)
    (q : ∀ d v c a w, Q (.panic c) (Act.put a d v) w → Q (.panic c) a w) (h : kM P md ops Q S E fuel l2 a2 w) : kM P md ops Q S E (fuel + 1) l a w := by
  simp only [JY, Bool.and_eq_true] at c
  obtain ⟨rfl, rfl⟩ := n
  exact jX g c.1 c.2.1 c.2.2.1 c.2.2.2 (q _ _) (Or.inr ⟨hw, rfl⟩) hS h
theorem dR (i0 i1 i2 i3 : Nat) {o0 o1 o2 o3 : Oper} {fuel : Nat} {l0 l1 l2 l3 l4 : Array Bool} {a0 a1 a2 a3 a4 : Act} {w : World} (h : kM P md ops Q S E fuel l4 a4 w)
    (g0 : ops[i0]? = some o0 := by rfl) (c0 : JY md ops E l0 i0 = true := by kernel_rfl) (w0 : Region.wanted o0 (yielded ops a0.tmps) = false := by rfl) (n0 : l0.setIfInBounds i0 true = l1 ∧ a0.put o0.dst undef = a1 := by refine ⟨?_, ?_⟩ <;> (try simp only [qq]) <;> rfl)
    (g1 : ops[i1]? = some o1 := by rfl) (c1 : JY md ops E l1 i1 = true := by kernel_rfl) (w1 : Region.wanted o1 (yielded ops a1.tmps) = false := by rfl) (n1 : l1.setIfInBounds i1 true = l2 ∧ a1.put o1.dst undef = a2 := by refine ⟨?_, ?_⟩ <;> (try simp only [qq]) <;> rfl)
    (g2 : ops[i2]? = some o2 := by rfl) (c2 : JY md ops E l2 i2 = true := by kernel_rfl) (w2 : Region.wanted o2 (yielded ops a2.tmps) = false := by rfl) (n2 : l2.setIfInBounds i2 true = l3 ∧ a2.put o2.dst undef = a3 := by refine ⟨?_, ?_⟩ <;> (try simp only [qq]) <;> rfl)
    (g3 : ops[i3]? = some o3 := by rfl) (c3 : JY md ops E l3 i3 = true := by kernel_rfl) (w3 : Region.wanted o3 (yielded ops a3.tmps) = false := by rfl) (n3 : l3.setIfInBounds i3 true = l4 ∧ a3.put o3.dst undef = a4 := by refine ⟨?_, ?_⟩ <;> (try simp only [qq]) <;> rfl)
    (S0 : S w := by assumption) (q : ∀ d v c a w, Q (.panic c) (Act.put a d v) w → Q (.panic c) a w := by first | exact fun _ _ _ _ _ h => h | (intro d v c a w h; cases d <;> exact h)) : kM P md ops Q S E (fuel + 4) l0 a0 w := Hf g0 c0 w0 S0 n0 q (Hf g1 c1 w1 S0 n1 q (Hf g2 c2 w2 S0 n2 q (Hf g3 c3 w3 S0 n3 q h)))
theorem aT (i0 i1 i2 i3 : Nat) {o0 o1 o2 o3 : Oper} {v0 v1 v2 v3 : Value} {fuel : Nat} {l0 l1 l2 l3 l4 : Array Bool} {a0 a1 a2 a3 a4 : Act} {w : World} (h : kM P md ops Q S E fuel l4 a4 w)
    (g0 : ops[i0]? = some o0 := by rfl) (c0 : JY md ops E l0 i0 = true := by kernel_rfl) (w0 : Region.wanted o0 (yielded ops a0.tmps) = true := by rfl) (y0 : ∀ w, S w → (execOp a0.eval o0).run P w = .ok (.value v0) w := by intro wS hSw; have zS := hO.out wS hSw; go_simp <;> with_reducible rfl) (n0 : l0.setIfInBounds i0 true = l1 ∧ a0.put o0.dst v0 = a1 := by refine ⟨?_, ?_⟩ <;> (try simp only [qq]) <;> rfl)
    (g1 : ops[i1]? = some o1 := by rfl) (c1 : JY md ops E l1 i1 = true := by kernel_rfl) (w1 : Region.wanted o1 (yielded ops a1.tmps) = true := by rfl) (y1 : ∀ w, S w → (execOp a1.eval o1).run P w = .ok (.value v1) w := by intro wS hSw; have zS := hO.out wS hSw; go_simp <;> with_reducible rfl) (n1 : l1.setIfInBounds i1 true = l2 ∧ a1.put o1.dst v1 = a2 := by refine ⟨?_, ?_⟩ <;> (try simp only [qq]) <;> rfl)
    (g2 : ops[i2]? = some o2 := by rfl) (c2 : JY md ops E l2 i2 = true := by kernel_rfl) (w2 : Region.wanted o2 (yielded ops a2.tmps) = true := by rfl) (y2 : ∀ w, S w → (execOp a2.eval o2).run P w = .ok (.value v2) w := by intro wS hSw; have zS := hO.out wS hSw; go_simp <;> with_reducible rfl) (n2 : l2.setIfInBounds i2 true = l3 ∧ a2.put o2.dst v2 = a3 := by refine ⟨?_, ?_⟩ <;> (try simp only [qq]) <;> rfl)
    (g3 : ops[i3]? = some o3 := by rfl) (c3 : JY md ops E l3 i3 = true := by kernel_rfl) (w3 : Region.wanted o3 (yielded ops a3.tmps) = true := by rfl) (y3 : ∀ w, S w → (execOp a3.eval o3).run P w = .ok (.value v3) w := by intro wS hSw; have zS := hO.out wS hSw; go_simp <;> with_reducible rfl) (n3 : l3.setIfInBounds i3 true = l4 ∧ a3.put o3.dst v3 = a4 := by refine ⟨?_, ?_⟩ <;> (try simp only [qq]) <;> rfl)
    (S0 : S w := by assumption) (q : ∀ d v c a w, Q (.panic c) (Act.put a d v) w → Q (.panic c) a w := by first | exact fun _ _ _ _ _ h => h | (intro d v c a w h; cases d <;> exact h)) : kM P md ops Q S E (fuel + 4) l0 a0 w := He g0 c0 w0 y0 S0 n0 q (He g1 c1 w1 y1 S0 n1 q (He g2 c2 w2 y2 S0 n2 q (He g3 c3 w3 y3 S0 n3 q h)))
theorem mR (i : Nat) {o : Oper} {fuel : Nat} {listed : Array Bool} {a : Act} {w : World}
  (h : ∀ K' : Act → World → Prop, Shut (∀ a w, kM P md ops Q S E fuel (listed.setIfInBounds i true) a w → K' a w) → if Region.wanted o (yielded ops a.tmps) = true then Oper.wp P o a w K' Q else K' (a.put o.dst undef) w)
  (hr : Region.ready md ops listed = [i] := by kernel_rfl) (hE : i ∈ E := by simp) (ho : ops[i]? = some o := by rfl) : kM P md ops Q S E (fuel + 1) listed a w := Kh hr hE ho h
theorem gz {fuel : Nat} {listed : Array Bool} {a : Act} {w : World} (h : Q .normal a w) (hr : Region.ready md ops listed = [] := by kernel_rfl) : kM P md ops Q S E fuel listed a w := Ki hr h fuel
theorem t_ {id : Nat} {a : Act} {w : World} (B : World → Prop) (E : List Nat) (hS : Hid (B w.drew)) (h : Hid (B w.drew) → kM P .any ops Q (fun u => Hid (B u)) E ops.size (Array.replicate ops.size false) a w.drew)
  (hm : P.follows .mixedOrders = true := by kernel_rfl) : (Code.region id ops true).wp P Q a w := bD hm hS h
theorem jq {id : Nat} {a : Act} {w b : World} (E : List Nat) (hS : Hid (Below b.heap.size b w)) (h : Hid (Below b.heap.size b w.drew) → kM P .any ops Q (fun u => Hid (Below b.heap.size b u)) E ops.size (Array.replicate ops.size false) a w.drew)
  (hm : P.follows .mixedOrders = true := by kernel_rfl) : (Code.region id ops true).wp P Q a w := bD hm (bY hS (Below.refl _ _).drew) h
end
namespace rQ
def Cg (q a b : Int) : Prop := ∃ t, a = b + q * t
theorem Cg.refl (q a : Int) : Cg q a a := ⟨0, by simp⟩
theorem Cg.symm {q a b : Int} (h : Cg q a b) : Cg q b a := by obtain ⟨t, h⟩ := h; exact ⟨-t, by rw [h]; grind⟩
theorem Cg.trans {q a b c : Int} (h : Cg q a b) (h2 : Cg q b c) : Cg q a c := by obtain ⟨t, h⟩ := h; obtain ⟨s, h2⟩ := h2; exact ⟨s + t, by rw [h, h2]; grind⟩
theorem Cg.add {q a b c d : Int} (h : Cg q a b) (h2 : Cg q c d) : Cg q (a + c) (b + d) := by obtain ⟨t, h⟩ := h; obtain ⟨s, h2⟩ := h2; exact ⟨s + t, by rw [h, h2]; grind⟩
theorem Cg.mul {q a b c d : Int} (h : Cg q a b) (h2 : Cg q c d) : Cg q (a * c) (b * d) := by obtain ⟨t, h⟩ := h; obtain ⟨s, h2⟩ := h2; exact ⟨b * s + d * t + q * s * t, by rw [h, h2]; grind⟩
theorem Cg.mod (q a : Int) : Cg q (a % q) a := ⟨-(a / q), by have := Int.emod_add_mul_ediv a q; grind⟩
theorem Cg.of_eq {q a b : Int} (h : a = b) : Cg q a b := h ▸ Cg.refl q a
theorem Cg.eq {q a b : Int} (h : Cg q a b) : a % q = b % q := by obtain ⟨t, h⟩ := h; rw [h, Int.add_mul_emod_self_left]
def gp (xs : Nat → Int) (x : Int) : Nat → Int
 | 0 => 1
 | m + 1 => gp xs x m * (x - xs m)
def Un (q a : Int) : Prop := ∃ y, Cg q (y * a) 1
theorem Un.mul {q a b : Int} (h : Un q a) (h2 : Un q b) : Un q (a * b) := by
 obtain ⟨y, h⟩ := h
 obtain ⟨z, h2⟩ := h2
 exact ⟨y * z, (Cg.of_eq (by grind)).trans ((h.mul h2).trans (Cg.of_eq (by grind)))⟩
def hv (q : Int) : List Int → Int → Int
 | [], _ => 0
 | c :: t, x => (hv q t x * x % q + c) % q
end rQ
open Go.RowKit rQ
def ru (a m x : Int) : Prop := 0 ≤ x ∧ x < m ∧ (x * a % m = 1 ∨ (x = 0 ∧ ∀ y, y * a % m ≠ 1))
theorem BD {a m x y : Int} (hx : ru a m x) (hy : ru a m y) : x = y := by
 obtain ⟨x0, x1, hx⟩ := hx
 obtain ⟨y0, y1, hy⟩ := hy
 rcases hx with hx | ⟨rfl, hx⟩
 ·
  rcases hy with hy | ⟨rfl, hy⟩
  ·
   have h1 : x * (y * a) % m = x % m := by rw [Int.mul_emod, hy, Int.mul_one, Int.emod_emod_of_dvd _ (Int.dvd_refl m)]
   have h2 : x * (y * a) % m = y % m := by
    rw [show x * (y * a) = y * (x * a) by rw [← Int.mul_assoc, ← Int.mul_assoc, Int.mul_comm x y], Int.mul_emod, hx, Int.mul_one, Int.emod_emod_of_dvd _ (Int.dvd_refl m)]
   have h3 := h1.symm.trans h2
   rwa [Int.emod_eq_of_lt x0 x1, Int.emod_eq_of_lt y0 y1] at h3
  · exact absurd hx (hy x)
 ·
  rcases hy with hy | ⟨rfl, hy⟩
  · exact absurd hy (hx y)
  · rfl
theorem Lx {a m d : Int} (h1 : d ∣ a) (h2 : d ∣ m) (h0 : 0 < d) (hne : d ≠ 1) (y : Int) : y * a % m ≠ 1 := by
 intro h
 have h3 : d ∣ y * a := Int.dvd_mul_of_dvd_right h1
 have h4 : d ∣ m * (y * a / m) := Int.dvd_mul_of_dvd_left h2
 have h5 : d ∣ y * a - m * (y * a / m) := Int.dvd_sub h3 h4
 have h6 : y * a - m * (y * a / m) = 1 := by have := Int.emod_add_mul_ediv (y * a) m; omega
 rw [h6] at h5
 have := Int.le_of_dvd (by omega) h5
 omega
def PW (a m : Int) (w : World) (e : Ending) (w' : World) : Prop :=
 ∃ x r : Int, e = .returned (.tuple #[.int .i64 x, .int .i64 r]) ∧ ru a m x ∧ ∃ n, w' = w.drewN n
theorem Kk (a m : Int) (h1 : 2 ≤ m) (h2 : m < 2305843009213693952) (ha0 : 0 ≤ a) (ha : a < m) (w : World) :
  Calls Tryz.prog 148 #[.int .i64 a, .int .i64 m] w (PW a m w) := by
 have hc := aa (vO (by omega) h2 ha0 ha ha0 ha)
 go_in
 go_wp2_with (go_at_call 96; refine (jo _ _ _ _).mono ?_; rintro e w' ⟨rfl, rfl⟩; rw [hc.out])
 refine (y9 a m (by omega) h2 ha0 ha _).mono ?_
 rintro e w' ⟨d, x, k, rfl, hx0, hx1, hd1, hd2, hd0, hd, hk, n, rfl⟩
 by_cases D5 : d = 1
 ·
  have h1d : (d == 1) = true := by simp [D5]
  have h1n : (d != 1) = false := by simp [D5]
  have HX : Hid (ru a m x) := aa ⟨hx0, hx1, .inl (by rw [hk, D5, Int.add_mul_emod_self_left]; exact iG h1)⟩
  clear hk hd1 hd2 hd0 hd D5
  go_wp2
  go_ret2
  exact ⟨x, 0, rfl, HX.out, n, rfl⟩
 ·
  have h1d : (d == 1) = false := by simp [D5]
  have h1n : (d != 1) = true := by simp [D5]
  have HX : Hid (ru a m 0) := aa ⟨by omega, by omega, .inr ⟨rfl, Lx hd1 hd2 hd0 D5⟩⟩
  clear hk hd1 hd2 hd0 hd D5
  go_wp2
  go_ret2
  exact ⟨0, 10, rfl, HX.out, n, rfl⟩
theorem Af (a : Int) (ha0 : 0 ≤ a) (ha : a < 9223372036854775808) (w : World) :
  Calls Tryz.prog 191 #[.int .i64 a] w fun e w' => e = .returned (.int .u64 a) ∧ w = w' := by
 have h1 : decide (a < 0) = false := by simp; omega
 have h2 : IntKind.u64.wrap a = a := by rw [IntKind.wrap_u64]; omega
 go_in
 go_wp2
 go_ret
 exact ⟨rfl, rfl⟩
def vT (a m x y : Int) : Prop := 0 ≤ x ∧ 0 ≤ y ∧ x ≤ m ∧ y ≤ m ∧ (0 < x ∨ 0 < y) ∧ (∀ c, (c ∣ x ∧ c ∣ y) ↔ (c ∣ a ∧ c ∣ m))
theorem wm {a m x y : Int} (h : vT a m x y) (hy : 0 < y) : vT a m y (x % y) := by
 obtain ⟨h1, h2, h3, h4, h5, h6⟩ := h
 have e1 : 0 ≤ x % y := Int.emod_nonneg _ (by omega)
 have e2 : x % y < y := Int.emod_lt_of_pos _ hy
 refine ⟨h2, e1, h4, by omega, .inl hy, fun c => ⟨fun ⟨c1, c2⟩ => ?_, fun ⟨c1, c2⟩ => ?_⟩⟩
 ·
  refine (h6 c).1 ⟨?_, c1⟩
  have : c ∣ x % y + y * (x / y) := Int.dvd_add c2 (Int.dvd_mul_of_dvd_left c1)
  rwa [Int.emod_add_mul_ediv] at this
 ·
  obtain ⟨k1, k2⟩ := (h6 c).2 ⟨c1, c2⟩
  refine ⟨k2, ?_⟩
  have : c ∣ x - y * (x / y) := Int.dvd_sub k1 (Int.dvd_mul_of_dvd_left k2)
  rwa [show x - y * (x / y) = x % y by have := Int.emod_add_mul_ediv x y; omega] at this
def Ns (a m g : Int) : Prop := 0 < g ∧ g ≤ m ∧ g ∣ a ∧ g ∣ m ∧ ∀ c, c ∣ a → c ∣ m → c ∣ g
theorem wu {a m x : Int} (h : vT a m x 0) : Ns a m x := by
 obtain ⟨h1, h2, h3, h4, h5, h6⟩ := h
 obtain ⟨c1, c2⟩ := (h6 x).1 ⟨Int.dvd_refl x, Int.dvd_zero x⟩
 exact ⟨by omega, h3, c1, c2, fun c k1 k2 => ((h6 c).2 ⟨k1, k2⟩).1⟩
def UM (a m : Int) (w : World) (e : Ending) (w' : World) : Prop := ∃ g : Int, e = .returned (.int .i64 g) ∧ Ns a m g ∧ ∃ n, w' = w.drewN n
theorem K_ (a m : Int) (h1 : 1 ≤ m) (h2 : m < 2305843009213693952) (ha0 : 0 ≤ a) (ha : a < m) (w : World) :
  Calls Tryz.prog 160 #[.int .i64 a, .int .i64 m] w (UM a m w) := by
 have HS : Hid (vT a m a m) := aa ⟨by omega, by omega, by omega, by omega, .inr (by omega), fun c => Iff.rfl⟩
 go_in
 go_wp2_with fail
 refine (Af a ha0 (by omega) _).mono ?_
 rintro e w' ⟨rfl, rfl⟩
 go_wp2_with fail
 refine (Af m (by omega) (by omega) _).mono ?_
 rintro e w' ⟨rfl, rfl⟩
 go_wp2
 go_loopw [5, 6] (fun u v wr => ∃ x y : Int, u = .int .u64 x ∧ v = .int .u64 y ∧ Hid (vT a m x y) ∧ ∃ n, wr = w.drewN n) (fun _ v _ => (intOf v).toNat)
 case atStart => exact ⟨a, m, rfl, rfl, HS, 0, rfl⟩
 case round =>
  obtain ⟨x, y, rfl, rfl, HR, n, rfl⟩ := hrel
  obtain ⟨x0, y0, x1, y1, _⟩ := HR.out
  by_cases hy : y = 0
  ·
   subst hy
   have HD := aa (wu HR.out)
   have hne : ((x : Int) == 9223372036854775808) = false := by simp; omega
   have hcv : IntKind.i64.wrap x = x := IntWalk.i64_in _ (by omega)
   clear HR
   go_wp2
   go_ret
   exact ⟨x, rfl, HD.out, n, rfl⟩
  ·
   have hyp : 0 < y := by omega
   have d1 : decide (0 < y) = true := by simp; omega
   have d2 : ((y : Int) == 0) = false := by simp [hy]
   have HN := aa (wm HR.out hyp)
   have l2 : x % y < y := Int.emod_lt_of_pos _ hyp
   have l1 : 0 ≤ x % y := Int.emod_nonneg _ (by omega)
   clear HR hy
   go_wp2
   go_quiet (fail)
   go_wp2
   go_roundw
   case rel => exact ⟨y, x % y, rfl, rfl, HN, _, by first | rfl | exact World.drewN_drewN _ _ _⟩
   case measure => simp [intOf]; omega
def AZ (a m u v x y : Int) : Prop := vT a m u v ∧ 0 ≤ x ∧ x < m ∧ 0 ≤ y ∧ y < m ∧ (∃ k, x * a = u + m * k) ∧ (∃ k, y * a = v + m * k)
theorem Dp {a m : Int} (h1 : 2 ≤ m) (ha0 : 0 ≤ a) (ha : a < m) : AZ a m a m (1 % m) 0 := by
 rw [iG h1]
 exact ⟨⟨by omega, by omega, by omega, by omega, .inr (by omega), fun c => Iff.rfl⟩, by omega, by omega, by omega, by omega, ⟨0, by omega⟩, ⟨-1, by omega⟩⟩
theorem Fs {a m u v x y : Int} (h : AZ a m u v x y) (hv : 0 < v) : AZ a m v (u - u / v * v) y ((x - (u / v % m) * y % m) % m) ∧ 0 ≤ u / v ∧ u / v ≤ m ∧ 0 ≤ u / v * v ∧ u / v * v ≤ u ∧ u - u / v * v < v := by
 obtain ⟨hg, x0, x1, y0, y1, ⟨k1, hk1⟩, ⟨k2, hk2⟩⟩ := h
 have hs := wm hg hv
 obtain ⟨g1, g2, g3, g4, g5, g6⟩ := hg
 have e1 : u - u / v * v = u % v := by have := Int.emod_add_mul_ediv u v; rw [Int.mul_comm] at this; omega
 have e2 : 0 ≤ u % v := Int.emod_nonneg _ (by omega)
 have e3 : u % v < v := Int.emod_lt_of_pos _ hv
 have e4 : 0 ≤ u / v := Int.ediv_nonneg g1 (by omega)
 have e5 : 0 ≤ u / v * v := Int.mul_nonneg e4 (by omega)
 have e6 : u / v ≤ u / v * v := by have := Int.mul_le_mul_of_nonneg_left (show (1 : Int) ≤ v by omega) e4; omega
 have hm : 0 < m := by omega
 refine ⟨⟨by rw [e1]; exact hs, y0, y1, Int.emod_nonneg _ (by omega), Int.emod_lt_of_pos _ hm, ⟨k2, hk2⟩, ?_⟩, e4, by omega, e5, by omega, by omega⟩
 -- the new QM
 obtain ⟨q, hq⟩ : ∃ q, u / v = q := ⟨_, rfl⟩
 rw [hq] at e1 ⊢
 have c1 : ∃ t, (q % m) * y % m = q * y + m * t := by
  refine ⟨-(q / m * y) - ((q % m) * y / m), ?_⟩
  have h1 := Int.emod_add_mul_ediv ((q % m) * y) m
  have h2 : (q % m) * y = q * y - m * (q / m * y) := by
   have := Int.emod_add_mul_ediv q m
   rw [show q % m = q - m * (q / m) by omega, Int.sub_mul, Int.mul_assoc]
  rw [Int.mul_sub, Int.mul_neg]
  omega
 obtain ⟨t, ht⟩ := c1
 obtain ⟨s, hs2⟩ : ∃ s, (x - (q % m) * y % m) % m = x - (q % m) * y % m + m * s := ⟨-((x - (q % m) * y % m) / m), by have := Int.emod_add_mul_ediv (x - (q % m) * y % m) m; rw [Int.mul_neg]; omega⟩
 refine ⟨k1 - q * k2 + (s - t) * a, ?_⟩
 rw [hs2, ht]
 obtain ⟨e, he⟩ : ∃ e, s - t = e := ⟨_, rfl⟩
 rw [he, show x - (q * y + m * t) + m * s = x - q * y + m * e by rw [← he, Int.mul_sub]; omega, Int.add_mul, Int.sub_mul, hk1, Int.mul_assoc q y a, hk2, Int.mul_add q, Int.mul_add m, Int.mul_sub m, ← Int.mul_assoc q m, Int.mul_comm q m, Int.mul_assoc m q, Int.mul_assoc m e a]
 omega
theorem Fu {a m u x y g : Int} (h1 : 2 ≤ m) (h : AZ a m u 0 x y) (hg : Ns a m g) (h1g : g = 1) : ru a m x ∧ x * a % m = 1 := by
 obtain ⟨hG, x0, x1, y0, y1, ⟨k1, hk1⟩, _⟩ := h
 obtain ⟨d1, d2, d3, d4, d5⟩ := wu hG
 have hu : u ∣ 1 := by rw [← h1g]; exact hg.2.2.2.2 u d3 d4
 have hu1 : u = 1 := by have := Int.le_of_dvd (by omega) hu; omega
 have he : x * a % m = 1 := by
  rw [hk1, hu1, Int.add_mul_emod_self_left]
  exact iG h1
 exact ⟨⟨x0, x1, .inl he⟩, he⟩
def PY (a m : Int) (w : World) (e : Ending) (w' : World) : Prop :=
 ∃ (x : Int) (b : Bool), e = .returned (.tuple #[.int .i64 x, .bool b]) ∧ ru a m x ∧ (b = true ↔ ∃ y, y * a % m = 1) ∧ ∃ n, w' = w.drewN n
theorem K7 (a m : Int) (h1 : 2 ≤ m) (h2 : m < 2305843009213693952) (ha0 : 0 ≤ a) (ha : a < m) (w : World) :
  Calls Tryz.prog 108 #[.int .i64 a, .int .i64 m] w (PY a m w) := by
 have hmz : ((m : Int) == 0) = false := by simp; omega
 have HS : Hid (AZ a m a m (1 % m) 0) := aa (Dp h1 ha0 ha)
 go_in
 go_wp2_with fail
 refine (K_ a m (by omega) h2 ha0 ha _).mono ?_
 rintro e w' ⟨g, rfl, hg, n0, rfl⟩
 by_cases hg1 : g = 1
 ·
  have d1 : (g == 1) = true := by simp [hg1]
  have d2 : (g != 1) = false := by simp [hg1]
  have HG := aa hg
  have Qi := aa hg1
  clear hg hg1
  go_wp2
  go_loopw [6, 7, 8, 9] (fun u v s t wr => ∃ u' v' x y : Int, u = .int .i64 u' ∧ v = .int .i64 v' ∧ s = .int .i64 x ∧ t = .int .i64 y ∧ Hid (AZ a m u' v' x y) ∧ ∃ n, wr = w.drewN n) (fun u v _ _ _ => (intOf v).toNat)
  case atStart => exact ⟨a, m, 1 % m, 0, rfl, rfl, rfl, rfl, HS, n0, rfl⟩
  case round =>
   obtain ⟨u, v, x, y, rfl, rfl, rfl, rfl, HR, n, rfl⟩ := hrel
   by_cases hv : v = 0
   ·
    subst hv
    have HD := aa (Fu h1 HR.out HG.out Qi.out)
    clear HR
    go_wp2
    go_ret2
    exact ⟨x, true, rfl, HD.out.1, ⟨fun _ => ⟨x, HD.out.2⟩, fun _ => rfl⟩, n, rfl⟩
   ·
    obtain ⟨⟨u0, v0, u1, v1, _⟩, x0, x1, y0, y1, _⟩ := HR.out
    have hvp : 0 < v := by omega
    have d1 : ((v : Int) == 0) = false := by simp [hv]
    have d2 : ((v : Int) != 0) = true := by simp [hv]
    obtain ⟨hst, s1, s2, s3, s4, s5⟩ := Fs HR.out hvp
    obtain ⟨q, hq⟩ : ∃ q, u / v = q := ⟨_, rfl⟩
    rw [hq] at hst s1 s2 s3 s4 s5
    obtain ⟨qv, UU⟩ : ∃ t, q * v = t := ⟨_, rfl⟩
    rw [UU] at hst s3 s4 s5
    obtain ⟨r, hr⟩ : ∃ r, q % m = r := ⟨_, rfl⟩
    obtain ⟨p, hp⟩ : ∃ p, r * y % m = p := ⟨_, rfl⟩
    obtain ⟨z, hz⟩ : ∃ z, (x - p) % m = z := ⟨_, rfl⟩
    rw [hr, hp, hz] at hst
    have r0 : 0 ≤ r := by rw [← hr]; exact Int.emod_nonneg _ (by omega)
    have r1 : r < m := by rw [← hr]; exact Int.emod_lt_of_pos _ (by omega)
    have p0 : 0 ≤ p := by rw [← hp]; exact Int.emod_nonneg _ (by omega)
    have p1 : p < m := by rw [← hp]; exact Int.emod_lt_of_pos _ (by omega)
    have HST := aa hst
    have Uh := aa hr
    have HPp := aa hp
    have HZz := aa hz
    have adh : IntKind.i64.wrap (x - p) = x - p := IntWalk.i64_in _ (by omega)
    clear hst HR hr hp hz hv
    go_wp2_with fail
    refine (mY q m r Uh (by omega) h2 (by omega) (by omega) _).mono ?_
    rintro e w' ⟨rfl, rfl⟩
    go_wp2_with fail
    refine (fB r y m p HPp h2 r0 r1 y0 y1 _).mono ?_
    rintro e w' ⟨rfl, rfl⟩
    go_wp2_with fail
    refine (mY (x - p) m z HZz (by omega) h2 (by omega) (by omega) _).mono ?_
    rintro e w' ⟨rfl, rfl⟩
    go_wp2
    go_roundw
    case rel => exact ⟨v, u - qv, y, z, rfl, rfl, rfl, rfl, HST, _, rfl⟩
    case measure => simp [intOf]; omega
 ·
  have d1 : (g == 1) = false := by simp [hg1]
  have d2 : (g != 1) = true := by simp [hg1]
  have Qe : Hid (∀ y, y * a % m ≠ 1) := aa (Lx hg.2.2.1 hg.2.2.2.1 hg.1 hg1)
  have HD : Hid (ru a m 0) := aa ⟨by omega, by omega, .inr ⟨rfl, Qe.out⟩⟩
  clear hg hg1
  go_wp2
  go_ret2
  exact ⟨0, false, rfl, HD.out, ⟨fun h => (by cases h), fun ⟨y, hy⟩ => absurd hy (Qe.out y)⟩, n0, rfl⟩
noncomputable def uL (a m : Int) : Int := @dite _ (∃ x, ru a m x) (Classical.propDecidable _) (fun h => Classical.choose h) (fun _ => 0)
noncomputable def VR (a m : Int) : Bool := @decide (∃ y, y * a % m = 1) (Classical.propDecidable _)
theorem DW {a m x : Int} (h : ru a m x) : uL a m = x := by
 have he : ∃ x, ru a m x := ⟨x, h⟩
 unfold uL
 rw [dif_pos he]
 exact BD (Classical.choose_spec he) h
theorem K6 (a m x : Int) (b : Bool) (hx : Hid (uL a m = x)) (hb : Hid (VR a m = b)) (h1 : 2 ≤ m) (h2 : m < 2305843009213693952) (ha0 : 0 ≤ a) (ha : a < m) (w : World) :
  Calls Tryz.prog 108 #[.int .i64 a, .int .i64 m] w fun e w' => e = .returned (.tuple #[.int .i64 x, .bool b]) ∧ ∃ n, w' = w.drewN n :=
 (K7 a m h1 h2 ha0 ha w).mono fun e w' ⟨x', b', he, hi, hb', hn⟩ => by
  obtain rfl : x' = x := (DW hi).symm.trans hx.out
  obtain rfl : b' = b := by
   rw [← hb.out, VR, Bool.eq_iff_iff]
   simp only [decide_eq_true_eq]
   exact hb'
  exact ⟨he, hn⟩
theorem pow_eq (a e m v : Int) (hv : Hid (pw a e m = v)) (h1 : 1 ≤ m) (h2 : m < 2305843009213693952) (ha0 : 0 ≤ a) (ha : a < m) (he0 : 0 ≤ e) (he : e < 9223372036854775808) (w : World) :
  Calls Tryz.prog 105 #[.int .i64 a, .int .i64 e, .int .i64 m] w fun e' w' => e' = .returned (.tuple #[.int .i64 v, .int .i64 0]) ∧ ∃ n, w' = w.drewN n := by
 rw [← hv.out]; exact yK a e m h1 h2 ha0 ha he0 he w
theorem xx (a b m v : Int) (hv : Hid (a * b % m = v)) (h2 : m < 2305843009213693952) (ha0 : 0 ≤ a) (ha : a < m) (hb0 : 0 ≤ b) (hb : b < m) (w : World) :
  Calls Tryz.prog 35 #[.int .i64 a, .int .i64 b, .int .i64 m] w fun e w' => e = .returned (.tuple #[.int .i64 v, .int .i64 0]) ∧ ∃ n, w' = w.drewN n := by
 rw [← hv.out]; exact GQ a b m h2 ha0 ha hb0 hb w
def dH (P : Int) : Int → List Int → List Int → Int
 | acc, x :: xs, e :: es => dH P (acc * pw x e P % P) xs es
 | acc, _, _ => acc
theorem yJ {P acc : Int} {k : Nat} {xs es : List Int} (hk : k < xs.length) (he : k < es.length) :
  dH P acc (xs.drop k) (es.drop k) = dH P (acc * pw (xs.getD k 0) (es.getD k 0) P % P) (xs.drop (k + 1)) (es.drop (k + 1)) := by
 rw [List.drop_eq_getElem_cons hk, List.drop_eq_getElem_cons he, dH, List.getD_eq_getElem?_getD, List.getElem?_eq_getElem hk, List.getD_eq_getElem?_getD, List.getElem?_eq_getElem he]
 rfl
theorem vZ {P s V : Int} {xs es : List Int} (h : Hid (dH P s xs es = V)) : Hid (dH P s (xs.drop 0) (es.drop 0) = V) := aa (by
 rw [List.drop_zero, List.drop_zero]
 exact h.out)
theorem Al {P acc V : Int} {k : Nat} {xs es : List Int} (hn : xs.length = k) (h : Hid (dH P acc (xs.drop k) (es.drop k) = V)) : acc = V := by
 have h2 := h.out
 rw [← hn, List.drop_length] at h2
 exact h2
theorem qG {Q x : Int} (h : gW Q x = true) : 0 ≤ x := by simp [gW] at h; exact h.1
theorem sP {Q x : Int} (h : gW Q x = true) : x < Q := by simp [gW] at h; exact h.2
theorem Bw (P Q G start : Int) (A : Option Addr) (xs : List Int) (n c : Nat) (E : Option Addr) (es : List Int) (m d : Nat) (V : Int) (hV : Hid (dH P start xs es = V)) (hn : Hid (xs.length = n)) (hm : Hid (es.length = m)) (hnm : n ≤ m) (hbig : m < 1000000)
  (hx : Hid (xs.all (aG P Q) = true)) (he : Hid (es.all (gW Q) = true)) (hp2 : 2 ≤ P) (hp : P < 2305843009213693952) (hQ : Q < 9223372036854775808) (hs0 : 0 ≤ start) (hs1 : start < P) (w : World) (hA : Hid (Sl w A xs)) (hE : Hid (Sl w E es)) :
  Calls Tryz.prog 269 #[gv P Q G, .int .i64 start, .slice A n c, .slice E m d] w (Rt w (.int .i64 V)) := by
 have bQ := aa (af w (bq P Q G))
 have HX0 := aa (aW w P Q G)
 have xY := aa (hA.out.below bQ.out)
 have Q6 := aa (hE.out.below bQ.out)
 obtain ⟨W, hW⟩ : ∃ W, w.alloc (bq P Q G) = W := ⟨_, rfl⟩
 rw [hW] at HX0 xY Q6 bQ
 have HW := aa hW
 clear hW hA hE
 go_in
 go_wp2
 rw [HW.out]
 go_loopw [9, 17] (fun y i wr => ∃ (k : Nat) (acc : Int), k ≤ n ∧ y = .int .i64 acc ∧ i = .int .i64 k ∧ 0 ≤ acc ∧ acc < P ∧ Hid (dH P acc (xs.drop k) (es.drop k) = V) ∧ Hid (Below W.heap.size W wr)) (fun _ i _ => n - (intOf i).toNat)
 case atStart => exact ⟨0, start, by omega, rfl, rfl, by omega, by omega, vZ hV, aa (Below.refl _ _)⟩
 case round =>
  obtain ⟨k, acc, hk, rfl, rfl, a0, a1, HJ, au⟩ := hrel
  by_cases hlt : k < n
  ·
   have hkl : k < xs.length := by rw [hn.out]; exact hlt
   have hkm : k < m := by omega
   have hke : k < es.length := by rw [hm.out]; exact hkm
   obtain ⟨b, o, hA, hi0⟩ := xY.out.below au.out k hkl
   obtain ⟨b2, o2, hE, hi1⟩ := Q6.out.below au.out k hke
   subst hA
   subst hE
   obtain ⟨c0, c1, c2⟩ := HX0.out.below au.out
   have hm1 := ig hx.out hkl
   have hm2 := ig he.out hke
   have hst := yJ (P := P) (acc := acc) hkl hke
   obtain ⟨x, VZ⟩ : ∃ x, xs.getD k 0 = x := ⟨_, rfl⟩
   obtain ⟨ex, hee⟩ : ∃ x, es.getD k 0 = x := ⟨_, rfl⟩
   rw [VZ] at hi0 hm1 hst
   rw [hee] at hi1 hm2 hst
   have x0 := fE hm1
   have x1 := fF hm1
   have e0 := qG hm2
   have e1 := sP hm2
   obtain ⟨p, hp1⟩ : ∃ p, pw x ex P = p := ⟨_, rfl⟩
   obtain ⟨p0, p1⟩ : 0 ≤ p ∧ p < P := by rw [← hp1]; exact vW _ _ _ (by omega)
   rw [hp1] at hst
   obtain ⟨zf, hac⟩ : ∃ a, acc * p % P = a := ⟨_, rfl⟩
   rw [hac] at hst
   have q0 : 0 ≤ zf := by rw [← hac]; exact Int.emod_nonneg _ (by omega)
   have q1 : zf < P := by rw [← hac]; exact Int.emod_lt_of_pos _ (by omega)
   have HJ2 : Hid (dH P zf (xs.drop (k + 1)) (es.drop (k + 1)) = V) := aa (hst.symm.trans HJ.out)
   have XA := aa hp1
   have Ye := aa hac
   clear hm1 hm2 hst VZ hee hp1 hac hkl hke HJ
   go_wp2
   go_quiet ((go_at_call 105; exact Calls.quiet_of (pow_eq x ex P p XA (by omega) hp (by omega) x1 e0 (by omega) _)))
   go_wp2_with fail
   refine (xx acc p P zf Ye hp a0 a1 p0 p1 _).mono ?_
   rintro e w' ⟨rfl, n3, rfl⟩
   have HB2 : Hid (Below W.heap.size W (wr.drewN (nq + n3))) := aa (ay au.out _)
   go_wp2
   go_roundw
   case rel => exact ⟨k + 1, zf, by omega, rfl, by go_num, q0, q1, HJ2, HB2⟩
   case measure => simp [intOf]; omega
  ·
   obtain rfl : k = n := by omega
   obtain rfl := Al hn.out HJ
   have bV := ag bQ.out au.out
   clear HJ hlt
   go_wp2
   go_ret
   exact ⟨rfl, bV⟩
theorem fT.keep {w w' : World} {B : Nat} {v : Value} {xs : List Int} (h : fT w B v xs) (hb : Below w.heap.size w w') : fT w' B v xs := by
 obtain ⟨h1, h2⟩ := h
 refine ⟨h1, h2.imp id ?_⟩
 rintro ⟨g, cap, cur, rfl, hg, hh, rest⟩
 exact ⟨g, cap, cur, rfl, hg, (hb.block g (Array.getElem?_eq_some_iff.1 hh).1).trans hh, rest⟩
theorem fT.mono {w : World} {B B' : Nat} {v : Value} {xs : List Int} (h : fT w B v xs) (hb : B' ≤ B) : fT w B' v xs := by
 obtain ⟨h1, h2⟩ := h
 refine ⟨h1, h2.imp id ?_⟩
 rintro ⟨g, cap, cur, rfl, hg, rest⟩
 exact ⟨g, cap, cur, rfl, by omega, rest⟩
theorem Bd {f : Row → Int} {rows : List Row} {k : Nat} (hk : k < rows.length) : (rows.take (k + 1)).map f = (rows.take k).map f ++ [f (rows.getD k dh)] := by
 rw [List.take_add_one, List.map_append, List.getElem?_eq_getElem hk, List.getD_eq_getElem?_getD, List.getElem?_eq_getElem hk]
 rfl
theorem CX {f : Row → Int} {rows : List Row} {k : Nat} (hk : k ≤ rows.length) : ((rows.take k).map f).length = k := by
 rw [List.length_map, List.length_take]; omega
theorem pq {f : Row → Bool} {xs : List Row} (h : xs.all f = true) {k : Nat} (hk : k < xs.length) : f (xs.getD k dh) = true := by
 rw [List.getD_eq_getElem?_getD, List.getElem?_eq_getElem hk]
 exact List.all_eq_true.1 h _ (List.getElem_mem hk)
def B_ (zs : List Int) (w : World) (e : Ending) (w' : World) : Prop := ∃ v, e = .returned v ∧ fT w' w.heap.size v zs ∧ Below w.heap.size w w'
theorem zH (P Q G : Int) (A : Option Addr) (rows : List Row) (n c : Nat) (E : Option Addr) (es : List Int) (m d : Nat) (hn : Hid (rows.length = n)) (hm : Hid (es.length = m)) (hbig : m < 1000000) (abK : n < 1000000)
  (hx : Hid (rows.all (mo P Q m) = true)) (he : Hid (es.all (gW Q) = true)) (hp2 : 2 ≤ P) (hp : P < 2305843009213693952) (hQ : Q < 9223372036854775808) (w : World) (hA : Hid (Rw w A rows)) (hE : Hid (Sl w E es)) :
  Calls Tryz.prog 259 #[gv P Q G, .slice A n c, .slice E m d] w (B_ (rows.map fun r => dH P 1 r.xs es) w) := by
 obtain ⟨i0, hi, hz0, hz1, hz2⟩ := info_parts lQ
 have bQ := aa (af w (bq P Q G))
 have HX0 := aa (aW w P Q G)
 have xY := aa (hA.out.below bQ.out)
 have Q6 := aa (hE.out.below bQ.out)
 obtain ⟨W, hW⟩ : ∃ W, w.alloc (bq P Q G) = W := ⟨_, rfl⟩
 rw [hW] at HX0 xY Q6 bQ
 have HW := aa hW
 clear hW hA hE
 go_in
 go_wp2
 rw [HW.out]
 go_loopw [7, 12] (fun v i wr => ∃ k : Nat, k ≤ n ∧ i = .int .i64 k ∧ Hid (fT wr W.heap.size v ((rows.take k).map fun r => dH P 1 r.xs es)) ∧ Hid (Below W.heap.size W wr)) (fun _ i _ => n - (intOf i).toNat)
 case atStart => exact ⟨0, by omega, rfl, aa (yN _ _), aa (Below.refl _ _)⟩
 case round =>
  obtain ⟨k, hk, rfl, HO, au⟩ := hrel
  by_cases hlt : k < n
  ·
   have hkl : k < rows.length := by rw [hn.out]; exact hlt
   obtain ⟨⟨b, o, hA, hi0⟩, hok⟩ := xY.out.below au.out k hkl
   subst hA
   obtain ⟨c0, c1, c2⟩ := HX0.out.below au.out
   have HEr := aa (Q6.out.below au.out)
   have hrb := pq hx.out hkl
   have TV := aa (Bd (f := fun r => dH P 1 r.xs es) hkl)
   obtain ⟨R, hR⟩ : ∃ R, rows.getD k dh = R := ⟨_, rfl⟩
   rw [hR] at hi0 hrb hok TV
   obtain ⟨p, rn, rc, xs⟩ := R
   simp only [mo, Bool.and_eq_true, decide_eq_true_eq] at hrb
   obtain ⟨rfl, hmx⟩ := hrb
   have HL := aa hok.1
   have HS := aa hok.2
   have HMX := aa hmx
   obtain ⟨V, hV⟩ : ∃ V, dH P 1 xs es = V := ⟨_, rfl⟩
   have QX := aa hV
   have aap : Hid ((rows.take (k + 1)).map (fun r => dH P 1 r.xs es) = (rows.take k).map (fun r => dH P 1 r.xs es) ++ [V]) := aa (by rw [TV.out, ← hV])
   have xS := aa (CX (f := fun r => dH P 1 r.xs es) (Nat.le_of_lt hkl))
   dsimp only [Row.val] at hi0
   clear hR hok hmx hV hkl TV
   go_wp2_with fail
   refine (Bw P Q G 1 p xs rn rc E es rn d V QX HL hm (Nat.le_refl _) hbig HMX he hp2 hp hQ (by omega) (by omega) _ HS HEr).mono ?_
   rintro e w2 ⟨rfl, hb0⟩
   have zm := aa (HO.out.keep hb0)
   have HB1 := aa (ag au.out hb0)
   have hown : w2.ownsRow W.heap.size 3 1 u7 k (((rows.take k).map fun r => dH P 1 r.xs es).map (Value.int .i64)) := by
    have h3 := zm.out
    unfold fT at h3
    rwa [xS.out] at h3
   have hbs := HB1.out.size
   clear hb0 c0 c1 c2 hi0 HO
   go_wp2_with (at_builtin; refine wpList_append_own _ rfl _ _ 24 rfl W.heap.size 3 i0 (.int .i64 0) 1 8 Tryz.underlying24 hi hz0 hz1 hz2 rfl (by decide) _ _ _ rfl (hown.alloc _) ⟨w2.heap.size, 0, none⟩ 1 1 [.int .i64 V] rfl rfl (cell_one_new _ _ _) (ints_oneCell .i64 [V]) (by unfold maxLen; omega) (by omega) (by simp; omega) ?_; intro v' w3 hown1 hgrow1 _)
   have qA : Hid (fT w3 W.heap.size v' ((rows.take (k + 1)).map fun r => dH P 1 r.xs es)) := aa (by
    rw [aap.out]
    exact fT.app xS.out.symm hown1)
   have HB2 : Hid (Below W.heap.size W w3) := aa (zm.out.below HB1.out hbs hgrow1)
   clear hown hown1 hgrow1
   go_roundw
   case rel => exact ⟨k + 1, by omega, by go_num, qA, HB2⟩
   case measure => simp [intOf]; omega
  ·
   obtain rfl : k = n := by omega
   have HF : Hid (fT wr W.heap.size u7 (rows.map fun r => dH P 1 r.xs es)) := aa (by
    have h3 := HO.out
    rwa [← hn.out, List.take_length] at h3)
   have bV := ag bQ.out au.out
   have hsz := bQ.out.size
   clear HO hlt
   go_wp2
   go_ret
   exact ⟨_, rfl, HF.out.mono hsz, bV⟩
theorem bJ {P Q G : Int} {ys : List Int} {rows : List Row} (h : eD P Q G ys rows = true) :
  aV P Q G = true ∧ 1 ≤ ys.length ∧ ys.length ≤ 8 ∧ rows.length = ys.length ∧ ys.all (aG P Q) = true ∧ 1 ≤ fZ rows ∧ fZ rows ≤ 12 ∧ rows.all (mo P Q (fZ rows)) = true := by
 simp only [eD, Bool.and_eq_true, decide_eq_true_eq] at h
 exact h
theorem gF {w : World} {b : Nat} {xs : List Int} (h : Cells w b xs) : Sl w (some ⟨b, 0, none⟩) xs := fun k hk => ⟨b, 0, rfl, by rw [Nat.zero_add]; exact h k hk⟩
theorem GX {Q c : Int} (h0 : 0 ≤ c) (h1 : c < Q) : [c].all (gW Q) = true := by simp [gW]; omega
end Go.Proofs.YtchcllcbknfikaaGreatDoor
namespace Go.Proofs.YtchcllcbknfikaaGreatDoor
open Go.RowKit
theorem GZ {P : Program} {f : FuncId} {args : Array Value} {w : World} {n : Nat} {v : Value}
  (h : Calls P f args (w.drewN n) fun e w' => e = .returned v ∧ ∃ m, w' = (w.drewN n).drewN m) : Calls P f args (w.drewN n) fun e w'' => e = .returned v ∧ ∃ m, w'' = w.drewN m :=
 h.mono fun _ _ ⟨he, m, hm⟩ => ⟨he, n + m, by rw [hm, World.drewN_drewN]⟩
end Go.Proofs.YtchcllcbknfikaaGreatDoor