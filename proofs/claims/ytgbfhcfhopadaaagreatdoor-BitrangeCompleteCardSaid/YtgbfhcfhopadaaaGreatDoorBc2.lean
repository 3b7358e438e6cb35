/- Contracts and lemmas: RefD, Sml, Slk, Sha, Byt, DigA, DigB, DigC, LawKitD, LinA, Held, Bx, DigD, DigE, DigF, Itm, EncA, EncB. -/
import Derived.Deep.QuietTactic
import Derived.BigQuiet
import Derived.Deep.RegionHeld3
import Derived.WalkKit
import Derived.Laws.BitsAllLaws
import Derived.BigRegion
import Derived.Deep.WholeRow
import Derived.Deep.Cut
import Derived.ChangeMaps5
import Derived.Deep.AppendLies
import Derived.Test.YtgbfhcfhopadaaaGreatDoorBc1
set_option linter.unusedVariables false
set_option linter.unusedSimpArgs false
set_option maxRecDepth 100000
set_option maxHeartbeats 25600000
namespace Go.Proofs.YtgbfhcfhopadaaaGreatDoor
open Go.RowKit ou
theorem dh (P Q G : Int) (b : Bool) (hb : Hid (aC P Q G = b)) (hQ : Q < 9223372036854775808) (w : World) :
  Calls Tryz.prog 19 #[gv P Q G] w (Rt w (.bool b)) := by
 have hb' := hb.out
 unfold aC at hb'
 by_cases h0 : P < 3
 ·
  obtain rfl : b = false := by
   cases b with
   | false => rfl
   | true => exact absurd (aJ hb.out).2.2 (by omega)
  exact Cn P Q G h0 w
 have h0' : 3 ≤ P := by omega
 by_cases h1 : P < 2305843009213693952
 ·
  by_cases h2 : 3 ≤ Q
  ·
   by_cases h3 : Q % 2 = 1
   ·
    by_cases h6 : (P - 1) % Q = 0
    ·
     by_cases h7 : 2 ≤ G
     ·
      by_cases h8 : G < P
      ·
       have De : Q < P := by have := Int.le_of_dvd (by omega) (Int.dvd_of_emod_eq_zero h6); omega
       cases h4 : iX P with
       | true =>
        cases h5 : iX Q with
        | true =>
         refine Cc P Q G h0' h1 h2 h3 hQ h6 h7 h8 De b h4 h5 ?_ w
         rw [← hb']
         simp [h1, h2, h3, h4, h5, h6, h7, h8]
         show ((pw G Q P == 1) = decide (pw G Q P = 1))
         rfl
        | false =>
         obtain rfl : b = false := by rw [← hb']; simp [h5]
         exact Ce P Q G h0' h1 h2 h3 hQ h6 h7 h8 De h4 h5 w
       | false =>
        obtain rfl : b = false := by rw [← hb']; simp [h4]
        exact Cf P Q G h0' h1 h2 h3 hQ h6 h7 h8 De h4 w
      ·
       obtain rfl : b = false := by rw [← hb']; simp [h8]
       exact Cg P Q G h0' h1 h2 h3 hQ h6 h7 (by omega) w
     ·
      obtain rfl : b = false := by rw [← hb']; simp [h7]
      exact Ch P Q G h0' h1 h2 h3 hQ h6 (by omega) w
    ·
     obtain rfl : b = false := by rw [← hb']; simp [h6]
     exact Ci P Q G h0' h1 h2 h3 hQ h6 w
   ·
    obtain rfl : b = false := by rw [← hb']; simp [h3]
    exact Cj P Q G h0' h1 h2 (show Q % 2 = 0 by omega) w
  ·
   obtain rfl : b = false := by rw [← hb']; simp [h2]
   exact Ck P Q G h0' h1 (by omega) w
 ·
  obtain rfl : b = false := by rw [← hb']; simp [h1]
  exact Cm P Q G h0' (by omega) w
theorem bK (P Q G x : Int) (b : Bool) (hb : Hid (av P Q x = b)) (h1 : P < 2305843009213693952) (J3 : 0 ≤ Q) (hQ : Q < 9223372036854775808) (w : World) :
  Calls Tryz.prog 20 #[gv P Q G, .int .i64 x] w (Rt w (.bool b)) := by
 by_cases hx : 1 ≤ x
 ·
  by_cases hx2 : x < P
  ·
   obtain ⟨y, hy⟩ : ∃ y, pw x Q P = y := ⟨_, rfl⟩
   have g9 : ((y : Int) == 1) = b := by
    rw [← hb.out, ← hy, av, Bool.eq_iff_iff]
    simp only [beq_iff_eq, decide_eq_true_eq]
    exact ⟨fun h => ⟨by omega, by omega, h⟩, fun h => h.2.2⟩
   have HX := aa hy
   clear hy hb
   go_in
   go_wp2_with fail
   refine (jf x Q P y HX (by omega) h1 (by omega) hx2 J3 hQ _).mono ?_
   rintro e w' ⟨rfl, rfl⟩
   go_wp2
   go_ret
   exact ⟨rfl, af _ _⟩
  ·
   obtain rfl : b = false := by rw [← hb.out]; simp [av]; omega
   have d2 : decide (x < P) = false := by simp; omega
   go_in
   go_wp2
   go_ret
   exact ⟨rfl, af _ _⟩
 ·
  obtain rfl : b = false := by rw [← hb.out]; simp [av]; omega
  have d2 : decide (1 ≤ x) = false := by simp; omega
  go_in
  go_wp2
  go_ret
  exact ⟨rfl, af _ _⟩
theorem cell_below {w w' : World} {p : Addr} {v : Value} (h : w.cell? p = some v) (hb : Below w.heap.size w w') : w'.cell? p = some v := (hb.cell (World.block_lt_of_cell? _ _ h)).trans h
theorem iV {f : Int → Bool} {xs : List Int} (h : xs.all f = true) {k : Nat} (hk : k < xs.length) : f (xs.getD k 0) = true := by
 rw [List.getD_eq_getElem?_getD, List.getElem?_eq_getElem hk]
 exact List.all_eq_true.1 h _ (List.getElem_mem hk)
theorem AJ {M : Int} (h1 : 1 ≤ M) (h2 : M ≤ 65536) : IntKind.i64.wrap M = M := IntWalk.i64_in _ (by omega)
theorem wrap_small {M : Int} (h1 : 1 ≤ M) (h2 : M ≤ 65536) : wrap64 M = M := IntWalk.wrap64_in _ (by omega)
theorem nJ {P Q G : Int} {xs : List Int} (hv : aC P Q G = true) : (xs.any fun x => !dQ P Q G x) = !(xs.all (av P Q)) := by
 induction xs with
 | nil => rfl
 | cons x xs ih =>
  rw [List.any_cons, List.all_cons, ih, dQ, hv, Bool.true_and, Bool.not_and]
abbrev z32 : Array Value := #[.int .u8 0, .int .u8 0, .int .u8 0, .int .u8 0, .int .u8 0, .int .u8 0, .int .u8 0, .int .u8 0, .int .u8 0, .int .u8 0, .int .u8 0, .int .u8 0, .int .u8 0, .int .u8 0, .int .u8 0, .int .u8 0, .int .u8 0, .int .u8 0, .int .u8 0, .int .u8 0, .int .u8 0, .int .u8 0, .int .u8 0, .int .u8 0, .int .u8 0, .int .u8 0, .int .u8 0, .int .u8 0, .int .u8 0, .int .u8 0, .int .u8 0, .int .u8 0]
def Own (w : World) (p : Addr) (v : Value) : Prop := w.cell? p = some v ∧ w.frozen? p = false
theorem Own.below {w w' : World} {p : Addr} {v : Value} (h : Own w p v) (hb : Below w.heap.size w w') : Own w' p v :=
 ⟨cell_below h.1 hb, (hb.frozen (World.block_lt_of_cell? _ _ h.1)).trans h.2⟩
theorem wu {w : World} {cs : Array Value} {T : TypeId} {n j : Nat} {v : Value} (hn : w.heap.size = n) (hj : cs[j]? = some v) : (w.alloc (.cells cs T)).cell? ⟨n, j, none⟩ = some v := by
 subst hn
 exact (World.cell?_alloc_at _ _ _ _ rfl).trans hj
theorem yM {w : World} {cs : Array Value} {T : TypeId} {n j : Nat} {v : Value} (hn : w.heap.size = n) (hj : cs[j]? = some v) : Own (w.alloc (.cells cs T)) ⟨n, j, none⟩ v := by
 refine ⟨wu hn hj, ?_⟩
 subst hn
 exact aP (heap_alloc_new w _) _
theorem sl0 (w : World) (A : Option Addr) : Sl w A [] := fun k hk => absurd hk (by simp)
theorem sQ.sl {w : World} {B : Nat} {v : Value} {xs : List Int} (h : sQ w B v xs) : ∃ A c, v = .slice A xs.length c ∧ Sl w A xs ∧ (0 < xs.length → ∃ g, A = some ⟨g, 0, none⟩ ∧ B ≤ g) := by
 by_cases h0 : 0 < xs.length
 ·
  obtain ⟨g, cap, rfl, hg, hc⟩ := sQ.cells h h0
  exact ⟨some ⟨g, 0, none⟩, cap, rfl, fun k hk => ⟨g, 0, rfl, by rw [Nat.zero_add]; exact hc k hk⟩, fun _ => ⟨g, rfl, hg⟩⟩
 ·
  have e : xs = [] := List.eq_nil_of_length_eq_zero (by omega)
  subst e
  obtain ⟨_, h2⟩ := h
  rcases h2 with ⟨hv, _⟩ | ⟨g, cap, cur, hv, _⟩
  · exact ⟨none, 0, hv, sl0 _ _, fun h => absurd h (by simp)⟩
  · exact ⟨_, cap, hv, sl0 _ _, fun h => absurd h (by simp)⟩
theorem Sl.ofCells {w : World} {b : Nat} {xs : List Int} (h : Cells w b xs) : Sl w (some ⟨b, 0, none⟩) xs := fun k hk => ⟨b, 0, rfl, by rw [Nat.zero_add]; exact h k hk⟩
end Go.Proofs.YtgbfhcfhopadaaaGreatDoor
namespace Go.Proofs.YtgbfhcfhopadaaaGreatDoor
open Go.RowKit
structure Kp (p : Prop) : Prop where
 out : p
def fH (x : Int) (n : Nat) : Int := bits .or .u32 (x / 2 ^ n) (IntKind.u32.wrap (x * 2 ^ (32 - n)))
def M3 (x : Int) : Int := bits .xor .u32 (bits .xor .u32 (fH x 7) (fH x 18)) (x / 8)
def M0 (x : Int) : Int := bits .xor .u32 (bits .xor .u32 (fH x 17) (fH x 19)) (x / 1024)
def add32 (x y : Int) : Int := IntKind.u32.wrap (x + y)
def Gj (l : List Int) : Int := add32 (add32 (add32 (l.getD (l.length - 16) 0) (M3 (l.getD (l.length - 15) 0))) (l.getD (l.length - 7) 0)) (M0 (l.getD (l.length - 2) 0))
def kX : Nat → List Int → List Int
 | 0, l => l
 | n + 1, l => kX n l ++ [Gj (kX n l)]
def iR (b : List Int) (i : Nat) : Int := b.getD i 0
def tY (b : List Int) (i : Nat) : Int := ((iR b (4 * i) * 256 + iR b (4 * i + 1)) * 256 + iR b (4 * i + 2)) * 256 + iR b (4 * i + 3)
def bO (b : List Int) (n : Nat) : List Int := (List.range n).map (tY b)
def bg (b : List Int) : List Int := kX 48 (bO b 16)
theorem dM (b : List Int) (n : Nat) : (bO b n).length = n := by simp [bO]
theorem tZ (b : List Int) (n : Nat) : bO b (n + 1) = bO b n ++ [tY b n] := by simp [bO, List.range_succ]
theorem t_ (n : Nat) (l : List Int) : (kX n l).length = l.length + n := by
 induction n with
 | zero => rfl
 | succ n ih => rw [kX, List.length_append, ih]; rfl
theorem iF (b : List Int) : (bg b).length = 64 := by rw [bg, t_, dM]
structure St where
 (a b c d e f g h : Int)
def Qx (x : Int) : Int := bits .xor .u32 (bits .xor .u32 (fH x 2) (fH x 13)) (fH x 22)
def M4 (x : Int) : Int := bits .xor .u32 (bits .xor .u32 (fH x 6) (fH x 11)) (fH x 25)
def KA (x : Int) : Int := bits .xor .u32 4294967295 x
def Np (e f g : Int) : Int := bits .xor .u32 (bits .and .u32 e f) (bits .and .u32 (KA e) g)
def Qz (a b c : Int) : Int := bits .xor .u32 (bits .xor .u32 (bits .and .u32 a b) (bits .and .u32 a c)) (bits .and .u32 b c)
def ES (s : St) (k w : Int) : Int := add32 (add32 (add32 (add32 s.h (M4 s.e)) (Np s.e s.f s.g)) k) w
def Ky (s : St) : Int := add32 (Qx s.a) (Qz s.a s.b s.c)
def M5 (s : St) (k w : Int) : St := ⟨add32 (ES s k w) (Ky s), s.a, s.b, s.c, add32 s.d (ES s k w), s.e, s.f, s.g⟩
def KL : List Int := [
  0x428a2f98, 0x71374491, 0xb5c0fbcf, 0xe9b5dba5, 0x3956c25b, 0x59f111f1, 0x923f82a4, 0xab1c5ed5,
  0xd807aa98, 0x12835b01, 0x243185be, 0x550c7dc3, 0x72be5d74, 0x80deb1fe, 0x9bdc06a7, 0xc19bf174,
  0xe49b69c1, 0xefbe4786, 0x0fc19dc6, 0x240ca1cc, 0x2de92c6f, 0x4a7484aa, 0x5cb0a9dc, 0x76f988da,
  0x983e5152, 0xa831c66d, 0xb00327c8, 0xbf597fc7, 0xc6e00bf3, 0xd5a79147, 0x06ca6351, 0x14292967,
  0x27b70a85, 0x2e1b2138, 0x4d2c6dfc, 0x53380d13, 0x650a7354, 0x766a0abb, 0x81c2c92e, 0x92722c85,
  0xa2bfe8a1, 0xa81a664b, 0xc24b8b70, 0xc76c51a3, 0xd192e819, 0xd6990624, 0xf40e3585, 0x106aa070,
  0x19a4c116, 0x1e376c08, 0x2748774c, 0x34b0bcb5, 0x391c0cb3, 0x4ed8aa4a, 0x5b9cca4f, 0x682e6ff3,
  0x748f82ee, 0x78a5636f, 0x84c87814, 0x8cc70208, 0x90befffa, 0xa4506ceb, 0xbef9a3f7, 0xc67178f2]
def st0 : St := ⟨0x6a09e667, 0xbb67ae85, 0x3c6ef372, 0xa54ff53a, 0x510e527f, 0x9b05688c, 0x1f83d9ab, 0x5be0cd19⟩
def wY (ws : List Int) (s : St) : Nat → St
 | 0 => s
 | n + 1 => M5 (wY ws s n) (KL.getD n 0) (ws.getD n 0)
def Jk (s t : St) : St := ⟨add32 s.a t.a, add32 s.b t.b, add32 s.c t.c, add32 s.d t.d, add32 s.e t.e, add32 s.f t.f, add32 s.g t.g, add32 s.h t.h⟩
def xG (s : St) (b : List Int) : St := Jk s (wY (bg b) s 64)
def fe (p : List Int) (n : Nat) : List Int := (p.drop (64 * n)).take 64
def jZ (p : List Int) : Nat → St
 | 0 => st0
 | n + 1 => xG (jZ p n) (fe p n)
def jb (n : Int) : List Int := [n / 72057594037927936 % 256, n / 281474976710656 % 256, n / 1099511627776 % 256, n / 4294967296 % 256, n / 16777216 % 256, n / 65536 % 256, n / 256 % 256, n % 256]
def lI (n : Nat) : Nat := (119 - n % 64) % 64
def lJ (b : List Int) : List Int := b ++ [128] ++ List.replicate (lI b.length) 0 ++ jb (8 * b.length)
def St.list (s : St) : List Int := [s.a, s.b, s.c, s.d, s.e, s.f, s.g, s.h]
def o9 (v : Int) : List Int := [v / 16777216 % 256, v / 65536 % 256, v / 256 % 256, v % 256]
def kF (s : St) : List Int := o9 s.a ++ o9 s.b ++ o9 s.c ++ o9 s.d ++ o9 s.e ++ o9 s.f ++ o9 s.g ++ o9 s.h
def nQ (b : List Int) : List Int := kF (jZ (lJ b) ((lJ b).length / 64))
def tagged (tag b : List Int) : List Int := nQ (nQ tag ++ nQ tag ++ b)
def au (l : List Int) : Bool := l.all fun x => decide (0 ≤ x) && decide (x < 256)
theorem fo (n : Int) : (jb n).length = 8 := rfl
theorem eX (b : List Int) : (nQ b).length = 32 := rfl
theorem dO (t b : List Int) : (tagged t b).length = 32 := rfl
theorem oV (b : List Int) : (lJ b).length = b.length + 9 + lI b.length := by simp [lJ, fo]; omega
theorem CB (b : List Int) : (lJ b).length % 64 = 0 := by rw [oV, lI]; omega
theorem pg (n : Int) : (decide (0 ≤ n % 256) && decide (n % 256 < 256)) = true := by simp; omega
theorem aT {a b : List Int} : au (a ++ b) = (au a && au b) := by simp [au]
theorem jR (n : Int) : au (jb n) = true := by simp [au, jb, pg]
theorem xA (n : Int) : au (o9 n) = true := by simp [au, o9, pg]
theorem xz (s : St) : au (kF s) = true := by simp only [kF, aT, xA, Bool.and_self]
theorem gY (b : List Int) : au (nQ b) = true := xz _
theorem xx {b : List Int} (h : au b = true) : au (lJ b) = true := by
 simp only [lJ, aT, h, jR, Bool.true_and, Bool.and_true]
 simp [au]
theorem eO {l : List Int} (h : au l = true) (i : Nat) : 0 ≤ l.getD i 0 ∧ l.getD i 0 < 256 := by
 by_cases hi : i < l.length
 ·
  have := List.all_eq_true.1 h _ (List.getElem_mem hi)
  rw [List.getD_eq_getElem?_getD, List.getElem?_eq_getElem hi]
  simpa using this
 · rw [List.getD_eq_getElem?_getD, List.getElem?_eq_none (by omega)]; simp
theorem vU {l : List Int} (h : au l = true) (n : Nat) : au (l.take n) = true :=
 List.all_eq_true.2 fun x hx => List.all_eq_true.1 h x (List.mem_of_mem_take hx)
theorem vV {l : List Int} (h : au l = true) (n : Nat) : au (l.drop n) = true :=
 List.all_eq_true.2 fun x hx => List.all_eq_true.1 h x (List.mem_of_mem_drop hx)
theorem qF {p : List Int} (h : au p = true) (n : Nat) : au (fe p n) = true := vU (vV h _) _
theorem vX {p : List Int} {n : Nat} (h : 64 * n + 64 ≤ p.length) : (fe p n).length = 64 := by simp [fe]; omega
theorem sN (a b : Int) : bits .or .u32 a b = bits .or .u32 b a := by
 simp only [bits]
 rw [BitVec.or_comm]
end Go.Proofs.YtgbfhcfhopadaaaGreatDoor
namespace Go.Proofs.YtgbfhcfhopadaaaGreatDoor
open Go.RowKit ou
def Sk (K : IntKind) (w : World) (A : Option Addr) (xs : List Int) : Prop := ∀ j, j < xs.length → ∃ b o, A = some ⟨b, o, none⟩ ∧ w.cell? ⟨b, o + j, none⟩ = some (.int K (xs.getD j 0))
variable {K : IntKind}
theorem Qw (w : World) (A : Option Addr) : Sk K w A [] := fun k hk => absurd hk (by simp)
theorem Sk.below {w w' : World} {A : Option Addr} {xs : List Int} (h : Sk K w A xs) (hb : Below w.heap.size w w') : Sk K w' A xs := fun k hk => by
 obtain ⟨b, o, h1, h2⟩ := h k hk
 exact ⟨b, o, h1, (hb.cell (World.block_lt_of_cell? _ _ h2)).trans h2⟩
theorem Sk.at0 {w : World} {A : Option Addr} {xs : List Int} (h : Sk K w A xs) (h0 : 0 < xs.length) : ∃ b o, A = some ⟨b, o, none⟩ ∧ ∀ j, j < xs.length → w.cell? ⟨b, o + j, none⟩ = some (.int K (xs.getD j 0)) := by
 obtain ⟨b, o, rfl, _⟩ := h 0 h0
 exact ⟨b, o, rfl, fun j hj => by
  obtain ⟨b', o', e, hc⟩ := h j hj
  cases e
  exact hc⟩
theorem Sk.lt {w : World} {b o : Nat} {xs : List Int} (h : Sk K w (some ⟨b, o, none⟩) xs) (h0 : 0 < xs.length) : b < w.heap.size := by
 obtain ⟨b', o', e, hc⟩ := h 0 h0
 cases e
 exact World.block_lt_of_cell? _ _ hc
theorem Sk.cell {w : World} {b o : Nat} {xs : List Int} (h : Sk K w (some ⟨b, o, none⟩) xs) {j : Nat} (hj : j < xs.length) : w.cell? ⟨b, o + j, none⟩ = some (.int K (xs.getD j 0)) := by
 obtain ⟨b', o', e, hc⟩ := h j hj
 cases e
 exact hc
theorem Sk.drop {w : World} {b o n : Nat} {xs : List Int} (h : Sk K w (some ⟨b, o, none⟩) xs) : Sk K w (some ⟨b, o + n, none⟩) (xs.drop n) := fun j hj => by
 rw [List.length_drop] at hj
 refine ⟨b, o + n, rfl, ?_⟩
 rw [Nat.add_assoc, h.cell (j := n + j) (by omega)]
 simp [List.getD_eq_getElem?_getD, List.getElem?_drop]
theorem Sk.take {w : World} {A : Option Addr} {n : Nat} {xs : List Int} (h : Sk K w A xs) : Sk K w A (xs.take n) := fun j hj => by
 rw [List.length_take] at hj
 obtain ⟨b, o, h1, h2⟩ := h j (by omega)
 refine ⟨b, o, h1, ?_⟩
 rw [h2]
 simp [List.getD_eq_getElem?_getD, List.getElem?_take_of_lt (show j < n by omega)]
theorem Sk.nil_of {w : World} {A : Option Addr} {xs : List Int} (h : xs.length = 0) : Sk K w A xs := fun k hk => by omega
def aX (K : IntKind) (T : TypeId) (w : World) (base : Nat) (v : Value) (xs : List Int) : Prop := w.ownsRow base T 1 v xs.length (xs.map (Value.int K))
variable {T : TypeId}
theorem uJ (w : World) (base : Nat) : aX K T w base (.slice none 0 0) [] := World.ownsRow_nil _ _ _ _
theorem aX.app {w1 : World} {base k : Nat} {v' : Value} {xs ys : List Int} {m : Nat} (hk : k = xs.length) (hm : m = ys.length)
  (h : w1.ownsRow base T 1 v' (k + m) (xs.map (Value.int K) ++ ys.map (Value.int K))) : aX K T w1 base v' (xs ++ ys) := by
 unfold aX
 rw [List.length_append, List.map_append, ← hk, ← hm]
 exact h
theorem aX.below {w w1 wr : World} {B : Nat} {o : Obj} {v : Value} {xs : List Int} (h : aX K T wr B v xs) (hb : Below B w wr) (hB : B ≤ wr.heap.size) (hg : (wr.alloc o).grownBy w1 v.ownBlock) : Below B w w1 :=
 (hb.alloc hB o).grown hg (by simp; omega) (fun j hj => (World.ownsRow.lt h j hj).1)
theorem aX.below0 {w w1 wr : World} {B : Nat} {v : Value} {xs : List Int} (h : aX K T wr B v xs) (hb : Below B w wr) (hB : B ≤ wr.heap.size) (hg : wr.grownBy w1 v.ownBlock) : Below B w w1 :=
 hb.grown hg (by omega) (fun j hj => (World.ownsRow.lt h j hj).1)
theorem aX.cells {w : World} {B : Nat} {v : Value} {xs : List Int} (h : aX K T w B v xs) (hne : 0 < xs.length) : ∃ g cap, v = .slice (some ⟨g, 0, none⟩) xs.length cap ∧ B ≤ g ∧ xs.length ≤ cap ∧ cap ≤ maxLen ∧ Sk K w (some ⟨g, 0, none⟩) xs := by
 obtain ⟨h1, h2⟩ := h
 rcases h2 with ⟨_, h0⟩ | ⟨g, cap, cur, rfl, hg, hh, hn, hc, hs, ht⟩
 · omega
 ·
  refine ⟨g, cap, rfl, hg, hn, hc, fun j hj => ⟨g, 0, rfl, ?_⟩⟩
  rw [Nat.zero_add, aj hh]
  have e : cur.toList[j]? = (xs.map (Value.int K))[j]? := by
   rw [← ht, List.getElem?_take_of_lt (by omega)]
  rw [← Array.getElem?_toList, e, List.getElem?_map, List.getElem?_eq_getElem hj, List.getD_eq_getElem?_getD, List.getElem?_eq_getElem hj]
  rfl
theorem aX.sk {w : World} {B : Nat} {v : Value} {xs : List Int} (h : aX K T w B v xs) : ∃ A c, v = .slice A xs.length c ∧ Sk K w A xs ∧ (0 < xs.length → ∃ g, A = some ⟨g, 0, none⟩ ∧ B ≤ g) ∧ xs.length ≤ c := by
 by_cases h0 : 0 < xs.length
 ·
  obtain ⟨g, cap, rfl, hg, hn, _, hc⟩ := aX.cells h h0
  exact ⟨some ⟨g, 0, none⟩, cap, rfl, hc, fun _ => ⟨g, rfl, hg⟩, hn⟩
 ·
  have e : xs = [] := List.eq_nil_of_length_eq_zero (by omega)
  subst e
  obtain ⟨_, h2⟩ := h
  rcases h2 with ⟨hv, _⟩ | ⟨g, cap, cur, hv, _⟩
  · exact ⟨none, 0, hv, Qw _ _, fun h => absurd h (by simp), by simp⟩
  · exact ⟨_, cap, hv, Qw _ _, fun h => absurd h (by simp), by simp⟩
theorem aX.keep {w w' : World} {B : Nat} {v : Value} {xs : List Int} (h : aX K T w B v xs) (hb : Below w.heap.size w w') : aX K T w' B v xs := by
 obtain ⟨h1, h2⟩ := h
 refine ⟨h1, h2.imp id ?_⟩
 rintro ⟨g, cap, cur, rfl, hg, hh, rest⟩
 exact ⟨g, cap, cur, rfl, hg, (hb.block g (Array.getElem?_eq_some_iff.1 hh).1).trans hh, rest⟩
theorem aX.mono {w : World} {B B' : Nat} {v : Value} {xs : List Int} (h : aX K T w B v xs) (hb : B' ≤ B) : aX K T w B' v xs := by
 obtain ⟨h1, h2⟩ := h
 refine ⟨h1, h2.imp id ?_⟩
 rintro ⟨g, cap, cur, rfl, hg, rest⟩
 exact ⟨g, cap, cur, rfl, by omega, rest⟩
theorem aX.row {w : World} {B n : Nat} {v : Value} {xs : List Int} (h : aX K T w B v xs) (hn : xs.length = n) : w.ownsRow B T 1 v n (xs.map (Value.int K)) := by
 subst hn; exact h
theorem aX.lt {w : World} {B : Nat} {v : Value} {xs : List Int} (h : aX K T w B v xs) (j : Nat) (hj : v.ownBlock = some j) : B ≤ j ∧ j < w.heap.size := World.ownsRow.lt h j hj
def O4 (K : IntKind) (T : TypeId) (xs : List Int) (w : World) (e : Ending) (w' : World) : Prop := ∃ v, e = .returned v ∧ aX K T w' w.heap.size v xs ∧ Below w.heap.size w w'
theorem xP {xs ys : List Int} {j : Nat} (h : j < xs.length) : (xs ++ ys).getD j 0 = xs.getD j 0 := by
 simp [List.getD_eq_getElem?_getD, List.getElem?_append_left h]
theorem xO {xs ys : List Int} {j : Nat} (h : xs.length ≤ j) : (xs ++ ys).getD j 0 = ys.getD (j - xs.length) 0 := by
 simp [List.getD_eq_getElem?_getD, List.getElem?_append_right h]
theorem take_one {xs : List Int} {k : Nat} (hk : k < xs.length) : xs.take (k + 1) = xs.take k ++ [xs.getD k 0] := by
 rw [List.take_add_one, List.getElem?_eq_getElem hk, List.getD_eq_getElem?_getD, List.getElem?_eq_getElem hk]
 rfl
def arr (K : IntKind) (l : List Int) : Array Value := (l.map (Value.int K)).toArray
theorem aK (l : List Int) : (arr K l).size = l.length := by simp [arr]
def bf (K : IntKind) (T : TypeId) (w : World) (b : Nat) (l : List Int) : Prop := w.heap[b]? = some (.cells (arr K l) T (0, 0))
theorem bf.below {w w' : World} {b : Nat} {l : List Int} (h : bf K T w b l) (hb : Below w.heap.size w w') : bf K T w' b l :=
 (hb.block b (Array.getElem?_eq_some_iff.1 h).1).trans h
theorem bf.keepB {w w' : World} {b B : Nat} {l : List Int} (h : bf K T w b l) (hlt : b < B) (hb : Below B w w') : bf K T w' b l := (hb.block b hlt).trans h
theorem bf.lt {w : World} {b : Nat} {l : List Int} (h : bf K T w b l) : b < w.heap.size := (Array.getElem?_eq_some_iff.1 h).1
theorem sO {l : List Int} {j : Nat} (hj : j < l.length) : (arr K l)[j]? = some (.int K (l.getD j 0)) := by
 simp [arr, List.getD_eq_getElem?_getD, List.getElem?_eq_getElem hj]
theorem bf.cell {w : World} {b j : Nat} {l : List Int} (h : bf K T w b l) (hj : j < l.length) : w.cell? ⟨b, j, none⟩ = some (.int K (l.getD j 0)) := (aj h j).trans (sO hj)
theorem bf.free {w : World} {b : Nat} {l : List Int} (h : bf K T w b l) (j : Nat) : w.frozen? ⟨b, j, none⟩ = false := aP h j
theorem FY {l : List Int} {j : Nat} {v : Int} : (arr K l).setIfInBounds j (.int K v) = arr K (l.set j v) := by
 apply Array.ext'
 simp [arr, List.map_set]
theorem bf.set {w : World} {b j : Nat} {l : List Int} {v : Int} (h : bf K T w b l) : bf K T (w.setCell ⟨b, j, none⟩ (.int K v)) b (l.set j v) := by
 unfold bf
 rw [heap_setCell_same w b j _ T _ h, FY]
theorem bf.set_ne {w : World} {b a j : Nat} {l : List Int} {v : Value} (h : bf K T w b l) (hne : b ≠ a) : bf K T (w.setCell ⟨a, j, none⟩ v) b l :=
 (heap_setCell_other w _ b v hne).trans h
theorem bf.setRow {w : World} {b : Nat} {l l' : List Int} (h : bf K T w b l) : bf K T (w.setRow b (arr K l')) b l' := setRow_heap w b _ _ T _ h
theorem bf.new (w : World) (l : List Int) : bf K T (w.alloc (.cells (arr K l) T)) w.heap.size l := heap_alloc_new _ _
theorem bf.old {w : World} {b : Nat} {l : List Int} (h : bf K T w b l) (o : Obj) : bf K T (w.alloc o) b l := (Below.heap_alloc w o b h.lt).trans h
theorem bf.drew {w : World} {b : Nat} {l : List Int} (h : bf K T w b l) (n : Nat) : bf K T (w.drewN n) b l := h.below (ax (Below.refl _ _) n)
theorem bf.sk {w : World} {b : Nat} {l : List Int} (h : bf K T w b l) : Sk K w (some ⟨b, 0, none⟩) l := fun j hj => ⟨b, 0, rfl, by rw [Nat.zero_add]; exact h.cell hj⟩
theorem bF (l : List Int) : (arr K l).all (·.oneCell') = true := by simp [arr, Value.oneCell']
theorem ah {B b : Nat} {w0 w : World} {cs : Array Value} (h : Below B w0 w) (hb : B ≤ b) : Below B w0 (w.setRow b cs) :=
 h.trans ⟨rfl, rfl, rfl, by simp [World.setRow], fun k hk => setRow_other w b k cs (by omega)⟩
end Go.Proofs.YtgbfhcfhopadaaaGreatDoor
namespace Go.Proofs.YtgbfhcfhopadaaaGreatDoor
open Go.RowKit
theorem LC : ∀ n : Nat, n < 32 → 1 ≤ n → bits .and .u64 (IntKind.u64.wrap (-(n : Int))) 31 = 32 - (n : Int) := by decide
theorem gV (x : Int) : IntKind.u32.wrap x = x % 4294967296 := by simp [IntKind.wrap, IntKind.bits, IntKind.signed]
theorem ER (x m s : Int) (n : Nat) (hs : Hid (bits .and .u64 (IntKind.u64.wrap m) 31 = s)) (hn : Hid (s = 32 - n)) (h0 : 0 ≤ s) (h1 : s ≤ 31) (w : World) :
  Calls Tryz.prog 131 #[.int .u32 x, .int .i64 m] w fun e w' => e = .returned (.int .u32 (fH x n)) ∧ w = w' := by
 have g1 : IntKind.u64.wrap (32 - s) = 32 - s := by simp [IntKind.wrap, IntKind.bits, IntKind.signed]; omega
 have g2 : 0 ≤ 32 - s := by omega
 have hs' := hs.out
 have HR : Hid (bits .or .u32 (x * 2 ^ s.toNat % 4294967296) (x / 2 ^ (32 - s).toNat) = fH x n) := aa (by
  have e1 : s.toNat = 32 - n := by have := hn.out; omega
  have e2 : (32 - s).toNat = n := by have := hn.out; omega
  rw [e1, e2, fH, sN, gV])
 clear hs hn
 go_in
 go_wp2
 go_ret
 exact ⟨by rw [HR.out]; rfl, rfl⟩
theorem fB (x N : Int) (n : Nat) (hN : N = n) (h1 : 1 ≤ n) (h2 : n < 32) (w : World) :
  Calls Tryz.prog 127 #[.int .u32 x, .int .i64 N] w fun e w' => e = .returned (.int .u32 (fH x n)) ∧ w = w' := by
 subst hN
 have HS := aa (LC n h2 h1)
 have hm' : wrap64 (-(n : Int)) = -(n : Int) := IntWalk.wrap64_in _ (by omega)
 go_in
 go_wp2_with fail
 refine (ER x _ _ n HS (aa rfl) (by omega) (by omega) _).mono ?_
 rintro e w' ⟨rfl, rfl⟩
 go_wp2
 go_ret
 exact ⟨rfl, rfl⟩
theorem Ao (x N : Int) (h1 : 1 ≤ N) (h2 : N < 32) (w : World) :
  Calls Tryz.prog 127 #[.int .u32 x, .int .i64 N] w fun e w' => e = .returned (.int .u32 (fH x N.toNat)) ∧ w = w' :=
 fB x N N.toNat (by omega) (by omega) (by omega) w
end Go.Proofs.YtgbfhcfhopadaaaGreatDoor
namespace Go.Proofs.YtgbfhcfhopadaaaGreatDoor
open Go.RowKit ou
theorem Fb {p c : Int} (h0 : 0 ≤ p) (h1 : p < 16777216) (c0 : 0 ≤ c) (c1 : c < 256) : bits .or .u32 (p * 256) c = p * 256 + c := by
 obtain ⟨P, rfl⟩ := Int.eq_ofNat_of_zero_le h0
 obtain ⟨C, rfl⟩ := Int.eq_ofNat_of_zero_le c0
 have e1 : ((P : Int) * 256) = ((P * 256 : Nat) : Int) := by omega
 rw [e1, u32_or _ _ (by omega) (by omega) (by omega) (by omega)]
 have e2 : 2 ^ 8 * P + C = 2 ^ 8 * P ||| C := Nat.two_pow_add_eq_or_of_lt (by omega) P
 have e3 : P * 256 ||| C = P * 256 + C := by rw [show P * 256 = 2 ^ 8 * P by omega, ← e2]
 simp only [Int.toNat_natCast]
 rw [e3]
 omega
def part (b : List Int) (i : Nat) : Nat → Int
 | 0 => 0
 | m + 1 => part b i m * 256 + iR b (4 * i + m)
theorem Kz (b : List Int) (i : Nat) : part b i 4 = tY b i := by simp [part, tY]
theorem E9 {b : List Int} (h : au b = true) (i m : Nat) : 0 ≤ part b i m := by
 induction m with
 | zero => exact Int.le_refl _
 | succ m ih => have := (eO h (4 * i + m)).1; simp only [part, iR]; omega
theorem E_ {b : List Int} (h : au b = true) (i m : Nat) (hm : m ≤ 3) : part b i m < 16777216 := by
 have h0 := eO h (4 * i)
 have h1 := eO h (4 * i + 1)
 have h2 := eO h (4 * i + 2)
 rcases (show m = 0 ∨ m = 1 ∨ m = 2 ∨ m = 3 by omega) with rfl | rfl | rfl | rfl
 · simp [part]
 · simp only [part, iR, Nat.add_zero]; omega
 · simp only [part, iR, Nat.add_zero]; omega
 · simp only [part, iR, Nat.add_zero]; omega
def aR (n : Nat) : List Int := List.replicate n 0
theorem GH : (#[.int .u32 0, .int .u32 0, .int .u32 0, .int .u32 0, .int .u32 0, .int .u32 0, .int .u32 0, .int .u32 0, .int .u32 0, .int .u32 0, .int .u32 0, .int .u32 0, .int .u32 0, .int .u32 0, .int .u32 0, .int .u32 0, .int .u32 0, .int .u32 0, .int .u32 0, .int .u32 0, .int .u32 0, .int .u32 0, .int .u32 0, .int .u32 0, .int .u32 0, .int .u32 0, .int .u32 0, .int .u32 0, .int .u32 0, .int .u32 0, .int .u32 0, .int .u32 0, .int .u32 0, .int .u32 0, .int .u32 0, .int .u32 0, .int .u32 0, .int .u32 0, .int .u32 0, .int .u32 0, .int .u32 0, .int .u32 0, .int .u32 0, .int .u32 0, .int .u32 0, .int .u32 0, .int .u32 0, .int .u32 0, .int .u32 0, .int .u32 0, .int .u32 0, .int .u32 0, .int .u32 0, .int .u32 0, .int .u32 0, .int .u32 0, .int .u32 0, .int .u32 0, .int .u32 0, .int .u32 0, .int .u32 0, .int .u32 0, .int .u32 0, .int .u32 0] : Array Value) = arr .u32 (aR 64) := by rfl
def wz (l : List Int) : List Int := l ++ aR (64 - l.length)
theorem wT {l : List Int} (h : l.length ≤ 64) : (wz l).length = 64 := by simp [wz, aR]; omega
theorem BB {l : List Int} {x : Int} (h : l.length < 64) : (wz l).set l.length x = wz (l ++ [x]) := by
 obtain ⟨m, hm⟩ : ∃ m, 64 - l.length = m + 1 := ⟨63 - l.length, by omega⟩
 have hm2 : 64 - (l ++ [x]).length = m := by rw [List.length_append, List.length_singleton]; omega
 rw [wz, wz, hm, hm2, aR, List.replicate_succ, List.set_append_right _ _ (Nat.le_refl _), Nat.sub_self, List.set_cons_zero]
 simp [aR]
theorem Kq {l : List Int} : (wz l).getD l.length 0 = 0 := by
 rw [wz, xO (Nat.le_refl _), Nat.sub_self, aR, List.getD_eq_getElem?_getD, List.getElem?_replicate]
 split <;> rfl
theorem Ho {l : List Int} {j : Nat} (h : j < l.length) : (wz l).getD j 0 = l.getD j 0 := xP h
theorem set_self {l : List Int} {k : Nat} {x : Int} (h : l.getD k 0 = x) : l.set k x = l := by
 by_cases hk : k < l.length
 ·
  rw [List.getD_eq_getElem?_getD, List.getElem?_eq_getElem hk] at h
  subst h
  exact List.set_getElem_self hk
 · exact List.set_eq_of_length_le (by omega)
theorem ve {l : List Int} {k : Nat} {x : Int} (h : k < l.length) : (l.set k x).getD k 0 = x := by
 simp [List.getD_eq_getElem?_getD, h]
theorem BC (b : List Int) : wz (kX 48 (bO b 16)) = bg b := by
 have h := iF b
 unfold bg at h ⊢
 unfold wz
 rw [h]
 simp [aR]
theorem Ik : (Tryz.prog.info? 160).map (·.size) = some 64 := by kernel_rfl
theorem iE (b : List Int) : (Tryz.prog.info? 160).map (·.size) = some (arr .u32 (bg b)).size := Ik.trans (congrArg some (by rw [aK, iF]))
theorem uy (b : List Int) : (arr .u32 (aR 64)).size = (arr .u32 (bg b)).size := by rw [aK, aK, iF]; rfl
theorem Al (b o cap : Nat) (blk : List Int) (hlen : Hid (blk.length = 64)) (hby : Hid (au blk = true)) (w : World) (hs : Hid (Sk .u8 w (some ⟨b, o, none⟩) blk)) (hcap : 64 ≤ cap) (hcm : cap ≤ 9223372036854775807) :
  Calls Tryz.prog 126 #[.slice (some ⟨b, o, none⟩) 64 cap] w (Rt w (.agg (arr .u32 (bg blk)))) := by
 obtain ⟨W, hW⟩ : ∃ W, (w.alloc (.cells #[.int .u32 0, .int .u32 0, .int .u32 0, .int .u32 0, .int .u32 0, .int .u32 0, .int .u32 0, .int .u32 0, .int .u32 0, .int .u32 0, .int .u32 0, .int .u32 0, .int .u32 0, .int .u32 0, .int .u32 0, .int .u32 0, .int .u32 0, .int .u32 0, .int .u32 0, .int .u32 0, .int .u32 0, .int .u32 0, .int .u32 0, .int .u32 0, .int .u32 0, .int .u32 0, .int .u32 0, .int .u32 0, .int .u32 0, .int .u32 0, .int .u32 0, .int .u32 0, .int .u32 0, .int .u32 0, .int .u32 0, .int .u32 0, .int .u32 0, .int .u32 0, .int .u32 0, .int .u32 0, .int .u32 0, .int .u32 0, .int .u32 0, .int .u32 0, .int .u32 0, .int .u32 0, .int .u32 0, .int .u32 0, .int .u32 0, .int .u32 0, .int .u32 0, .int .u32 0, .int .u32 0, .int .u32 0, .int .u32 0, .int .u32 0, .int .u32 0, .int .u32 0, .int .u32 0, .int .u32 0, .int .u32 0, .int .u32 0, .int .u32 0, .int .u32 0] 160)).alloc (.cells #[.int .u32 0, .int .u32 0, .int .u32 0, .int .u32 0, .int .u32 0, .int .u32 0, .int .u32 0, .int .u32 0, .int .u32 0, .int .u32 0, .int .u32 0, .int .u32 0, .int .u32 0, .int .u32 0, .int .u32 0, .int .u32 0, .int .u32 0, .int .u32 0, .int .u32 0, .int .u32 0, .int .u32 0, .int .u32 0, .int .u32 0, .int .u32 0, .int .u32 0, .int .u32 0, .int .u32 0, .int .u32 0, .int .u32 0, .int .u32 0, .int .u32 0, .int .u32 0, .int .u32 0, .int .u32 0, .int .u32 0, .int .u32 0, .int .u32 0, .int .u32 0, .int .u32 0, .int .u32 0, .int .u32 0, .int .u32 0, .int .u32 0, .int .u32 0, .int .u32 0, .int .u32 0, .int .u32 0, .int .u32 0, .int .u32 0, .int .u32 0, .int .u32 0, .int .u32 0, .int .u32 0, .int .u32 0, .int .u32 0, .int .u32 0, .int .u32 0, .int .u32 0, .int .u32 0, .int .u32 0, .int .u32 0, .int .u32 0, .int .u32 0, .int .u32 0] 160) = W := ⟨_, rfl⟩
 have cK : Hid (Below w.heap.size w W) := aa (by rw [← hW]; exact aB (Below.refl _ _))
 have HB0 : Hid (bf .u32 160 W (w.heap.size + 1) (wz (bO blk 0))) := aa (by
  rw [← hW, GH]
  exact heap_alloc2_new _ _ _)
 have jT : Hid (bf .u32 160 W w.heap.size (aR 64)) := aa (by
  rw [← hW, GH]
  exact heap_alloc2_old _ _ _)
 have rJ : Hid (W.heap.size = w.heap.size + 2) := aa (by rw [← hW]; simp)
 have HS := aa hs.out
 have HW := aa hW
 clear hW hs
 go_in
 go_wp2
 rw [HW.out]
 go_loopw [12] (fun i wr => ∃ k : Nat, k ≤ 16 ∧ i = .int .i64 k ∧ Hid (bf .u32 160 wr (w.heap.size + 1) (wz (bO blk k))) ∧ Hid (Below (w.heap.size + 1) W wr)) (fun i _ => 16 - (intOf i).toNat)
 case atStart => exact ⟨0, by omega, rfl, HB0, aa (Below.refl _ _)⟩
 case round =>
  obtain ⟨k, hk, rfl, HB, aG⟩ := hrel
  by_cases hlt : k < 16
  ·
   clear HW
   have MK : Hid (bf .u32 160 wr (w.heap.size + 1) ((wz (bO blk k)).set k (part blk k 0))) := aa (by
    rw [set_self (by have := Kq (l := bO blk k); rwa [dM] at this)]
    exact HB.out)
   go_wp2
   go_loopw [23] (fun j u => ∃ m : Nat, m ≤ 4 ∧ j = .int .i64 m ∧ Hid (bf .u32 160 u (w.heap.size + 1) ((wz (bO blk k)).set k (part blk k m))) ∧ Hid (Below (w.heap.size + 1) W u)) (fun j _ => 4 - (intOf j).toNat)
   case atStart => exact ⟨0, by omega, rfl, MK, aG⟩
   case round =>
    obtain ⟨m, hm, rfl, p_, mq⟩ := hrel
    by_cases hlm : m < 4
    ·
     have hc0 := p_.out.cell (j := k) (by rw [List.length_set, wT (by rw [dM]; omega)]; omega)
     rw [ve (by rw [wT (by rw [dM]; omega)]; omega)] at hc0
     have hf0 := p_.out.free k
     have hc1 := (HS.out.below (cK.out.trans (mq.out.mono (Nat.le_succ _)))).cell (j := 4 * k + m) (by have := hlen.out; omega)
     obtain ⟨c0, c1⟩ := eO hby.out (4 * k + m)
     have hpn : part blk k (m + 1) = part blk k m * 256 + blk.getD (4 * k + m) 0 := rfl
     have p0 := E9 hby.out k m
     have p1 := E_ hby.out k m (by omega)
     obtain ⟨c, hcc⟩ : ∃ c, blk.getD (4 * k + m) 0 = c := ⟨_, rfl⟩
     rw [hcc] at hc1 c0 c1 hpn
     rw [← Nat.add_assoc] at hc1
     obtain ⟨p, hp⟩ : ∃ p, part blk k m = p := ⟨_, rfl⟩
     rw [hp] at hc0 p0 p1 hpn
     have hor := Fb p0 p1 c0 c1
     obtain ⟨q, hq⟩ : ∃ q, p * 256 + c = q := ⟨_, rfl⟩
     rw [hq] at hor hpn
     have HB2 : Hid (bf .u32 160 (wr.setCell ⟨w.heap.size + 1, k, none⟩ (.int .u32 q)) (w.heap.size + 1) ((wz (bO blk k)).set k (part blk k (m + 1)))) := aa (by
      rw [hpn]
      have h := p_.out.set (j := k) (v := q)
      rwa [List.set_set] at h)
     have y7 : Hid (Below (w.heap.size + 1) W (wr.setCell ⟨w.heap.size + 1, k, none⟩ (.int .u32 q))) := aa (mq.out.setCell (Nat.le_refl _) _)
     clear hcc hp hq hpn p_ mq
     go_wp2
     go_roundw
     case rel => exact ⟨m + 1, by omega, by go_num, HB2, y7⟩
     case measure => simp [intOf]; omega
    ·
     obtain rfl : m = 4 := by omega
     have HB2 : Hid (bf .u32 160 wr (w.heap.size + 1) (wz (bO blk (k + 1)))) := aa (by
      have h := p_.out
      have e := BB (l := bO blk k) (x := tY blk k) (by rw [dM]; omega)
      rw [dM] at e
      rw [Kz, e, ← tZ] at h
      exact h)
     clear p_
     go_wp2
     go_roundw
     case rel => exact ⟨k + 1, by omega, by go_num, HB2, mq⟩
     case measure => simp [intOf]; omega
  ·
   obtain rfl : k = 16 := by omega
   clear HW hlt
   have Qn : Hid (bf .u32 160 wr (w.heap.size + 1) (wz (kX (16 - 16) (bO blk 16)))) := aa (by rw [show 16 - 16 = 0 from rfl, kX]; exact HB.out)
   clear HB
   go_wp2
   rw [show (((16 : Nat) : Int)) = 16 from rfl]
   go_loopw [7] (fun i u => ∃ t : Nat, 16 ≤ t ∧ t ≤ 64 ∧ i = .int .i64 t ∧ Hid (bf .u32 160 u (w.heap.size + 1) (wz (kX (t - 16) (bO blk 16)))) ∧ Hid (Below (w.heap.size + 1) W u)) (fun i _ => 64 - (intOf i).toNat)
   case atStart => exact ⟨16, by omega, by omega, rfl, Qn, aG⟩
   case round =>
    obtain ⟨t, ht0, ht, rfl, Eh, mq⟩ := hrel
    by_cases hlt : t < 64
    ·
     obtain ⟨L, hL⟩ : ∃ L, kX (t - 16) (bO blk 16) = L := ⟨_, rfl⟩
     have hLn : L.length = t := by rw [← hL, t_, dM]; omega
     have hwz : (wz L).length = 64 := wT (by omega)
     rw [hL] at Eh
     have OU := Eh.out.cell (j := t - 15) (by omega)
     have h2 := Eh.out.cell (j := t - 2) (by omega)
     have h16 := Eh.out.cell (j := t - 16) (by omega)
     have h7 := Eh.out.cell (j := t - 7) (by omega)
     have ht0' := Eh.out.cell (j := t) (by omega)
     have hfr := Eh.out.free t
     rw [Ho (by omega)] at OU h2 h16 h7
     have hnx : kX (t + 1 - 16) (bO blk 16) = L ++ [add32 (add32 (add32 (L.getD (t - 16) 0) (M3 (L.getD (t - 15) 0))) (L.getD (t - 7) 0)) (M0 (L.getD (t - 2) 0))] := by
      rw [show t + 1 - 16 = (t - 16) + 1 by omega, kX, hL, Gj, hLn]
     obtain ⟨JU, e15⟩ : ∃ x, L.getD (t - 15) 0 = x := ⟨_, rfl⟩
     obtain ⟨x2, e2⟩ : ∃ x, L.getD (t - 2) 0 = x := ⟨_, rfl⟩
     obtain ⟨Qr, e16⟩ : ∃ x, L.getD (t - 16) 0 = x := ⟨_, rfl⟩
     obtain ⟨x7, e7⟩ : ∃ x, L.getD (t - 7) 0 = x := ⟨_, rfl⟩
     rw [e15] at OU hnx
     rw [e2] at h2 hnx
     rw [e16] at h16 hnx
     rw [e7] at h7 hnx
     have D_ := aa hnx
     have wI := aa hLn
     have i15 : ((t : Int) - 15).toNat = t - 15 := by omega
     have i2 : ((t : Int) - 2).toNat = t - 2 := by omega
     have i16 : ((t : Int) - 16).toNat = t - 16 := by omega
     have i7 : ((t : Int) - 7).toNat = t - 7 := by omega
     have VA : (0 : Int) ≤ (t : Int) - 15 := by omega
     have j2 : (0 : Int) ≤ (t : Int) - 2 := by omega
     have Vz : (0 : Int) ≤ (t : Int) - 16 := by omega
     have j7 : (0 : Int) ≤ (t : Int) - 7 := by omega
     clear hnx e15 e2 e16 e7 hL hLn hwz
     go_wp2
     go_quiet (fail)
     have y7 := aa (ax mq.out nq)
     have MJ := aa (Eh.out.drew nq)
     obtain ⟨w2, hw2⟩ : ∃ u, wr.drewN nq = u := ⟨_, rfl⟩
     rw [hw2] at y7 MJ
     have HW2 := aa hw2
     have g16 : w2.cell? ⟨w.heap.size + 1, t - 16, none⟩ = some (.int .u32 Qr) := by rw [← hw2]; simpa using h16
     have g7 : w2.cell? ⟨w.heap.size + 1, t - 7, none⟩ = some (.int .u32 x7) := by rw [← hw2]; simpa using h7
     have gt : w2.cell? ⟨w.heap.size + 1, t, none⟩ = some (.int .u32 ((wz L).getD t 0)) := by rw [← hw2]; simpa using ht0'
     have gf : w2.frozen? ⟨w.heap.size + 1, t, none⟩ = false := by rw [← hw2]; simpa using hfr
     clear hw2 OU h2 h16 h7 ht0' hfr mq Eh
     go_wp2_with fail
     rw [HW2.out]
     refine (fB JU 7 7 rfl (by decide) (by decide) _).mono ?_
     rintro e w' ⟨rfl, rfl⟩
     go_wp2_with fail
     refine (fB JU 18 18 rfl (by decide) (by decide) _).mono ?_
     rintro e w' ⟨rfl, rfl⟩
     go_wp2_with fail
     refine (fB x2 17 17 rfl (by decide) (by decide) _).mono ?_
     rintro e w' ⟨rfl, rfl⟩
     go_wp2_with fail
     refine (fB x2 19 19 rfl (by decide) (by decide) _).mono ?_
     rintro e w' ⟨rfl, rfl⟩
     obtain ⟨r7, Oc⟩ : ∃ r, fH JU 7 = r := ⟨_, rfl⟩
     obtain ⟨SS, Iq⟩ : ∃ r, fH JU 18 = r := ⟨_, rfl⟩
     obtain ⟨SV, Ir⟩ : ∃ r, fH x2 17 = r := ⟨_, rfl⟩
     obtain ⟨SQ, Ip⟩ : ∃ r, fH x2 19 = r := ⟨_, rfl⟩
     rw [Oc, Iq, Ir, Ip]
     obtain ⟨s0, hs0⟩ : ∃ r, bits .xor .u32 (bits .xor .u32 r7 SS) (JU / 8) = r := ⟨_, rfl⟩
     obtain ⟨s1, hs1⟩ : ∃ r, bits .xor .u32 (bits .xor .u32 SV SQ) (x2 / 1024) = r := ⟨_, rfl⟩
     have U_ : Hid (M3 JU = s0) := aa (by rw [M3, Oc, Iq, hs0])
     have U9 : Hid (M0 x2 = s1) := aa (by rw [M0, Ir, Ip, hs1])
     clear Oc Iq Ir Ip
     go_wp2
     clear hs0 hs1
     obtain ⟨V, hV⟩ : ∃ V, (Qr + s0 + x7 + s1) % 4294967296 = V := ⟨_, rfl⟩
     have HV := aa hV
     have HN : Hid (kX (t + 1 - 16) (bO blk 16) = L ++ [V]) := aa (by
      rw [D_.out, U_.out, U9.out, ← hV]
      simp only [add32, gV]
      congr 2
      omega)
     have HB3 : Hid (bf .u32 160 (w2.setCell ⟨w.heap.size + 1, t, none⟩ (.int .u32 V)).drew (w.heap.size + 1) (wz (kX (t + 1 - 16) (bO blk 16)))) := aa (by
      rw [HN.out]
      have h := MJ.out.set (j := t) (v := V)
      have e := BB (l := L) (x := V) (by have := wI.out; omega)
      rw [wI.out] at e
      rw [e] at h
      exact h)
     have Qj : Hid (Below (w.heap.size + 1) W (w2.setCell ⟨w.heap.size + 1, t, none⟩ (.int .u32 V)).drew) := aa (y7.out.setCell (Nat.le_refl _) _).drew
     clear hV
     go_region
     rw [HV.out]
     clear g16 g7 gt gf
     go_wp2
     go_roundw
     case rel => exact ⟨t + 1, by omega, by omega, by go_num, HB3, Qj⟩
     case measure => simp [intOf]; omega
    ·
     have JL : Hid (bf .u32 160 wr (w.heap.size + 1) (bg blk)) := aa (by
      have h := Eh.out
      rwa [show t - 16 = 48 by omega, BC] at h)
     have L9 : Hid (bf .u32 160 wr w.heap.size (aR 64)) := aa (jT.out.keepB (Nat.lt_succ_self _) mq.out)
     have fO : Hid (Below w.heap.size w (wr.setRow w.heap.size (arr .u32 (bg blk)))) := aa (ah (cK.out.trans (mq.out.mono (Nat.le_succ _))) (Nat.le_refl _))
     have HRR : Hid (bf .u32 160 (wr.setRow w.heap.size (arr .u32 (bg blk))) w.heap.size (bg blk)) := aa (L9.out.setRow)
     clear Eh
     go_wp2_with (first
      | ((with_reducible show wpList _ _ _ (⟨some 81, _, _, _, _, _⟩ :: _) _ _); refine wpList_load_row rfl 160 _ rfl (w.heap.size + 1) rfl _ _ _ _ JL.out Tryz.underlying160 rfl (iE blk) ?_)
      | ((with_reducible show wpList _ _ _ (⟨none, _, _, _, _, _⟩ :: _) _ _); refine wpList_store_row rfl 160 _ _ rfl w.heap.size (arr .u32 (bg blk)) rfl rfl _ _ L9.out (iE blk) (uy blk) (bF _) ?_))
     exact bodyPost_ret (v := .agg (arr .u32 (bg blk))) (results_cell_row (p := 2) (ty := 160) rfl _ _ w.heap.size _ _ _ _ rfl HRR.out Tryz.underlying160 rfl (iE blk)) rfl ⟨rfl, fO.out⟩
def bu (w : World) : Prop := (∀ k, k < 64 → w.cell? ⟨5, k, none⟩ = some (.int .u32 (KL.getD k 0))) ∧ (∀ k, k < 8 → w.cell? ⟨4, k, none⟩ = some (.int .u32 (st0.list.getD k 0)))
theorem bu.below {w w' : World} (h : bu w) (hb : Below w.heap.size w w') : bu w' := ⟨fun k hk => cell_below (h.1 k hk) hb, fun k hk => cell_below (h.2 k hk) hb⟩
def mh (s v : List Int) (k : Nat) : List Int := (List.range 8).map fun j => if j < k then add32 (s.getD j 0) (v.getD j 0) else s.getD j 0
theorem mg (s v : List Int) (k : Nat) : (mh s v k).length = 8 := by simp [mh]
theorem DK {s v : List Int} {k : Nat} (h : k < 8) : (mh s v k).getD k 0 = s.getD k 0 := by
 simp [mh, List.getD_eq_getElem?_getD, h]
theorem DJ {s v : List Int} {k : Nat} (h : k < 8) : (mh s v k).set k (add32 (s.getD k 0) (v.getD k 0)) = mh s v (k + 1) := by
 apply List.ext_getElem?
 intro i
 by_cases hi : i < 8
 ·
  by_cases e : k = i
  · subst e; simp [mh, List.getElem?_set, h]
  ·
   have e2 : (i < k + 1) ↔ (i < k) := by omega
   simp [mh, List.getElem?_set, hi, e, e2]
 · rw [List.getElem?_eq_none (by rw [List.length_set, mg]; omega), List.getElem?_eq_none (by rw [mg]; omega)]
theorem Bj {s v : List Int} (h : s.length = 8) : mh s v 0 = s := by
 apply List.ext_getElem?
 intro i
 by_cases hi : i < 8
 · simp [mh, hi, h]
 · rw [List.getElem?_eq_none (by rw [mg]; omega), List.getElem?_eq_none (by omega)]
theorem DL (s v : St) : mh s.list v.list 8 = (Jk s v).list := rfl
theorem FZ (xa xb xc xd xe xf xg xh : Int) : (#[.int .u32 xa, .int .u32 xb, .int .u32 xc, .int .u32 xd, .int .u32 xe, .int .u32 xf, .int .u32 xg, .int .u32 xh] : Array Value) = arr .u32 (St.mk xa xb xc xd xe xf xg xh).list := rfl
theorem Ko : (#[.int .u32 0, .int .u32 0, .int .u32 0, .int .u32 0, .int .u32 0, .int .u32 0, .int .u32 0, .int .u32 0] : Array Value) = arr .u32 (aR 8) := rfl
theorem KH : (Tryz.prog.info? 156).map (·.size) = some 8 := by kernel_rfl
theorem eG (s : St) : (Tryz.prog.info? 156).map (·.size) = some (arr .u32 s.list).size := KH
theorem KI (xa xb xc xd xe xf xg xh : Int) : ∀ k : Nat, k < 8 → ∀ w, (Instr.index 156 (.agg #[.int .u32 xa, .int .u32 xb, .int .u32 xc, .int .u32 xd, .int .u32 xe, .int .u32 xf, .int .u32 xg, .int .u32 xh]) (.int .i64 (k : Int))).run Tryz.prog w = .ok (.int .u32 ((St.mk xa xb xc xd xe xf xg xh).list.getD k 0)) w
 | 0, _ => fun w => by kernel_rfl
 | 1, _ => fun w => by kernel_rfl
 | 2, _ => fun w => by kernel_rfl
 | 3, _ => fun w => by kernel_rfl
 | 4, _ => fun w => by kernel_rfl
 | 5, _ => fun w => by kernel_rfl
 | 6, _ => fun w => by kernel_rfl
 | 7, _ => fun w => by kernel_rfl
 | k + 8, h => absurd h (by omega)
theorem Lv (e f g : Int) : bits .xor .u32 (bits .and .u32 e f) (bits .and .u32 (bits .xor .u32 (if IntKind.u32.signed = true then -1 else IntKind.u32.max) e) g) = Np e f g := rfl
theorem Hz (e : Int) : bits .xor .u32 (bits .xor .u32 (fH e 6) (fH e 11)) (fH e 25) = M4 e := rfl
def JV (e f g h k w : Int) : Int := ((h + M4 e + Np e f g + k) % 4294967296 + w) % 4294967296
theorem Ku (e f g h k w : Int) : ((h + M4 e + Np e f g + k) % 4294967296 + w) % 4294967296 = JV e f g h k w := rfl
def NT (a b c : Int) : Int := (Qx a + Qz a b c) % 4294967296
theorem H6 (a b c d e f g h k w : Int) : M5 ⟨a, b, c, d, e, f, g, h⟩ k w = ⟨(JV e f g h k w + NT a b c) % 4294967296, a, b, c, (d + JV e f g h k w) % 4294967296, e, f, g⟩ := by
 have hx : ES ⟨a, b, c, d, e, f, g, h⟩ k w = JV e f g h k w := by
  simp only [ES, JV, add32, gV]
  omega
 simp only [M5, hx, Ky, NT, add32, gV]
theorem EX {P : Program} {f : FuncId} {args : Array Value} {w : World} {n : Nat} {v : Value}
  (h : Calls P f args (w.drewN n) fun e w' => e = .returned v ∧ w.drewN n = w') : Calls P f args (w.drewN n) fun e w'' => e = .returned v ∧ ∃ m, w'' = w.drewN m :=
 h.mono fun _ _ ⟨he, hm⟩ => ⟨he, n, hm.symm⟩
theorem Fh (s : St) (b o cap : Nat) (blk : List Int) (hlen : Hid (blk.length = 64)) (hby : Hid (au blk = true)) (w : World) (hs : Hid (Sk .u8 w (some ⟨b, o, none⟩) blk)) (hcap : 64 ≤ cap) (hcm : cap ≤ 9223372036854775807) (hv : Hid (bu w)) :
  Calls Tryz.prog 119 #[.agg (arr .u32 s.list), .slice (some ⟨b, o, none⟩) 64 cap] w (Rt w (.agg (arr .u32 (xG s blk).list))) := by
 obtain ⟨xa, xb, xc, xd, xe, xf, xg, xh⟩ := s
 rw [← FZ]
 obtain ⟨W, hW⟩ : ∃ W, (w.alloc (.cells #[.int .u32 xa, .int .u32 xb, .int .u32 xc, .int .u32 xd, .int .u32 xe, .int .u32 xf, .int .u32 xg, .int .u32 xh] 156)).alloc (.cells #[.int .u32 0, .int .u32 0, .int .u32 0, .int .u32 0, .int .u32 0, .int .u32 0, .int .u32 0, .int .u32 0] 156) = W := ⟨_, rfl⟩
 have cK : Hid (Below w.heap.size w W) := aa (by rw [← hW]; exact aB (Below.refl _ _))
 have HB0 : Hid (bf .u32 156 W w.heap.size (St.mk xa xb xc xd xe xf xg xh).list) := aa (by
  rw [← hW, FZ]
  exact heap_alloc2_old _ _ _)
 have HZ0 : Hid (bf .u32 156 W (w.heap.size + 1) (aR 8)) := aa (by
  rw [← hW, Ko]
  exact heap_alloc2_new _ _ _)
 have HS := aa (hs.out.below cK.out)
 have HV := aa (hv.out.below cK.out)
 have HW := aa hW
 have rJ : Hid (w.heap.size + 2 = W.heap.size) := aa (by rw [← hW]; simp)
 clear hW hs hv
 go_in
 go_wp2_with fail
 rw [HW.out]
 refine (Al b o cap blk hlen hby _ HS hcap hcm).mono ?_
 rintro e w1 ⟨rfl, hb1⟩
 have HB1 := aa (HB0.out.below hb1)
 have HZ1 := aa (HZ0.out.below hb1)
 have jV := aa (HV.out.below hb1)
 have Ux : Hid (w.heap.size + 2 ≤ w1.heap.size) := aa (by have := hb1.size; have := rJ.out; omega)
 have Gd := aa (ag cK.out hb1)
 clear hb1 HW
 go_wp2_with ((with_reducible show wpList _ _ _ (⟨none, _, _, _, _, _⟩ :: _) _ _); refine wpList_store_row rfl 160 _ _ rfl w1.heap.size (arr .u32 (bg blk)) rfl rfl _ _ (heap_alloc_new _ _) (iE blk) (uy blk) (bF _) ?_)
 rw [World.setRow_alloc_new]
 have Bq := aa (ag Gd.out (af w1 (.cells (arr .u32 (bg blk)) 160)))
 have HB2 := aa (HB1.out.below (af w1 (.cells (arr .u32 (bg blk)) 160)))
 have HZ2 := aa (HZ1.out.below (af w1 (.cells (arr .u32 (bg blk)) 160)))
 have qd := aa (jV.out.below (af w1 (.cells (arr .u32 (bg blk)) 160)))
 have HW2 : Hid (bf .u32 160 (w1.alloc (.cells (arr .u32 (bg blk)) 160)) w1.heap.size (bg blk)) := aa (bf.new _ _)
 obtain ⟨W2, hW2⟩ : ∃ u, w1.alloc (.cells (arr .u32 (bg blk)) 160) = u := ⟨_, rfl⟩
 have Uw : Hid (w1.heap.size < W2.heap.size) := aa (by rw [← hW2]; simp)
 rw [hW2] at Bq HB2 HZ2 qd HW2 ⊢
 clear hW2 HB1 HZ1 jV Gd HB0 HZ0 HV HS
 obtain ⟨g0, g1, g2, g3, g4, g5, g6, g7⟩ : W2.cell? ⟨w.heap.size, 0, none⟩ = some (.int .u32 xa) ∧ W2.cell? ⟨w.heap.size, 1, none⟩ = some (.int .u32 xb) ∧ W2.cell? ⟨w.heap.size, 2, none⟩ = some (.int .u32 xc) ∧ W2.cell? ⟨w.heap.size, 3, none⟩ = some (.int .u32 xd) ∧ W2.cell? ⟨w.heap.size, 4, none⟩ = some (.int .u32 xe) ∧ W2.cell? ⟨w.heap.size, 5, none⟩ = some (.int .u32 xf) ∧ W2.cell? ⟨w.heap.size, 6, none⟩ = some (.int .u32 xg) ∧ W2.cell? ⟨w.heap.size, 7, none⟩ = some (.int .u32 xh) :=
  ⟨HB2.out.cell (j := 0) (show 0 < 8 by decide), HB2.out.cell (j := 1) (show 1 < 8 by decide), HB2.out.cell (j := 2) (show 2 < 8 by decide), HB2.out.cell (j := 3) (show 3 < 8 by decide), HB2.out.cell (j := 4) (show 4 < 8 by decide), HB2.out.cell (j := 5) (show 5 < 8 by decide), HB2.out.cell (j := 6) (show 6 < 8 by decide), HB2.out.cell (j := 7) (show 7 < 8 by decide)⟩
 obtain ⟨ws, hws⟩ : ∃ l, bg blk = l := ⟨_, rfl⟩
 have RG : Kp (bg blk = ws) := ⟨hws⟩
 have RH : Hid (ws.length = 64) := aa (by rw [← hws, iF])
 rw [hws] at HW2
 rw [hws]
 clear hws
 go_wp2
 go_quiet (fail)
 have Kj := aa (ax (Below.refl W2.heap.size W2) nq)
 clear g0 g1 g2 g3 g4 g5 g6 g7
 go_wp2
 go_loopw [6, 7, 8, 9, 10, 11, 12, 13, 37] (fun a b c d e f g h i u => ∃ (k : Nat) (ya yb yc yd ye yf yg yh : Int), k ≤ 64 ∧ i = .int .i64 k ∧ a = .int .u32 ya ∧ b = .int .u32 yb ∧ c = .int .u32 yc ∧ d = .int .u32 yd ∧ e = .int .u32 ye ∧ f = .int .u32 yf ∧ g = .int .u32 yg ∧ h = .int .u32 yh ∧ Hid (wY ws ⟨xa, xb, xc, xd, xe, xf, xg, xh⟩ k = ⟨ya, yb, yc, yd, ye, yf, yg, yh⟩) ∧ Hid (Below W2.heap.size W2 u)) (fun _ _ _ _ _ _ _ _ i _ => 64 - (intOf i).toNat)
 case atStart => exact ⟨0, xa, xb, xc, xd, xe, xf, xg, xh, by omega, rfl, rfl, rfl, rfl, rfl, rfl, rfl, rfl, rfl, aa rfl, Kj⟩
 case round =>
  obtain ⟨k, ya, yb, yc, yd, ye, yf, yg, yh, hk, rfl, rfl, rfl, rfl, rfl, rfl, rfl, rfl, rfl, HR, mq⟩ := hrel
  by_cases hlt : k < 64
  ·
   have hk0 := (qd.out.below mq.out).1 k hlt
   have hk1 := (HW2.out.below mq.out).cell (j := k) (by have := RH.out; omega)
   have hnx : wY ws ⟨xa, xb, xc, xd, xe, xf, xg, xh⟩ (k + 1) = M5 ⟨ya, yb, yc, yd, ye, yf, yg, yh⟩ (KL.getD k 0) (ws.getD k 0) := by rw [wY, HR.out]
   obtain ⟨kc, Ri⟩ : ∃ x, KL.getD k 0 = x := ⟨_, rfl⟩
   obtain ⟨wc, Rh⟩ : ∃ x, ws.getD k 0 = x := ⟨_, rfl⟩
   rw [Ri] at hk0 hnx
   rw [Rh] at hk1 hnx
   have D_ := aa hnx
   clear hnx Ri Rh
   go_wp2_with fail
   go_quiet ((go_at_call 127; exact EX (Ao _ _ (by decide) (by decide) _)))
   rw [Lv, Hz, Ku]
   obtain ⟨X, hX⟩ : ∃ X, JV ye yf yg yh kc wc = X := ⟨_, rfl⟩
   rw [hX]
   have HX := aa hX
   have y7 := aa (ax mq.out nq)
   obtain ⟨w3, hw3⟩ : ∃ u, wr.drewN nq = u := ⟨_, rfl⟩
   rw [hw3] at y7 ⊢
   clear hX hw3 hk0 hk1 mq
   go_wp2_with fail
   refine (fB ya 2 2 rfl (by decide) (by decide) _).mono ?_
   rintro e w' ⟨rfl, rfl⟩
   go_wp2_with fail
   refine (fB ya 13 13 rfl (by decide) (by decide) _).mono ?_
   rintro e w' ⟨rfl, rfl⟩
   go_wp2_with fail
   refine (fB ya 22 22 rfl (by decide) (by decide) _).mono ?_
   rintro e w' ⟨rfl, rfl⟩
   obtain ⟨r2, hr2⟩ : ∃ r, fH ya 2 = r := ⟨_, rfl⟩
   obtain ⟨SX, Iu⟩ : ∃ r, fH ya 13 = r := ⟨_, rfl⟩
   obtain ⟨SN, Io⟩ : ∃ r, fH ya 22 = r := ⟨_, rfl⟩
   rw [hr2, Iu, Io]
   obtain ⟨Y, hY⟩ : ∃ Y, NT ya yb yc = Y := ⟨_, rfl⟩
   have HY : Kp ((bits .xor .u32 (bits .xor .u32 r2 SX) SN + bits .xor .u32 (bits .xor .u32 (bits .and .u32 ya yb) (bits .and .u32 ya yc)) (bits .and .u32 yb yc)) % 4294967296 = Y) := ⟨by rw [← hY, ← hr2, ← Iu, ← Io]; rfl⟩
   have Ul := aa hY
   have HR2 : Hid (wY ws ⟨xa, xb, xc, xd, xe, xf, xg, xh⟩ (k + 1) = ⟨(X + Y) % 4294967296, ya, yb, yc, (yd + X) % 4294967296, ye, yf, yg⟩) := aa (by
    rw [D_.out, H6, HX.out, Ul.out])
   clear hr2 Iu Io hY D_
   go_wp2_with fail
   go_roundw
   case rel => exact ⟨k + 1, _, _, _, _, _, _, _, _, by omega, by go_num, rfl, rfl, rfl, rfl, rfl, rfl, rfl, rfl, by rw [HY.out]; exact HR2, y7⟩
   case measure => simp [intOf]; omega
  ·
   have RX : Kp (wY (bg blk) ⟨xa, xb, xc, xd, xe, xf, xg, xh⟩ 64 = ⟨ya, yb, yc, yd, ye, yf, yg, yh⟩) := ⟨by
    have h := HR.out
    rwa [show k = 64 by omega, ← RG.out] at h⟩
   have HB3 : Hid (bf .u32 156 wr w.heap.size (mh (St.mk xa xb xc xd xe xf xg xh).list (St.mk ya yb yc yd ye yf yg yh).list 0)) := aa (by
    rw [Bj rfl]
    exact HB2.out.below mq.out)
   have HZ3 := aa (HZ2.out.below mq.out)
   have Gc := aa (ag Bq.out mq.out)
   clear HR mq HB2 HZ2 Bq HW2 qd RH RG Kj
   go_wp2
   go_loopw [109] (fun i u => ∃ m : Nat, m ≤ 8 ∧ i = .int .i64 m ∧ Hid (bf .u32 156 u w.heap.size (mh (St.mk xa xb xc xd xe xf xg xh).list (St.mk ya yb yc yd ye yf yg yh).list m)) ∧ Hid (bf .u32 156 u (w.heap.size + 1) (aR 8)) ∧ Hid (Below w.heap.size w u)) (fun i _ => 8 - (intOf i).toNat)
   case atStart => exact ⟨0, by omega, rfl, HB3, HZ3, Gc⟩
   case round =>
    obtain ⟨m, hm, rfl, p_, Ns, mq⟩ := hrel
    by_cases hlm : m < 8
    ·
     have hi := KI ya yb yc yd ye yf yg yh m hlm
     have hc := p_.out.cell (j := m) (by rw [mg]; exact hlm)
     have hf := p_.out.free m
     rw [DK hlm] at hc
     obtain ⟨s0, e0⟩ : ∃ x, (St.mk xa xb xc xd xe xf xg xh).list.getD m 0 = x := ⟨_, rfl⟩
     obtain ⟨v0, e1⟩ : ∃ x, (St.mk ya yb yc yd ye yf yg yh).list.getD m 0 = x := ⟨_, rfl⟩
     have hst := DJ (s := (St.mk xa xb xc xd xe xf xg xh).list) (v := (St.mk ya yb yc yd ye yf yg yh).list) hlm
     rw [e0, e1, add32, gV] at hst
     rw [e0] at hc
     rw [e1] at hi
     have qg : Hid (bf .u32 156 (wr.setCell ⟨w.heap.size, m, none⟩ (.int .u32 ((s0 + v0) % 4294967296))) w.heap.size (mh (St.mk xa xb xc xd xe xf xg xh).list (St.mk ya yb yc yd ye yf yg yh).list (m + 1))) := aa (by
      rw [← hst]
      exact p_.out.set)
     have Uj : Hid (bf .u32 156 (wr.setCell ⟨w.heap.size, m, none⟩ (.int .u32 ((s0 + v0) % 4294967296))) (w.heap.size + 1) (aR 8)) := aa (Ns.out.set_ne (by omega))
     have mD : Hid (Below w.heap.size w (wr.setCell ⟨w.heap.size, m, none⟩ (.int .u32 ((s0 + v0) % 4294967296)))) := aa (mq.out.setCell (Nat.le_refl _) _)
     clear hst e0 e1 p_ Ns mq
     go_wp2
     go_roundw
     case rel => exact ⟨m + 1, by omega, by go_num, qg, Uj, mD⟩
     case measure => simp [intOf]; omega
    ·
     obtain ⟨T, hT⟩ : ∃ T, Jk ⟨xa, xb, xc, xd, xe, xf, xg, xh⟩ ⟨ya, yb, yc, yd, ye, yf, yg, yh⟩ = T := ⟨_, rfl⟩
     have JL : Hid (bf .u32 156 wr w.heap.size T.list) := aa (by
      have h := p_.out
      rwa [show m = 8 by omega, DL, hT] at h)
     have HT : Kp (xG ⟨xa, xb, xc, xd, xe, xf, xg, xh⟩ blk = T) := ⟨by rw [xG, RX.out, hT]⟩
     have HRR : Hid (bf .u32 156 (wr.setRow (w.heap.size + 1) (arr .u32 T.list)) (w.heap.size + 1) T.list) := aa Ns.out.setRow
     have fO : Hid (Below w.heap.size w (wr.setRow (w.heap.size + 1) (arr .u32 T.list))) := aa (ah mq.out (Nat.le_succ _))
     clear hT RX p_
     go_wp2_with (first
      | ((with_reducible show wpList _ _ _ (⟨some 120, _, _, _, _, _⟩ :: _) _ _); refine wpList_load_row rfl 156 _ rfl w.heap.size rfl _ _ _ _ JL.out Tryz.underlying156 rfl (eG T) ?_)
      | ((with_reducible show wpList _ _ _ (⟨none, _, _, _, _, _⟩ :: _) _ _); refine wpList_store_row rfl 156 _ _ rfl (w.heap.size + 1) (arr .u32 T.list) rfl rfl _ _ Ns.out (eG T) rfl (bF _) ?_))
     rw [HT.out]
     exact bodyPost_ret (v := .agg (arr .u32 T.list)) (results_cell_row (p := 4) (ty := 156) rfl _ _ (w.heap.size + 1) _ _ _ _ rfl HRR.out Tryz.underlying156 rfl (eG T)) rfl ⟨rfl, fO.out⟩
end Go.Proofs.YtgbfhcfhopadaaaGreatDoor
namespace Go.Proofs.YtgbfhcfhopadaaaGreatDoor
open Go.ChangeShapes Go.WideShapes Go.ChangeAt Go.RowKit ou
theorem Dh : Tryz.prog.globalNamed "specie/digest.constants" = some 5 := by kernel_rfl
theorem xR : (Tryz.prog.globals[5]?).map (·.type) = some 160 := by kernel_rfl
theorem Dg : Tryz.prog.globalNamed "specie/digest.start" = some 4 := by kernel_rfl
theorem xQ : (Tryz.prog.globals[4]?).map (·.type) = some 156 := by kernel_rfl
theorem yx : Tryz.prog.cellsOf 160 = 64 := by kernel_rfl
theorem yu : Tryz.prog.cellsOf 156 = 8 := by kernel_rfl
theorem vN : Tryz.prog.cellsOf 148 = 1 := by kernel_rfl
theorem qj {W : World} (h : laidMetH Tryz.prog [("math/bits.deBruijn64tab", Rows.laid_math_bits_deBruijn64tab), ("specie/prime.bases", Rows.laid_specie_prime_bases), ("specie/digest.constants", Rows.laid_specie_digest_constants), ("specie/digest.start", Rows.laid_specie_digest_start)] W) : Vars W ∧ bu W := by
 have h1 : laidMet Tryz.prog [("math/bits.deBruijn64tab", Rows.laid_math_bits_deBruijn64tab), ("specie/prime.bases", Rows.laid_specie_prime_bases), ("specie/digest.constants", Rows.laid_specie_digest_constants), ("specie/digest.start", Rows.laid_specie_digest_start)] W := h
 have t1 : Lib.TabIs Tryz.prog W "math/bits.deBruijn64tab" .u8 (Lib.deBruijn64tab.map Int.ofNat) := Lib.tabIs_of_head (rest := [("specie/prime.bases", Rows.laid_specie_prime_bases), ("specie/digest.constants", Rows.laid_specie_digest_constants), ("specie/digest.start", Rows.laid_specie_digest_start)]) Lr Df Tryz.underlying153 Tryz.underlying5 zQ Dv h1
 have t2 : Lib.TabIs Tryz.prog W "specie/prime.bases" .u64 [2, 3, 5, 7, 11, 13, 17, 19, 23, 29, 31, 37] := Lib.tabIs_of_head (rest := [("specie/digest.constants", Rows.laid_specie_digest_constants), ("specie/digest.start", Rows.laid_specie_digest_start)]) Di xS Tryz.underlying132 Tryz.underlying109 Du yz h1.tail
 have t3 : Lib.TabIs Tryz.prog W "specie/digest.constants" .u32 KL := Lib.tabIs_of_head (rest := [("specie/digest.start", Rows.laid_specie_digest_start)]) Dh xR Tryz.underlying160 Tryz.underlying148 vN yx h1.tail.tail
 have t4 : Lib.TabIs Tryz.prog W "specie/digest.start" .u32 st0.list := Lib.tabIs_of_head (rest := []) Dg xQ Tryz.underlying156 Tryz.underlying148 vN yu h1.tail.tail.tail
 refine ⟨⟨fun k hk => ?_, fun j hj => ?_⟩, fun k hk => ?_, fun k hk => ?_⟩
 · rw [t2.cell Di k hk]; rfl
 ·
  rw [t1.cell Lr j (by simpa using hj)]
  rw [List.getD_eq_getElem?_getD, List.getD_eq_getElem?_getD, List.getElem?_map]
  rw [List.getElem?_eq_getElem hj]
  rfl
 · rw [t3.cell Dh k hk]
 · rw [t4.cell Dg k hk]
def CS : Obj → Obj
 | .cells _ t frozen => .cells (KL.map fun n => Value.int .u32 n).toArray t frozen
 | o => o
def CR : Obj → Obj
 | .cells _ t frozen => .cells (st0.list.map fun n => Value.int .u32 n).toArray t frozen
 | o => o
noncomputable def kH (os : Os) : World :=
 { World.holding Tryz.prog os ⟨#[], #[], []⟩ with heap := ((((World.holding Tryz.prog os ⟨#[], #[], []⟩).heap.modify 0 CU).modify 3 Ie).modify 5 CS).modify 4 CR }
end Go.Proofs.YtgbfhcfhopadaaaGreatDoor
namespace Go.Proofs.YtgbfhcfhopadaaaGreatDoor
open Go.RowKit ou
def bH (Q x : Int) : Bool := decide (0 ≤ x) && decide (x < Q)
theorem nK {f : Int → Bool} {xs : List Int} : (xs.any fun x => !f x) = !(xs.all f) := by
 induction xs with
 | nil => rfl
 | cons x xs ih => rw [List.any_cons, List.all_cons, ih, Bool.not_and]
end Go.Proofs.YtgbfhcfhopadaaaGreatDoor
namespace Go.Proofs.YtgbfhcfhopadaaaGreatDoor
open Go
section
variable {P : Program} {ops : Array Oper} {Q : Exit → Act → World → Prop} {md : Region.Mode} {S : World → Prop} {E : List Nat}
def fG (P : Program) (md : Region.Mode) (ops : Array Oper) (Q : Exit → Act → World → Prop) (S : World → Prop) (E : List Nat) : Nat → Array Bool → Act → World → Prop
 | 0, listed, a, w => Region.ready md ops listed = [] ∧ Q .normal a w
 | fuel + 1, listed, a, w =>
  (Region.ready md ops listed = [] → Q .normal a w) ∧
  ∀ i ∈ Region.ready md ops listed, wpOp P ops Q i (fun a' w' => (i ∉ E → S w') ∧ fG P md ops Q S E fuel (listed.setIfInBounds i true) a' w') a w
theorem oD : ∀ (fuel : Nat) (listed : Array Bool) (a : Act) (w : World), fG P md ops Q S E fuel listed a w → wpAny P md ops Q fuel listed a w
 | 0, _, _, _, h => h
 | fuel + 1, _, _, _, h => ⟨h.1, fun i hi => wpOp_mono (fun a' w' h' => oD fuel _ a' w' h'.2) (h.2 i hi)⟩
def pM (md : Region.Mode) (ops : Array Oper) (i : Nat) : List Nat :=
 (List.range ops.size).foldl (fun C x => if ((ops[x]?).map (·.after.any fun e => Region.binds md e && (e.on == i || C.contains e.on))).getD false then x :: C else C) []
def j3 (md : Region.Mode) (ops : Array Oper) (listed : Array Bool) (i : Nat) (E : List Nat) : Bool :=
 (E.all fun s => (pM md ops i).contains s) && (pM md ops i).all fun x => !listed.getD x true && ((ops[x]?).map (·.after.any fun e => Region.binds md e && (e.on == i || (pM md ops i).contains e.on))).getD false
def Late (md : Region.Mode) (ops : Array Oper) (C : List Nat) (listed : Array Bool) (i : Nat) : Prop :=
 ∀ x ∈ C, listed.getD x true = false ∧ ∃ o, ops[x]? = some o ∧ ∃ e ∈ o.after, Region.binds md e = true ∧ (e.on = i ∨ e.on ∈ C)
theorem pF {listed : Array Bool} {i : Nat} (h : j3 md ops listed i E = true) : (∀ s ∈ E, s ∈ pM md ops i) ∧ Late md ops (pM md ops i) listed i := by
 unfold j3 at h
 rw [Bool.and_eq_true] at h
 refine ⟨fun s hs => by simpa using List.all_eq_true.1 h.1 s hs, fun x hx => ?_⟩
 have h2 := List.all_eq_true.1 h.2 x hx
 rw [Bool.and_eq_true] at h2
 refine ⟨by simpa using h2.1, ?_⟩
 have h3 := h2.2
 cases ho : ops[x]? with
 | none => rw [ho] at h3; simp at h3
 | some o =>
  rw [ho] at h3
  simp only [Option.map_some, Option.getD_some] at h3
  obtain ⟨e, he, hb⟩ := Array.any_eq_true'.1 h3
  simp only [Bool.and_eq_true, Bool.or_eq_true, beq_iff_eq] at hb
  exact ⟨o, rfl, e, he, hb.1, hb.2.imp id (by simp)⟩
theorem Late.not_ready {C : List Nat} {listed : Array Bool} {i j : Nat} (h : Late md ops C listed i) (hi : listed.getD i true = false) (hj : j ∈ Region.ready md ops listed) : j ∉ C := fun hc => by
 obtain ⟨_, o, ho, e, he, hb, h4⟩ := h j hc
 obtain ⟨_, o', ho', hall⟩ := mem_ready.1 hj
 rw [ho] at ho'
 cases ho'
 have h5 := hall e he hb
 have h6 : listed.getD e.on true = false := by
  rcases h4 with h4 | h4
  · rw [h4]; exact hi
  · exact (h _ h4).1
 rcases Nat.lt_or_ge e.on listed.size with h' | h'
 · simp [h'] at h5 h6; rw [h6] at h5; cases h5
 · simp [Array.getElem?_eq_none h'] at h5
theorem Late.step {C : List Nat} {listed : Array Bool} {i j : Nat} (h : Late md ops C listed i) (hj : j ∉ C) : Late md ops C (listed.setIfInBounds j true) i := fun x hx => by
 obtain ⟨h1, h2⟩ := h x hx
 have hne : j ≠ x := fun e => hj (by rw [e]; exact hx)
 exact ⟨by rw [getD_set_ne true hne]; exact h1, h2⟩
theorem Ac {i : Nat} {oi : Oper} {v : Value} {C : List Nat} (hs : ∀ s ∈ E, s ∈ C) (hi : ops[i]? = some oi) (hsel : ∀ (j : Nat) (o : Oper) cs b, ops[j]? = some o → o.op ≠ .select cs b)
  (hQ : ∀ c a w, Q (.panic c) (a.put oi.dst v) w → Q (.panic c) a w) :
  ∀ (fuel : Nat) (listed : Array Bool) (a : Act) (w : World),
   (∀ j oj, ops[j]? = some oj → j ≠ i → listed.getD j true = false → (∀ e ∈ oj.after, Region.binds md e = true → e.on ≠ i) → oi.apart ops oj = true) →
   Late md ops C listed i → i ∈ Region.ready md ops listed → YieldsIf P ops S oi v a → S w →
   fG P md ops Q S E fuel (listed.setIfInBounds i true) (a.put oi.dst v) w → fG P md ops Q S E (fuel + 1) listed a w := by
 intro fuel
 induction fuel with
 | zero =>
  intro listed a w _ _ hr hy hS H
  refine ⟨fun h => (by rw [h] at hr; cases hr), fun j hj => ?_⟩
  by_cases hji : j = i
  · subst hji; exact hy.wpOp hi hS ⟨fun _ => hS, H⟩
  ·
   have := ready_mono hj hji
   rw [H.1] at this
   cases this
 | succ fuel ih =>
  intro listed a w hfree Gw hr hy hS H
  refine ⟨fun h => (by rw [h] at hr; cases hr), fun j hj => ?_⟩
  by_cases hji : j = i
  · subst hji; exact hy.wpOp hi hS ⟨fun _ => hS, H⟩
  ·
   have h1 := H.2 j (ready_mono hj hji)
   have Ou := (mem_ready.1 hr).1
   have QV := Gw.not_ready Ou hj
   have hjs : j ∉ E := fun e => QV (hs j e)
   obtain ⟨hjun, oj, hoj, hall⟩ := mem_ready.1 hj
   have hnot : ∀ e ∈ oj.after, Region.binds md e = true → e.on ≠ i := fun e he hb heq => by
    have h1 := hall e he hb
    have h0 := (mem_ready.1 hr).1
    rw [heq] at h1
    rcases Nat.lt_or_ge i listed.size with h' | h'
    · simp [h'] at h0 h1; rw [h0] at h1; cases h1
    · simp [Array.getElem?_eq_none h'] at h1
   have h2 := wpOp_putIf hoj (hfree j oj hoj hji hjun hnot) (fun cs b => hsel i oi cs b hi) (fun cs b => hsel j oj cs b hoj) hQ hy h1
   have hfree' : ∀ k ok, ops[k]? = some ok → k ≠ i → (listed.setIfInBounds j true).getD k true = false →
     (∀ e ∈ ok.after, Region.binds md e = true → e.on ≠ i) → oi.apart ops ok = true := fun k ok hk hki hun hno => by
    refine hfree k ok hk hki ?_ hno
    by_cases hjk : j = k
    · subst hjk; exact hjun
    · rw [getD_set_ne true hjk] at hun; exact hun
   refine wpOp_mono (fun a' w' h3 => ⟨fun _ => h3.2.1 hjs, ih (listed.setIfInBounds j true) a' w' hfree' (Gw.step QV) (ready_mono hr (Ne.symm hji)) h3.1 (h3.2.1 hjs) ?_⟩) h2
   rw [Array.setIfInBounds_comm _ _ hji]
   exact h3.2.2
theorem fq {i : Nat} {oi : Oper} {v : Value} {fuel : Nat} {listed : Array Bool} {a : Act} {w : World} (hi : ops[i]? = some oi)
  (hs : Region.noSelect ops = true) (hf : Region.free md ops listed i = true) (hr : (Region.ready md ops listed).contains i = true) (hl : j3 md ops listed i E = true)
  (hQ : ∀ c a w, Q (.panic c) (a.put oi.dst v) w → Q (.panic c) a w) (hy : YieldsIf P ops S oi v a) (hS : S w)
  (h : fG P md ops Q S E fuel (listed.setIfInBounds i true) (a.put oi.dst v) w) : fG P md ops Q S E (fuel + 1) listed a w :=
 Ac (pF hl).1 hi (Region.noSelect_spec hs) hQ fuel listed a w (Region.free_spec hi hf) (pF hl).2 (by simpa using hr) hy hS h
theorem EF {i : Nat} {o : Oper} {fuel : Nat} {listed : Array Bool} {a : Act} {w : World} (hr : Region.ready md ops listed = [i]) (ho : ops[i]? = some o)
  (h : ∀ K' : Act → World → Prop, Shut (∀ a w, S w → (S w → fG P md ops Q S E fuel (listed.setIfInBounds i true) a w) → K' a w) → if Region.wanted o (yielded ops a.tmps) = true then Oper.wp P o a w K' Q else K' (a.put o.dst undef) w) :
  fG P md ops Q S E (fuel + 1) listed a w :=
 ⟨fun h0 => absurd (hr ▸ h0) (by simp), fun j hj => by
  rw [hr] at hj
  obtain rfl : j = i := by simpa using hj
  exact wpOp_step ho (fun K' hK => h K' (fun a w hS hW => hK a w ⟨fun _ => hS, hW hS⟩))⟩
theorem Vt {α : Type _} {xs : List α} {i : Nat} (h : i < xs.toArray.size) : xs.toArray[i] = xs[i]'(by simpa using h) := rfl
theorem Vs {α : Type _} (a : α) (l : List α) (h : 0 < (a :: l).length) : getElem (a :: l) 0 h = a := rfl
theorem Vr {α : Type _} (a : α) (l : List α) (i : Nat) (h : i + 1 < (a :: l).length) : getElem (a :: l) (i+1) h = getElem l i (Nat.lt_of_succ_lt_succ h) := rfl
theorem Vq {α : Type _} (l : List α) (i : Nat) (a : α) : l.toArray.setIfInBounds i a = (l.set i a).toArray := List.setIfInBounds_toArray l i a
theorem Vp {α : Type _} {x : α} {xs : List α} {a : α} : (x :: xs).set 0 a = a :: xs := rfl
theorem Vo {α : Type _} {x : α} {xs : List α} {i : Nat} {a : α} : (x :: xs).set (i + 1) a = x :: xs.set i a := rfl
theorem Vl (i : Nat) {oi : Oper} {v : Value} {fuel : Nat} {listed : Array Bool} {a : Act} {w : World} (h : fG P md ops Q S E fuel (listed.setIfInBounds i true) (a.put oi.dst v) w) (hi : ops[i]? = some oi := by rfl)
  (hs : Region.noSelect ops = true := by kernel_rfl) (hf : Region.free md ops listed i = true := by kernel_rfl) (hr : (Region.ready md ops listed).contains i = true := by kernel_rfl) (hl : j3 md ops listed i E = true := by kernel_rfl)
  (hQ : ∀ c a w, Q (.panic c) (a.put oi.dst v) w → Q (.panic c) a w := by exact fun _ _ _ h => h) (hw : Region.wanted oi (yielded ops a.tmps) = true := by rfl)
  (hy : ∀ w, S w → (execOp a.eval oi).run P w = .ok (.value v) w := by intro wS hSw; (try dsimp only at hSw); go_simp <;> with_reducible rfl) (hS : S w := by assumption) : fG P md ops Q S E (fuel + 1) listed a w :=
 fq hi hs hf hr hl hQ (Or.inl ⟨hw, hy⟩) hS h
theorem Vm (i : Nat) {oi : Oper} {fuel : Nat} {listed : Array Bool} {a : Act} {w : World} (h : fG P md ops Q S E fuel (listed.setIfInBounds i true) (a.put oi.dst undef) w) (hi : ops[i]? = some oi := by rfl)
  (hs : Region.noSelect ops = true := by kernel_rfl) (hf : Region.free md ops listed i = true := by kernel_rfl) (hr : (Region.ready md ops listed).contains i = true := by kernel_rfl) (hl : j3 md ops listed i E = true := by kernel_rfl)
  (hQ : ∀ c a w, Q (.panic c) (a.put oi.dst undef) w → Q (.panic c) a w := by exact fun _ _ _ h => h) (hw : Region.wanted oi (yielded ops a.tmps) = false := by rfl) (hS : S w := by assumption) : fG P md ops Q S E (fuel + 1) listed a w :=
 fq hi hs hf hr hl hQ (Or.inr ⟨hw, rfl⟩) hS h
theorem rU {i1 i2 : Nat} {o1 o2 : Oper} {fuel : Nat} {listed : Array Bool} {a : Act} {w : World} (hr : Region.ready md ops listed = [i1, i2]) (ho1 : ops[i1]? = some o1) (ho2 : ops[i2]? = some o2)
  (h1 : ∀ K' : Act → World → Prop, Shut (∀ a w, S w → (S w → fG P md ops Q S E fuel (listed.setIfInBounds i1 true) a w) → K' a w) → if Region.wanted o1 (yielded ops a.tmps) = true then Oper.wp P o1 a w K' Q else K' (a.put o1.dst undef) w)
  (h2 : ∀ K' : Act → World → Prop, Shut (∀ a w, S w → (S w → fG P md ops Q S E fuel (listed.setIfInBounds i2 true) a w) → K' a w) → if Region.wanted o2 (yielded ops a.tmps) = true then Oper.wp P o2 a w K' Q else K' (a.put o2.dst undef) w) :
  fG P md ops Q S E (fuel + 1) listed a w :=
 ⟨fun h0 => absurd (hr ▸ h0) (by simp), fun j hj => by
  rw [hr] at hj
  rcases (by simpa using hj : j = i1 ∨ j = i2) with rfl | rfl
  · exact wpOp_step ho1 (fun K' hK => h1 K' (fun a w hS hW => hK a w ⟨fun _ => hS, hW hS⟩))
  · exact wpOp_step ho2 (fun K' hK => h2 K' (fun a w hS hW => hK a w ⟨fun _ => hS, hW hS⟩))⟩
theorem BF {i : Nat} {o : Oper} {fuel : Nat} {listed : Array Bool} {a : Act} {w : World} (hr : Region.ready md ops listed = [i]) (hE : i ∈ E) (ho : ops[i]? = some o)
  (h : ∀ K' : Act → World → Prop, Shut (∀ a w, fG P md ops Q S E fuel (listed.setIfInBounds i true) a w → K' a w) → if Region.wanted o (yielded ops a.tmps) = true then Oper.wp P o a w K' Q else K' (a.put o.dst undef) w) :
  fG P md ops Q S E (fuel + 1) listed a w :=
 ⟨fun h0 => absurd (hr ▸ h0) (by simp), fun j hj => by
  rw [hr] at hj
  obtain rfl : j = i := by simpa using hj
  exact wpOp_step ho (fun K' hK => h K' (fun a w hW => hK a w ⟨fun h => absurd hE h, hW⟩))⟩
theorem BG {listed : Array Bool} {a : Act} {w : World} (hr : Region.ready md ops listed = []) (h : Q .normal a w) : ∀ fuel, fG P md ops Q S E fuel listed a w
 | 0 => ⟨hr, h⟩
 | _ + 1 => ⟨fun _ => h, by rw [hr]; simp⟩
theorem bq {id : Nat} {a : Act} {w : World} (hm : P.follows .mixedOrders = true) (hS : S w.drew)
  (h : S w.drew → fG P .any ops Q S E ops.size (Array.replicate ops.size false) a w.drew) : (Code.region id ops true).wp P Q a w :=
 wp_region_any hm (oD _ _ _ _ (h hS))
end
end Go.Proofs.YtgbfhcfhopadaaaGreatDoor
namespace Go.Proofs.YtgbfhcfhopadaaaGreatDoor
open Go.RowKit ou
theorem LB {b c u : World} (h : Hid (Below b.heap.size b c)) (h2 : Hid (Below c.heap.size c u)) : Hid (Below b.heap.size b u) := aa (ag h.out h2.out)
theorem vT {b c u : World} (h : Hid (Below b.heap.size b c)) (h2 : Below c.heap.size c u) : Hid (Below b.heap.size b u) := aa (ag h.out h2)
theorem bb2 {a b u u2 : World} (h : Hid (Below a.heap.size a u ∧ Below b.heap.size b u)) (q : Below u.heap.size u u2) : Hid (Below a.heap.size a u2 ∧ Below b.heap.size b u2) := aa ⟨ag h.out.1 q, ag h.out.2 q⟩
theorem bb3 {a b c u u2 : World} (h : Hid (Below a.heap.size a u ∧ Below b.heap.size b u ∧ Below c.heap.size c u)) (q : Below u.heap.size u u2) : Hid (Below a.heap.size a u2 ∧ Below b.heap.size b u2 ∧ Below c.heap.size c u2) := aa ⟨ag h.out.1 q, ag h.out.2.1 q, ag h.out.2.2 q⟩
theorem V3 {a b c d u u2 : World} (h : Hid (Below a.heap.size a u ∧ Below b.heap.size b u ∧ Below c.heap.size c u ∧ Below d.heap.size d u)) (q : Below u.heap.size u u2) : Hid (Below a.heap.size a u2 ∧ Below b.heap.size b u2 ∧ Below c.heap.size c u2 ∧ Below d.heap.size d u2) := aa ⟨ag h.out.1 q, ag h.out.2.1 q, ag h.out.2.2.1 q, ag h.out.2.2.2 q⟩
theorem Ud {P : Program} {f : Nat} {args : Array Value} {b w : World} {E0 : Ending} {Q : Ending → World → Prop} (hB : Hid (Below b.heap.size b w)) (h : Calls P f args w fun e w' => e = E0 ∧ Below w.heap.size w w') (k : ∀ w', Hid (Below b.heap.size b w') → Q E0 w') : Calls P f args w Q :=
 h.mono (fun e w' he => by obtain ⟨rfl, hb⟩ := he; exact k w' (vT hB hb))
theorem iB {P : Program} {f : Nat} {args : Array Value} {b w : World} {E0 : Ending} {Q : Ending → World → Prop} {C : World → Prop} (kC : Hid (∀ u, Hid (Below b.heap.size b u) → C u)) (hB : Hid (Below b.heap.size b w)) (h : Calls P f args w fun e w' => e = E0 ∧ Below w.heap.size w w') (k : ∀ w', Hid (Below b.heap.size b w') → C w' → Q E0 w') : Calls P f args w Q :=
 Ud hB h (fun w' h' => k w' h' (kC.out _ h'))
theorem jQ (b : World) : Hid (Below b.heap.size b b) := aa (Below.refl _ _)
theorem M6 {w w0 : World} (φ : World → Prop) (hb : Hid (Below w.heap.size w w0)) (h : Hid (φ w)) (st : ∀ {u}, φ w → Below w.heap.size w u → φ u) : Hid (∀ u : World, Hid (Below w0.heap.size w0 u) → Hid (φ u)) :=
 aa (fun u hu => aa (st h.out (ag hb.out hu.out)))
theorem mkS {w w0 : World} {A : Option Addr} {xs : List Int} (hb : Hid (Below w.heap.size w w0)) (h : Hid (Sl w A xs)) : Hid (∀ u : World, Hid (Below w0.heap.size w0 u) → Hid (Sl u A xs)) := M6 (fun u => Sl u A xs) hb h (·.below)
theorem mkV {w w0 : World} (hb : Hid (Below w.heap.size w w0)) (h : Hid (Vars w)) : Hid (∀ u : World, Hid (Below w0.heap.size w0 u) → Hid (Vars u)) := M6 (fun u => Vars u) hb h (·.below)
theorem NV {w w0 : World} (hb : Hid (Below w.heap.size w w0)) (h : Hid (bu w)) : Hid (∀ u : World, Hid (Below w0.heap.size w0 u) → Hid (bu u)) := M6 (fun u => bu u) hb h (·.below)
theorem gT {w w0 u : World} (h : Hid (Below w.heap.size w w0)) (h2 : Hid (Below w0.heap.size w0 u)) : Below w.heap.size w u := ag h.out h2.out
def BO (u : World) (b : Nat) (o : Obj) : Prop := ∃ c T, o = .cells c T ∧ ∀ (j : Nat) v, c[j]? = some v → Own u ⟨b, j, none⟩ v
theorem BO.new (w : World) (c : Array Value) (T : TypeId) : BO (w.alloc (.cells c T)) w.heap.size (.cells c T) := ⟨c, T, rfl, fun _ _ h => yM rfl h⟩
theorem BO.below {u u2 : World} {b : Nat} {o : Obj} (h : BO u b o) (hb : Below u.heap.size u u2) : BO u2 b o := by
 obtain ⟨c, T, e, h⟩ := h
 exact ⟨c, T, e, fun j v hj => (h j v hj).below hb⟩
theorem BO.get {u : World} {b : Nat} {c : Array Value} {T : TypeId} (h : BO u b (.cells c T)) (j : Nat) {v : Value} (hj : c[j]? = some v) : Own u ⟨b, j, none⟩ v := by
 obtain ⟨c', T', e, h⟩ := h
 cases e
 exact h j v hj
theorem Rn {a0 a1 : Value} {r : List Value} {T : TypeId} (u : World) (b : Nat) (h : BO u b (.cells (a0 :: a1 :: r).toArray T)) : u.cell? ⟨b, 0, none⟩ = some a0 ∧ u.cell? ⟨b, 1, none⟩ = some a1 := ⟨(h.get 0 (by simp)).1, (h.get 1 (by simp)).1⟩
theorem Bg {a0 a1 a2 : Value} {r : List Value} {T : TypeId} (u : World) (b : Nat) (h : BO u b (.cells (a0 :: a1 :: a2 :: r).toArray T)) : u.cell? ⟨b, 0, none⟩ = some a0 ∧ u.cell? ⟨b, 1, none⟩ = some a1 ∧ u.cell? ⟨b, 2, none⟩ = some a2 := ⟨(h.get 0 (by simp)).1, (h.get 1 (by simp)).1, (h.get 2 (by simp)).1⟩
theorem DD {a0 a1 a2 a3 a4 a5 : Value} {r : List Value} {T : TypeId} (u : World) (b : Nat) (h : BO u b (.cells (a0 :: a1 :: a2 :: a3 :: a4 :: a5 :: r).toArray T)) : u.cell? ⟨b, 0, none⟩ = some a0 ∧ u.cell? ⟨b, 1, none⟩ = some a1 ∧ u.cell? ⟨b, 2, none⟩ = some a2 ∧ u.cell? ⟨b, 3, none⟩ = some a3 ∧ u.cell? ⟨b, 4, none⟩ = some a4 ∧ u.cell? ⟨b, 5, none⟩ = some a5 := ⟨(h.get 0 (by simp)).1, (h.get 1 (by simp)).1, (h.get 2 (by simp)).1, (h.get 3 (by simp)).1, (h.get 4 (by simp)).1, (h.get 5 (by simp)).1⟩
theorem Jh {a0 a1 a2 : Value} {r : List Value} {T : TypeId} (u : World) (b : Nat) (R : Prop) (h : BO u b (.cells (a0 :: a1 :: a2 :: r).toArray T)) (g : R) : u.cell? ⟨b, 0, none⟩ = some a0 ∧ u.cell? ⟨b, 1, none⟩ = some a1 ∧ u.cell? ⟨b, 2, none⟩ = some a2 ∧ R := ⟨(h.get 0 (by simp)).1, (h.get 1 (by simp)).1, (h.get 2 (by simp)).1, g⟩
theorem Ro {a0 a1 a2 a3 a4 a5 : Value} {r : List Value} {T : TypeId} (u : World) (b : Nat) (R : Prop) (h : BO u b (.cells (a0 :: a1 :: a2 :: a3 :: a4 :: a5 :: r).toArray T)) (g : R) : u.cell? ⟨b, 0, none⟩ = some a0 ∧ u.cell? ⟨b, 1, none⟩ = some a1 ∧ u.cell? ⟨b, 2, none⟩ = some a2 ∧ u.cell? ⟨b, 3, none⟩ = some a3 ∧ u.cell? ⟨b, 4, none⟩ = some a4 ∧ u.cell? ⟨b, 5, none⟩ = some a5 ∧ R := ⟨(h.get 0 (by simp)).1, (h.get 1 (by simp)).1, (h.get 2 (by simp)).1, (h.get 3 (by simp)).1, (h.get 4 (by simp)).1, (h.get 5 (by simp)).1, g⟩
theorem st1 {c0 : Array Value} {T0 : TypeId} {C0 : World → Nat → Prop} (o0 : Obj) (h0 : ∀ u b, BO u b (.cells c0 T0) → C0 u b) (w : World) (q0 : o0 = .cells c0 T0 := by rfl) : ∃ w0, Hid ((w.alloc o0) = w0) ∧ Hid (Below w.heap.size w w0) ∧ Hid (∀ u : World, Hid (Below w0.heap.size w0 u) → C0 u (w.heap.size)) := by
 subst q0
 have p0 : BO ((w.alloc (.cells c0 T0))) (w.heap.size) (.cells c0 T0) := BO.new w c0 T0
 exact ⟨_, aa rfl, aa (af _ _), aa (fun u h => h0 _ _ (p0.below h.out))⟩
theorem st2 {c0 c1 : Array Value} {T0 T1 : TypeId} {C0 : World → Nat → Prop → Prop} {C1 : World → Nat → Prop} (o0 : Obj) (h0 : ∀ u b R, BO u b (.cells c0 T0) → R → C0 u b R) (o1 : Obj) (h1 : ∀ u b, BO u b (.cells c1 T1) → C1 u b) (w : World) (q0 : o0 = .cells c0 T0 := by rfl) (q1 : o1 = .cells c1 T1 := by rfl) : ∃ w0, Hid (((w.alloc o0).alloc o1) = w0) ∧ Hid (Below w.heap.size w w0) ∧ Hid (∀ u : World, Hid (Below w0.heap.size w0 u) → C0 u (w.heap.size) (C1 u (w.heap.size + 1))) := by
 subst q0 q1
 have p0 : BO (((w.alloc (.cells c0 T0)).alloc (.cells c1 T1))) (w.heap.size) (.cells c0 T0) := BO.below (BO.new w c0 T0) (af _ _)
 have p1 : BO (((w.alloc (.cells c0 T0)).alloc (.cells c1 T1))) (w.heap.size + 1) (.cells c1 T1) := (show (w.alloc (.cells c0 T0)).heap.size = w.heap.size + 1 by simp) ▸ BO.new (w.alloc (.cells c0 T0)) c1 T1
 exact ⟨_, aa rfl, aa (ag (af _ _) (af _ _)), aa (fun u h => h0 _ _ _ (p0.below h.out) (h1 _ _ (p1.below h.out)))⟩
theorem qq : (∀ {α : Type} (xs : List α) (i : Nat) (h : i < xs.toArray.size), xs.toArray[i] = xs[i]'(by simpa using h)) ∧ (∀ {α : Type} (a : α) (l : List α) (h : 0 < (a :: l).length), getElem (a :: l) 0 h = a) ∧
  (∀ {α : Type} (a : α) (l : List α) (i : Nat) (h : i + 1 < (a :: l).length), getElem (a :: l) (i+1) h = getElem l i (Nat.lt_of_succ_lt_succ h)) ∧
  (∀ (a : Act) (d : Tmp) (v : Value), a.put (some d) v = { a with tmps := a.tmps.setIfInBounds d v }) ∧ (∀ (a : Act) (v : Value), a.put none v = a) ∧
  (∀ {α : Type} (l : List α) (i : Nat) (a : α), l.toArray.setIfInBounds i a = (l.set i a).toArray) ∧ (∀ {α : Type} (x : α) (xs : List α) (a : α), (x :: xs).set 0 a = a :: xs) ∧ (∀ {α : Type} (x : α) (xs : List α) (i : Nat) (a : α), (x :: xs).set (i + 1) a = x :: xs.set i a) ∧
  (∀ a b : Value, cond true a b = a) ∧ (∀ a b : Value, cond false a b = b) :=
 ⟨fun _ _ _ => rfl, fun _ _ _ => rfl, fun _ _ _ _ => rfl, fun _ _ _ => rfl, fun _ _ => rfl, fun l i a => List.setIfInBounds_toArray l i a, fun _ _ _ => rfl, fun _ _ _ _ => rfl, fun _ _ => rfl, fun _ _ => rfl⟩
section
variable {P : Program} {ops : Array Oper} {Q : Exit → Act → World → Prop} {md : Region.Mode} {S : World → Prop} {E : List Nat}
theorem dY (i : Nat) {oi : Oper} {v : Value} {fuel : Nat} {listed l2 : Array Bool} {a a2 : Act} {w : World} (h : fG P md ops Q S E fuel l2 a2 w) (hi : ops[i]? = some oi := by rfl)
  (hs : Region.noSelect ops = true := by kernel_rfl) (hf : Region.free md ops listed i = true := by kernel_rfl) (hr : (Region.ready md ops listed).contains i = true := by kernel_rfl) (hl : j3 md ops listed i E = true := by kernel_rfl)
  (hQ : ∀ c a w, Q (.panic c) (a.put oi.dst v) w → Q (.panic c) a w := by exact fun _ _ _ h => h) (hw : Region.wanted oi (yielded ops a.tmps) = true := by rfl)
  (hy : ∀ w, S w → (execOp a.eval oi).run P w = .ok (.value v) w := by intro wS hSw; have zS := hO.out wS hSw; go_simp <;> with_reducible rfl) (hS : S w := by assumption) (hn : listed.setIfInBounds i true = l2 ∧ a.put oi.dst v = a2 := by refine ⟨?_, ?_⟩ <;> (try simp only [qq]) <;> rfl) : fG P md ops Q S E (fuel + 1) listed a w :=
 fq hi hs hf hr hl hQ (Or.inl ⟨hw, hy⟩) hS (hn.1 ▸ hn.2 ▸ h)
theorem bz (i : Nat) {oi : Oper} {v : Value} {fuel : Nat} {listed l2 : Array Bool} {a a2 : Act} {w : World} (h : fG P md ops Q S E fuel l2 a2 w) (hi : ops[i]? = some oi := by rfl)
  (hs : Region.noSelect ops = true := by kernel_rfl) (hf : Region.free md ops listed i = true := by kernel_rfl) (hr : (Region.ready md ops listed).contains i = true := by kernel_rfl) (hl : j3 md ops listed i E = true := by kernel_rfl)
  (hQ : ∀ c a w, Q (.panic c) (a.put oi.dst v) w → Q (.panic c) a w := by exact fun _ _ _ h => h) (hw : Region.wanted oi (yielded ops a.tmps) = true := by rfl)
  (hy : ∀ w, S w → (execOp a.eval oi).run P w = .ok (.value v) w := by intro wS hSw; (try dsimp only at hSw); go_simp <;> with_reducible rfl) (hS : S w := by assumption) (hn : listed.setIfInBounds i true = l2 ∧ a.put oi.dst v = a2 := by refine ⟨?_, ?_⟩ <;> (try simp only [qq]) <;> rfl) : fG P md ops Q S E (fuel + 1) listed a w :=
 fq hi hs hf hr hl hQ (Or.inl ⟨hw, hy⟩) hS (hn.1 ▸ hn.2 ▸ h)
theorem ql (i : Nat) {oi : Oper} (v : Value) {fuel : Nat} {listed l2 : Array Bool} {a a2 : Act} {w : World} (hi : ops[i]? = some oi) (hy : ∀ w, S w → (execOp a.eval oi).run P w = .ok (.value v) w) (h : fG P md ops Q S E fuel l2 a2 w)
  (hs : Region.noSelect ops = true := by kernel_rfl) (hf : Region.free md ops listed i = true := by kernel_rfl) (hr : (Region.ready md ops listed).contains i = true := by kernel_rfl) (hl : j3 md ops listed i E = true := by kernel_rfl)
  (hQ : ∀ c a w, Q (.panic c) (a.put oi.dst v) w → Q (.panic c) a w := by exact fun _ _ _ h => h) (hw : Region.wanted oi (yielded ops a.tmps) = true := by rfl) (hS : S w := by assumption) (hn : listed.setIfInBounds i true = l2 ∧ a.put oi.dst v = a2 := by refine ⟨?_, ?_⟩ <;> (try simp only [qq]) <;> rfl) : fG P md ops Q S E (fuel + 1) listed a w :=
 fq hi hs hf hr hl hQ (Or.inl ⟨hw, hy⟩) hS (hn.1 ▸ hn.2 ▸ h)
theorem Vk (i : Nat) {oi : Oper} {fuel : Nat} {listed l2 : Array Bool} {a a2 : Act} {w : World} (h : fG P md ops Q S E fuel l2 a2 w) (hi : ops[i]? = some oi := by rfl)
  (hs : Region.noSelect ops = true := by kernel_rfl) (hf : Region.free md ops listed i = true := by kernel_rfl) (hr : (Region.ready md ops listed).contains i = true := by kernel_rfl) (hl : j3 md ops listed i E = true := by kernel_rfl)
  (hQ : ∀ c a w, Q (.panic c) (a.put oi.dst undef) w → Q (.panic c) a w := by exact fun _ _ _ h => h) (hw : Region.wanted oi (yielded ops a.tmps) = false := by rfl) (hS : S w := by assumption) (hn : listed.setIfInBounds i true = l2 ∧ a.put oi.dst undef = a2 := by refine ⟨?_, ?_⟩ <;> (try simp only [qq]) <;> rfl) : fG P md ops Q S E (fuel + 1) listed a w :=
 fq hi hs hf hr hl hQ (Or.inr ⟨hw, rfl⟩) hS (hn.1 ▸ hn.2 ▸ h)
theorem dK (i : Nat) {o : Oper} {fuel : Nat} {listed : Array Bool} {a : Act} {w : World}
  (h : ∀ K' : Act → World → Prop, Shut (∀ a w, S w → (S w → fG P md ops Q S E fuel (listed.setIfInBounds i true) a w) → K' a w) → if Region.wanted o (yielded ops a.tmps) = true then Oper.wp P o a w K' Q else K' (a.put o.dst undef) w)
  (hr : Region.ready md ops listed = [i] := by kernel_rfl) (ho : ops[i]? = some o := by rfl) : fG P md ops Q S E (fuel + 1) listed a w := EF hr ho h
def Bt (md : Region.Mode) (ops : Array Oper) (E : List Nat) (l : Array Bool) (i : Nat) : Bool := Region.noSelect ops && (Region.free md ops l i && ((Region.ready md ops l).contains i && j3 md ops l i E))
theorem zy {i : Nat} {o : Oper} {v : Value} {fuel : Nat} {l l2 : Array Bool} {a a2 : Act} {w : World} (g : ops[i]? = some o) (c : Bt md ops E l i = true) (hw : Region.wanted o (yielded ops a.tmps) = true) (y : ∀ w, S w → (execOp a.eval o).run P w = .ok (.value v) w) (hS : S w) (n : l.setIfInBounds i true = l2 ∧ a.put o.dst v = a2)
    (q : ∀ d v c a w, Q (.panic c) (Act.put a d v) w → Q (.panic c) a w) (h : fG P md ops Q S E fuel l2 a2 w) : fG P md ops Q S E (fuel + 1) l a w := by
  simp only [Bt, Bool.and_eq_true] at c
  obtain ⟨rfl, rfl⟩ := n
  exact fq g c.1 c.2.1 c.2.2.1 c.2.2.2 (q _ _) (Or.inl ⟨hw, y⟩) hS h
theorem zA {i : Nat} {o : Oper} {fuel : Nat} {l l2 : Array Bool} {a a2 : Act} {w : World} (g : ops[i]? = some o) (c : Bt md ops E l i = true) (hw : Region.wanted o (yielded ops a.tmps) = false) (hS : S w) (n : l.setIfInBounds i true = l2 ∧ a.put o.dst undef = a2)
    (q : ∀ d v c a w, Q (.panic c) (Act.put a d v) w → Q (.panic c) a w) (h : fG P md ops Q S E fuel l2 a2 w) : fG P md ops Q S E (fuel + 1) l a w := by
  simp only [Bt, Bool.and_eq_true] at c
  obtain ⟨rfl, rfl⟩ := n
  exact fq g c.1 c.2.1 c.2.2.1 c.2.2.2 (q _ _) (Or.inr ⟨hw, rfl⟩) hS h
theorem Af (i0 i1 i2 i3 : Nat) {o0 o1 o2 o3 : Oper} {fuel : Nat} {l0 l1 l2 l3 l4 : Array Bool} {a0 a1 a2 a3 a4 : Act} {w : World} (h : fG P md ops Q S E fuel l4 a4 w)
    (g0 : ops[i0]? = some o0 := by rfl) (c0 : Bt md ops E l0 i0 = true := by kernel_rfl) (w0 : Region.wanted o0 (yielded ops a0.tmps) = false := by rfl) (n0 : l0.setIfInBounds i0 true = l1 ∧ a0.put o0.dst undef = a1 := by refine ⟨?_, ?_⟩ <;> (try simp only [qq]) <;> rfl)
    (g1 : ops[i1]? = some o1 := by rfl) (c1 : Bt md ops E l1 i1 = true := by kernel_rfl) (w1 : Region.wanted o1 (yielded ops a1.tmps) = false := by rfl) (n1 : l1.setIfInBounds i1 true = l2 ∧ a1.put o1.dst undef = a2 := by refine ⟨?_, ?_⟩ <;> (try simp only [qq]) <;> rfl)
    (g2 : ops[i2]? = some o2 := by rfl) (c2 : Bt md ops E l2 i2 = true := by kernel_rfl) (w2 : Region.wanted o2 (yielded ops a2.tmps) = false := by rfl) (n2 : l2.setIfInBounds i2 true = l3 ∧ a2.put o2.dst undef = a3 := by refine ⟨?_, ?_⟩ <;> (try simp only [qq]) <;> rfl)
    (g3 : ops[i3]? = some o3 := by rfl) (c3 : Bt md ops E l3 i3 = true := by kernel_rfl) (w3 : Region.wanted o3 (yielded ops a3.tmps) = false := by rfl) (n3 : l3.setIfInBounds i3 true = l4 ∧ a3.put o3.dst undef = a4 := by refine ⟨?_, ?_⟩ <;> (try simp only [qq]) <;> rfl)
    (S0 : S w := by assumption) (q : ∀ d v c a w, Q (.panic c) (Act.put a d v) w → Q (.panic c) a w := by first | exact fun _ _ _ _ _ h => h | (intro d v c a w h; cases d <;> exact h)) : fG P md ops Q S E (fuel + 4) l0 a0 w := zA g0 c0 w0 S0 n0 q (zA g1 c1 w1 S0 n1 q (zA g2 c2 w2 S0 n2 q (zA g3 c3 w3 S0 n3 q h)))
theorem dN (i0 i1 i2 i3 : Nat) {o0 o1 o2 o3 : Oper} {v0 v1 v2 v3 : Value} {fuel : Nat} {l0 l1 l2 l3 l4 : Array Bool} {a0 a1 a2 a3 a4 : Act} {w : World} (h : fG P md ops Q S E fuel l4 a4 w)
    (g0 : ops[i0]? = some o0 := by rfl) (c0 : Bt md ops E l0 i0 = true := by kernel_rfl) (w0 : Region.wanted o0 (yielded ops a0.tmps) = true := by rfl) (y0 : ∀ w, S w → (execOp a0.eval o0).run P w = .ok (.value v0) w := by intro wS hSw; have zS := hO.out wS hSw; go_simp <;> with_reducible rfl) (n0 : l0.setIfInBounds i0 true = l1 ∧ a0.put o0.dst v0 = a1 := by refine ⟨?_, ?_⟩ <;> (try simp only [qq]) <;> rfl)
    (g1 : ops[i1]? = some o1 := by rfl) (c1 : Bt md ops E l1 i1 = true := by kernel_rfl) (w1 : Region.wanted o1 (yielded ops a1.tmps) = true := by rfl) (y1 : ∀ w, S w → (execOp a1.eval o1).run P w = .ok (.value v1) w := by intro wS hSw; have zS := hO.out wS hSw; go_simp <;> with_reducible rfl) (n1 : l1.setIfInBounds i1 true = l2 ∧ a1.put o1.dst v1 = a2 := by refine ⟨?_, ?_⟩ <;> (try simp only [qq]) <;> rfl)
    (g2 : ops[i2]? = some o2 := by rfl) (c2 : Bt md ops E l2 i2 = true := by kernel_rfl) (w2 : Region.wanted o2 (yielded ops a2.tmps) = true := by rfl) (y2 : ∀ w, S w → (execOp a2.eval o2).run P w = .ok (.value v2) w := by intro wS hSw; have zS := hO.out wS hSw; go_simp <;> with_reducible rfl) (n2 : l2.setIfInBounds i2 true = l3 ∧ a2.put o2.dst v2 = a3 := by refine ⟨?_, ?_⟩ <;> (try simp only [qq]) <;> rfl)
    (g3 : ops[i3]? = some o3 := by rfl) (c3 : Bt md ops E l3 i3 = true := by kernel_rfl) (w3 : Region.wanted o3 (yielded ops a3.tmps) = true := by rfl) (y3 : ∀ w, S w → (execOp a3.eval o3).run P w = .ok (.value v3) w := by intro wS hSw; have zS := hO.out wS hSw; go_simp <;> with_reducible rfl) (n3 : l3.setIfInBounds i3 true = l4 ∧ a3.put o3.dst v3 = a4 := by refine ⟨?_, ?_⟩ <;> (try simp only [qq]) <;> rfl)
    (S0 : S w := by assumption) (q : ∀ d v c a w, Q (.panic c) (Act.put a d v) w → Q (.panic c) a w := by first | exact fun _ _ _ _ _ h => h | (intro d v c a w h; cases d <;> exact h)) : fG P md ops Q S E (fuel + 4) l0 a0 w := zy g0 c0 w0 y0 S0 n0 q (zy g1 c1 w1 y1 S0 n1 q (zy g2 c2 w2 y2 S0 n2 q (zy g3 c3 w3 y3 S0 n3 q h)))
theorem En (i : Nat) {o : Oper} {fuel : Nat} {listed : Array Bool} {a : Act} {w : World}
  (h : ∀ K' : Act → World → Prop, Shut (∀ a w, fG P md ops Q S E fuel (listed.setIfInBounds i true) a w → K' a w) → if Region.wanted o (yielded ops a.tmps) = true then Oper.wp P o a w K' Q else K' (a.put o.dst undef) w)
  (hr : Region.ready md ops listed = [i] := by kernel_rfl) (hE : i ∈ E := by simp) (ho : ops[i]? = some o := by rfl) : fG P md ops Q S E (fuel + 1) listed a w := BF hr hE ho h
theorem kT {fuel : Nat} {listed : Array Bool} {a : Act} {w : World} (h : Q .normal a w) (hr : Region.ready md ops listed = [] := by kernel_rfl) : fG P md ops Q S E fuel listed a w := BG hr h fuel
theorem Co {id : Nat} {a : Act} {w : World} (B : World → Prop) (E : List Nat) (hS : Hid (B w.drew)) (h : Hid (B w.drew) → fG P .any ops Q (fun u => Hid (B u)) E ops.size (Array.replicate ops.size false) a w.drew)
  (hm : P.follows .mixedOrders = true := by kernel_rfl) : (Code.region id ops true).wp P Q a w := bq hm hS h
theorem uB {id : Nat} {a : Act} {w b : World} (E : List Nat) (hS : Hid (Below b.heap.size b w)) (h : Hid (Below b.heap.size b w.drew) → fG P .any ops Q (fun u => Hid (Below b.heap.size b u)) E ops.size (Array.replicate ops.size false) a w.drew)
  (hm : P.follows .mixedOrders = true := by kernel_rfl) : (Code.region id ops true).wp P Q a w := bq hm (vT hS (Below.refl _ _).drew) h
end
def pz (N : Nat) (l : List Int) : List Int := l ++ aR (N - l.length)
theorem Cw {N : Nat} {l : List Int} (h : l.length ≤ N) : (pz N l).length = N := by simp [pz, aR]; omega
theorem H8 {N : Nat} {l : List Int} {x : Int} (h : l.length < N) : (pz N l).set l.length x = pz N (l ++ [x]) := by
 obtain ⟨m, hm⟩ : ∃ m, N - l.length = m + 1 := ⟨N - l.length - 1, by omega⟩
 have hm2 : N - (l ++ [x]).length = m := by rw [List.length_append, List.length_singleton]; omega
 rw [pz, pz, hm, hm2, aR, List.replicate_succ, List.set_append_right _ _ (Nat.le_refl _), Nat.sub_self, List.set_cons_zero]
 simp [aR]
theorem zq {N : Nat} {l : List Int} (h : l.length = N) : pz N l = l := by simp [pz, aR, h]
theorem zo {N k : Nat} {l : List Int} (h : k < l.length) (h2 : k < N) : (pz N (l.take k)).set k (l.getD k 0) = pz N (l.take (k + 1)) := by
 have e := H8 (N := N) (l := l.take k) (x := l.getD k 0) (by rw [List.length_take]; omega)
 rw [List.length_take, Nat.min_eq_left (by omega)] at e
 rw [e, take_one h]
theorem Kn : (#[.int .u8 0, .int .u8 0, .int .u8 0, .int .u8 0, .int .u8 0, .int .u8 0, .int .u8 0, .int .u8 0] : Array Value) = arr .u8 (aR 8) := rfl
theorem FV (n : Int) : ∀ k : Nat, k < 8 → (jb n).getD k 0 = n / 2 ^ (56 - 8 * k) % 256
 | 0, _ => rfl
 | 1, _ => rfl
 | 2, _ => rfl
 | 3, _ => rfl
 | 4, _ => rfl
 | 5, _ => rfl
 | 6, _ => rfl
 | 7, _ => by simp [jb]
 | k + 8, h => absurd h (by omega)
theorem A9 (n : Int) (w : World) :
  Calls Tryz.prog 118 #[.int .u64 n] w fun e w' => e = .returned (.slice (some ⟨w.heap.size, 0, none⟩) 8 8) ∧ bf .u8 5 w' w.heap.size (jb n) ∧ Below w.heap.size w w' := by
 obtain ⟨W, hW⟩ : ∃ W, w.alloc (.cells #[.int .u8 0, .int .u8 0, .int .u8 0, .int .u8 0, .int .u8 0, .int .u8 0, .int .u8 0, .int .u8 0] 5) = W := ⟨_, rfl⟩
 have cK : Hid (Below w.heap.size w W) := aa (by rw [← hW]; exact af _ _)
 have HB0 : Hid (bf .u8 5 W w.heap.size (pz 8 ((jb n).take 0))) := aa (by
  rw [← hW, Kn]
  exact bf.new _ _)
 have hmk : ∀ w, (Instr.makeSlice 78 (.int .i64 8) (.int .i64 8)).run Tryz.prog w = .ok (.slice (some ⟨w.heap.size, 0, none⟩) 8 8) (w.alloc (.cells #[.int .u8 0, .int .u8 0, .int .u8 0, .int .u8 0, .int .u8 0, .int .u8 0, .int .u8 0, .int .u8 0] 5)) := fun _ => by kernel_rfl
 have HW := aa hW
 clear hW
 go_in
 go_wp2
 rw [HW.out]
 clear HW hmk
 go_loopw [8] (fun i u => ∃ k : Nat, k ≤ 8 ∧ i = .int .i64 k ∧ Hid (bf .u8 5 u w.heap.size (pz 8 ((jb n).take k))) ∧ Hid (Below w.heap.size w u)) (fun i _ => 8 - (intOf i).toNat)
 case atStart => exact ⟨0, by omega, rfl, HB0, cK⟩
 case round =>
  obtain ⟨k, hk, rfl, HB, aG⟩ := hrel
  by_cases hlt : k < 8
  ·
   have hc := HB.out.cell (j := k) (by rw [Cw (by rw [List.length_take, fo]; omega)]; exact hlt)
   have hf := HB.out.free k
   have hst := zo (N := 8) (k := k) (l := jb n) hlt hlt
   rw [FV n k hlt] at hst
   obtain ⟨q, hq⟩ : ∃ q, n / 2 ^ (56 - 8 * k) = q := ⟨_, rfl⟩
   rw [hq] at hst
   have j0 : (0 : Int) ≤ 56 - 8 * k := by omega
   have j1 : (56 - 8 * (k : Int)).toNat = 56 - 8 * k := by omega
   have HB2 : Hid (bf .u8 5 (wr.setCell ⟨w.heap.size, k, none⟩ (.int .u8 (q % 256))) w.heap.size (pz 8 ((jb n).take (k + 1)))) := aa (by
    rw [← hst]
    exact HB.out.set)
   have Ei : Hid (Below w.heap.size w (wr.setCell ⟨w.heap.size, k, none⟩ (.int .u8 (q % 256)))) := aa (aG.out.setCell (Nat.le_refl _) _)
   clear hst HB aG
   go_wp2
   try go_region
   try (rw [hq])
   go_wp2
   go_roundw
   case rel => exact ⟨k + 1, by omega, by go_num, HB2, Ei⟩
   case measure => simp [intOf]; omega
  ·
   have JL : Hid (bf .u8 5 wr w.heap.size (jb n)) := aa (by
    have h := HB.out
    rwa [show k = (jb n).length by rw [fo]; omega, List.take_length, zq (fo n)] at h)
   clear HB
   go_wp2
   go_ret
   exact ⟨rfl, JL.out, aG.out⟩
theorem zV (b o i : Nat) : (⟨b, o, none⟩ : Addr).add i = ⟨b, o + i, none⟩ := by unfold Addr.add; split <;> simp_all
theorem Sk.news {K : IntKind} {w : World} {b o : Nat} {l : List Int} (h : Sk K w (some ⟨b, o, none⟩) l) : ∀ j u, (l.map (Value.int K))[j]? = some u → w.cell? ((⟨b, o, none⟩ : Addr).add j) = some u := fun j u hj => by
 rw [List.getElem?_map] at hj
 by_cases hl : j < l.length
 ·
  rw [List.getElem?_eq_getElem hl] at hj
  rw [zV, h.cell hl, List.getD_eq_getElem?_getD, List.getElem?_eq_getElem hl]
  exact hj
 · rw [List.getElem?_eq_none (by omega)] at hj; cases hj
theorem Sk.at_add {K : IntKind} {w : World} {b o n : Nat} {l : List Int} (h : Sk K w (some ⟨b, o, none⟩) l) (hn : l.length = n) : ∀ i, i < n → w.cell? ((⟨b, o, none⟩ : Addr).add i) = some (.int K (l.getD i 0)) := fun i hi => by
 rw [zV]; exact h.cell (by omega)
theorem Sk.setRow_ne {K : IntKind} {w : World} {a : Nat} {A : Option Addr} {l : List Int} {cs : Array Value} (h : Sk K w A l) (hne : ∀ b o, A = some ⟨b, o, none⟩ → b ≠ a) : Sk K (w.setRow a cs) A l := fun j hj => by
 obtain ⟨b, o, e, hc⟩ := h j hj
 exact ⟨b, o, e, by rw [cell_setRow_other _ _ _ _ (hne b o e)]; exact hc⟩
theorem gq : (Tryz.prog.info? 5).map (fun i => (i.zero, i.size, i.bytes)) = some (some (.int .u8 0), 1, 1) := by kernel_rfl
theorem KF : (Tryz.prog.info? 27).map (·.size) = some 32 := by kernel_rfl
theorem aF {l : List Int} (h : l.length = 32) : (Tryz.prog.info? 27).map (·.size) = some (arr .u8 l).size := KF.trans (congrArg some (by rw [aK, h]))
theorem dF {l m : List Int} (h : l.length = 32) (h2 : m.length = 32) : (arr .u8 l).size = (arr .u8 m).size := by rw [aK, aK, h, h2]
theorem ow : (z32 : Array Value) = arr .u8 (aR 32) := rfl
theorem Fa (s : St) : ∀ k : Nat, k < 8 → ∀ m : Nat, m < 4 → (kF s).getD (4 * k + m) 0 = s.list.getD k 0 / 2 ^ (24 - 8 * m) % 256 := by
 intro k hk m hm
 obtain ⟨a, b, c, d, e, f, g, h⟩ := s
 rcases (show k = 0 ∨ k = 1 ∨ k = 2 ∨ k = 3 ∨ k = 4 ∨ k = 5 ∨ k = 6 ∨ k = 7 by omega) with rfl | rfl | rfl | rfl | rfl | rfl | rfl | rfl <;>
 rcases (show m = 0 ∨ m = 1 ∨ m = 2 ∨ m = 3 by omega) with rfl | rfl | rfl | rfl <;>
 simp [kF, o9, St.list]
theorem oW (s : St) : (kF s).length = 32 := rfl
def lenOf : Value → Nat
 | .slice _ n _ => n
 | _ => 0
theorem Cq (m : Nat) : List.replicate (m + 1) (0 : Int) = List.replicate m 0 ++ [0] := List.replicate_succ' ..
theorem Fg (xa xb xc xd xe xf xg xh : Int) (b o cap : Nat) (blk : List Int) (hlen : Hid (blk.length = 64)) (hby : Hid (au blk = true)) (w : World) (hs : Hid (Sk .u8 w (some ⟨b, o, none⟩) blk)) (hcap : 64 ≤ cap) (hcm : cap ≤ 9223372036854775807) (hv : Hid (bu w)) :
  Calls Tryz.prog 119 #[.agg #[.int .u32 xa, .int .u32 xb, .int .u32 xc, .int .u32 xd, .int .u32 xe, .int .u32 xf, .int .u32 xg, .int .u32 xh], .slice (some ⟨b, o, none⟩) 64 cap] w (Rt w (.agg (arr .u32 (xG ⟨xa, xb, xc, xd, xe, xf, xg, xh⟩ blk).list))) := by
 rw [FZ]
 exact Fh ⟨xa, xb, xc, xd, xe, xf, xg, xh⟩ b o cap blk hlen hby w hs hcap hcm hv
theorem rV (b o c : Nat) (l : List Int) (n : Nat) (hn : Hid (l.length = n)) (hbig : n ≤ 1000000) (hby : Hid (au l = true)) (w : World) (hs : Hid (Sk .u8 w (some ⟨b, o, none⟩) l)) (hv : Hid (bu w)) :
  Calls Tryz.prog 100 #[.slice (some ⟨b, o, none⟩) n c] w (Rt w (.agg (arr .u8 (nQ l)))) := by
 obtain ⟨i0, hi, hz0, hz1, hz2⟩ := info_parts gq
 obtain ⟨W, hW⟩ : ∃ W, w.alloc (.cells z32 27) = W := ⟨_, rfl⟩
 have cK : Hid (Below w.heap.size w W) := aa (by rw [← hW]; exact af _ _)
 have jT : Hid (bf .u8 27 W w.heap.size (aR 32)) := aa (by
  rw [← hW, ow]
  exact bf.new _ _)
 have rJ : Hid (W.heap.size = w.heap.size + 1) := aa (by rw [← hW]; simp)
 have HS := aa (hs.out.below cK.out)
 have HV := aa (hv.out.below cK.out)
 have HW := aa hW
 clear hW hs hv
 go_in
 go_wp2_with fail
 rw [HW.out]
 refine (Tryz.bytes_Clone_at ⟨b, o, none⟩ n c l _ hn.out (by omega) (HS.out.at_add hn.out)).mono ?_
 rintro e w1 ⟨v1, rfl, ho1, hne1, hb1⟩
 have PG : Hid (aX .u8 5 w1 W.heap.size v1 l) := aa (by unfold aX; rw [hn.out]; exact ho1)
 have HB1 := hb1
 have MI := aa hb1
 have hbs := hb1.size
 clear HW hne1 HB1 hb1
 have hown := PG.out.row hn.out
 clear ho1
 go_wp2_with (at_builtin; refine wpList_append_own _ rfl _ _ 78 rfl W.heap.size 5 i0 (.int .u8 0) 1 1 Tryz.underlying78 hi hz0 hz1 hz2 rfl (by decide) _ _ _ rfl (hown.alloc _) ⟨w1.heap.size, 0, none⟩ 1 1 [.int .u8 128] rfl rfl (cell_one_new _ _ _) (ints_oneCell .u8 [128]) (by unfold maxLen; omega) (by omega) (by simp; omega) ?_; intro v2 w2 hown2 hgrow2 _)
 have Bz : Hid (aX .u8 5 w2 W.heap.size v2 (l ++ [128])) := aa (aX.app hn.out.symm rfl hown2)
 have Qg : Hid (Below W.heap.size W w2) := aa (PG.out.below MI.out hbs hgrow2)
 clear hown hown2 hgrow2 PG hbs MI
 obtain ⟨A2, c2, e2, _⟩ := Bz.out.sk
 rw [List.length_append, hn.out, List.length_singleton] at e2
 subst e2
 go_loopw [3] (fun p u => ∃ (N : Nat) (A : Option Addr) (cap : Nat), n + 1 ≤ N ∧ N ≤ n + 1 + lI n ∧ p = .slice A N cap ∧ Hid (aX .u8 5 u W.heap.size p (l ++ [128] ++ List.replicate (N - n - 1) 0)) ∧ Hid (Below W.heap.size W u)) (fun p _ => n + 65 - lenOf p)
 case atStart => exact ⟨n + 1, A2, c2, Nat.le_refl _, by omega, rfl, aa (by rw [show n + 1 - n - 1 = 0 by omega]; simpa using Bz.out), Qg⟩
 case round =>
  obtain ⟨N, A, cap, hN0, hN1, rfl, HO, aG⟩ := hrel
  have hpz : lI n < 64 := by unfold lI; omega
  have hll : (l ++ [128] ++ List.replicate (N - n - 1) 0).length = N := by simp [hn.out]; omega
  by_cases hend : N % 64 = 56
  ·
   have HN : Hid (N = n + 1 + lI n) := aa (by unfold lI at hN1 hpz ⊢; omega)
   have t1 : ((N : Int) % 64 == 56) = true := by simp; omega
   have t2 : ((N : Int) % 64 != 56) = false := by simp; omega
   clear hend
   go_wp2_with fail
   refine (A9 _ _).mono ?_
   rintro e w3 ⟨rfl, hbl, hb3⟩
   have Bo := aa (HO.out.keep hb3)
   have Eg := aa (aG.out.trans (hb3.mono aG.out.size))
   have JQ := aa hbl
   have hbs := Eg.out.size
   have hown := Bo.out.row hll
   have NF := aa hll
   clear hbl hb3 HO aG hll
   go_upto_region 5 with (at_builtin; refine wpList_append_own _ rfl _ _ 78 rfl W.heap.size 5 i0 (.int .u8 0) 1 1 Tryz.underlying78 hi hz0 hz1 hz2 rfl (by decide) _ _ _ rfl hown ⟨wr.heap.size, 0, none⟩ 8 8 ((jb (8 * (n : Int))).map (.int .u8)) rfl rfl (JQ.out.sk.news) (ints_oneCell .u8 (jb (8 * (n : Int)))) (by unfold maxLen lI at *; omega) (by unfold lI at *; omega) (by omega) ?_; intro v4 w4 hown2 hgrow2 _)
   have Me : Hid (aX .u8 5 w4 W.heap.size v4 (lJ l)) := aa (by
    have h := aX.app (ys := jb (8 * (n : Int))) NF.out.symm rfl hown2
    have e : l ++ [128] ++ List.replicate (N - n - 1) 0 ++ jb (8 * (n : Int)) = lJ l := by
     rw [lJ, hn.out, show N - n - 1 = lI n by have := HN.out; omega]
    rwa [e] at h)
   have Ef : Hid (Below W.heap.size W w4) := aa (Bo.out.below0 Eg.out hbs hgrow2)
   clear hown hown2 hgrow2 Bo JQ Eg hbs
   obtain ⟨M, hM⟩ : ∃ M, (lJ l).length = 64 * M := ⟨(lJ l).length / 64, by have := CB l; omega⟩
   have hM1 : 1 ≤ M := by rw [oV] at hM; omega
   have hM2 : 64 * M ≤ n + 200 := by rw [oV, hn.out, lI] at hM; omega
   obtain ⟨g4, cap4, e4, hg4, hcap, Gx, qx⟩ := Me.out.cells (by omega)
   rw [hM] at e4 hcap
   obtain ⟨P, hP⟩ : ∃ P, lJ l = P := ⟨_, rfl⟩
   have Ra : au P = true := by rw [← hP]; exact xx hby.out
   rw [hP] at qx hM Me
   have HP : Kp (lJ l = P) := ⟨hP⟩
   have HM := aa hM
   have UE := aa Ra
   have LX := aa qx
   have hcm : cap4 ≤ 9223372036854775807 := by simpa [maxLen] using Gx
   have Ty : g4 < w4.heap.size := qx.lt (by omega)
   subst e4
   clear hP hM Ra qx Gx Me NF t1 t2
   have wF := aa (HV.out.below Ef.out)
   obtain ⟨s0, s1, s2, s3, s4, s5, s6, s7⟩ : w4.cell? ⟨4, 0, none⟩ = some (.int .u32 1779033703) ∧ w4.cell? ⟨4, 1, none⟩ = some (.int .u32 3144134277) ∧ w4.cell? ⟨4, 2, none⟩ = some (.int .u32 1013904242) ∧ w4.cell? ⟨4, 3, none⟩ = some (.int .u32 2773480762) ∧ w4.cell? ⟨4, 4, none⟩ = some (.int .u32 1359893119) ∧ w4.cell? ⟨4, 5, none⟩ = some (.int .u32 2600822924) ∧ w4.cell? ⟨4, 6, none⟩ = some (.int .u32 528734635) ∧ w4.cell? ⟨4, 7, none⟩ = some (.int .u32 1541459225) :=
    ⟨wF.out.2 0 (by decide), wF.out.2 1 (by decide), wF.out.2 2 (by decide), wF.out.2 3 (by decide), wF.out.2 4 (by decide), wF.out.2 5 (by decide), wF.out.2 6 (by decide), wF.out.2 7 (by decide)⟩
   go_wp2_with ((with_reducible show wpList _ _ _ (⟨none, _, _, _, _, _⟩ :: _) _ _); refine wpList_store_row rfl 156 _ _ rfl w4.heap.size (arr .u32 st0.list) rfl rfl _ _ (heap_alloc_new _ _) (eG st0) rfl (bF _) ?_)
   clear s0 s1 s2 s3 s4 s5 s6 s7
   rw [World.setRow_alloc_new]
   simp only [Act.put]
   have MH : Hid (Below W.heap.size W (w4.alloc (.cells (arr .u32 st0.list) 156))) := aa (Ef.out.alloc Ef.out.size _)
   have LV : Hid (bf .u32 156 (w4.alloc (.cells (arr .u32 st0.list) 156)) w4.heap.size (jZ P 0).list) := aa (bf.new _ _)
   have LW : Hid (Sk .u8 (w4.alloc (.cells (arr .u32 st0.list) 156)) (some ⟨g4, 0, none⟩) (P.drop (64 * 0))) := aa (by
    rw [Nat.mul_zero, List.drop_zero]
    exact LX.out.below (af _ _))
   have OB := Ef.out.size
   obtain ⟨W5, GA⟩ : ∃ u, w4.alloc (.cells (arr .u32 st0.list) 156) = u := ⟨_, rfl⟩
   rw [GA] at MH LV LW ⊢
   clear GA LX Ef wF
   go_loopw [3] (fun p u => ∃ (k R off cp : Nat), k ≤ M ∧ Hid (64 * k + R = 64 * M) ∧ p = .slice (some ⟨g4, off, none⟩) R cp ∧ R ≤ cp ∧ cp ≤ 9223372036854775807 ∧ Hid (Sk .u8 u (some ⟨g4, off, none⟩) (P.drop (64 * k))) ∧ Hid (bf .u32 156 u w4.heap.size (jZ P k).list) ∧ Hid (Below W.heap.size W u)) (fun p _ => lenOf p)
   case atStart => exact ⟨0, 64 * M, 0, cap4, by omega, aa (by omega), rfl, hcap, hcm, LW, LV, MH⟩
   case round =>
    obtain ⟨k, R, off, cp, hk, HR, rfl, VQ, hcp, GU, zZ, aG⟩ := hrel
    by_cases hR0 : 0 < R
    ·
     have TP : 64 ≤ R := by have := HR.out; omega
     have TE : (64 : Int) ≤ (cp : Int) := by omega
     have VH : k < M := by have := HR.out; omega
     have Qm : Hid ((fe P k).length = 64) := aa (vX (by have := HM.out; omega))
     have rQ : Hid (au (fe P k) = true) := aa (qF UE.out k)
     obtain ⟨⟨xa, xb, xc, xd, xe, xf, xg, xh⟩, hS⟩ : ∃ T, jZ P k = T := ⟨_, rfl⟩
     rw [hS] at zZ
     have Ez : Kp (jZ P k = ⟨xa, xb, xc, xd, xe, xf, xg, xh⟩) := ⟨hS⟩
     clear hS
     have LP : Hid (Sk .u8 wr (some ⟨g4, off, none⟩) (fe P k)) := aa (GU.out.take)
     have Ey := aa (HV.out.below aG.out)
     have Kh : Hid (wr.cell? ⟨w4.heap.size, 0, none⟩ = some (.int .u32 xa) ∧ wr.cell? ⟨w4.heap.size, 1, none⟩ = some (.int .u32 xb) ∧ wr.cell? ⟨w4.heap.size, 2, none⟩ = some (.int .u32 xc) ∧ wr.cell? ⟨w4.heap.size, 3, none⟩ = some (.int .u32 xd) ∧ wr.cell? ⟨w4.heap.size, 4, none⟩ = some (.int .u32 xe) ∧ wr.cell? ⟨w4.heap.size, 5, none⟩ = some (.int .u32 xf) ∧ wr.cell? ⟨w4.heap.size, 6, none⟩ = some (.int .u32 xg) ∧ wr.cell? ⟨w4.heap.size, 7, none⟩ = some (.int .u32 xh)) := aa ⟨zZ.out.cell (j := 0) (show 0 < 8 by decide), zZ.out.cell (j := 1) (show 1 < 8 by decide), zZ.out.cell (j := 2) (show 2 < 8 by decide), zZ.out.cell (j := 3) (show 3 < 8 by decide), zZ.out.cell (j := 4) (show 4 < 8 by decide), zZ.out.cell (j := 5) (show 5 < 8 by decide), zZ.out.cell (j := 6) (show 6 < 8 by decide), zZ.out.cell (j := 7) (show 7 < 8 by decide)⟩
     obtain ⟨T, hT⟩ : ∃ T, xG ⟨xa, xb, xc, xd, xe, xf, xg, xh⟩ (fe P k) = T := ⟨_, rfl⟩
     have HT : Kp (xG ⟨xa, xb, xc, xd, xe, xf, xg, xh⟩ (fe P k) = T) := ⟨hT⟩
     have RO : Kp (jZ P (k + 1) = T) := ⟨by rw [jZ, Ez.out, hT]⟩
     clear hT
     go_wp2_with fail
     refine bq (S := fun w' => w'.cell? ⟨w4.heap.size, 0, none⟩ = some (.int .u32 xa) ∧ w'.cell? ⟨w4.heap.size, 1, none⟩ = some (.int .u32 xb) ∧ w'.cell? ⟨w4.heap.size, 2, none⟩ = some (.int .u32 xc) ∧ w'.cell? ⟨w4.heap.size, 3, none⟩ = some (.int .u32 xd) ∧ w'.cell? ⟨w4.heap.size, 4, none⟩ = some (.int .u32 xe) ∧ w'.cell? ⟨w4.heap.size, 5, none⟩ = some (.int .u32 xf) ∧ w'.cell? ⟨w4.heap.size, 6, none⟩ = some (.int .u32 xg) ∧ w'.cell? ⟨w4.heap.size, 7, none⟩ = some (.int .u32 xh)) (E := [3, 4]) (by kernel_rfl) (by simpa using Kh.out) (fun hHeld => ?_)
     refine bz 0 ?_
     refine bz 1 ?_
     refine bz 2 ?_
     refine En 3 fun K hK => ?_
     go_simp
     refine (Fg xa xb xc xd xe xf xg xh g4 off cp (fe P k) Qm rQ _ (aa (LP.out.below (Below.refl _ _).drew)) (by omega) hcp (aa (Ey.out.below (Below.refl _ _).drew))).mono ?_
     rintro e w6 ⟨rfl, hb6⟩
     rw [HT.out]
     refine hK.out _ _ ?_
     clear hK K
     try simp only [qq]
     refine En 4 fun K hK => ?_
     refine wp_store_row 156 _ _ rfl w4.heap.size (arr .u32 T.list) rfl rfl 156 _ ((zZ.out.below (Below.refl _ _).drew).below hb6) (eG T) rfl (bF _) ?_
     refine hK.out _ _ ?_
     clear hK K
     try simp only [qq]
     refine kT ?_
     have Jv : Hid (bf .u32 156 (w6.setRow w4.heap.size (arr .u32 T.list)) w4.heap.size (jZ P (k + 1)).list) := aa (by
      rw [RO.out]
      exact ((zZ.out.below (Below.refl _ _).drew).below hb6).setRow)
     have Ei : Hid (Below W.heap.size W (w6.setRow w4.heap.size (arr .u32 T.list))) := aa (ah (aG.out.drew.trans (hb6.mono aG.out.size)) OB)
     have LM : Hid (Sk .u8 (w6.setRow w4.heap.size (arr .u32 T.list)) (some ⟨g4, off, none⟩) (P.drop (64 * k))) := aa (((GU.out.below (Below.refl _ _).drew).below hb6).setRow_ne (fun b o e => by cases e; omega))
     obtain ⟨w7, hw7⟩ : ∃ u, w6.setRow w4.heap.size (arr .u32 T.list) = u := ⟨_, rfl⟩
     rw [hw7] at Jv Ei LM ⊢
     clear hw7 hb6 GU LP zZ aG Ey Kh HT RO Ez hHeld
     have TY : (64 : Int) ≤ (R : Int) := by omega
     by_cases hce : cp = 64
     ·
      subst hce
      obtain rfl : R = 64 := by omega
      have PK : Hid (Sk .u8 w7 (some ⟨g4, off, none⟩) (P.drop (64 * (k + 1)))) := aa (Sk.nil_of (by rw [List.length_drop, HM.out]; have := HR.out; omega))
      have HR2 : Hid (64 * (k + 1) + 0 = 64 * M) := aa (by have := HR.out; omega)
      go_wp2
      go_roundw
      case rel => exact ⟨k + 1, 0, off, 0, by omega, HR2, rfl, by omega, by omega, PK, Jv, Ei⟩
      case measure => simp [lenOf]
     ·
      have PK : Hid (Sk .u8 w7 (some ⟨g4, off + 64, none⟩) (P.drop (64 * (k + 1)))) := aa (by
       have h := LM.out.drop (n := 64)
       rwa [List.drop_drop, show 64 * k + 64 = 64 * (k + 1) by omega] at h)
      have HR2 : Hid (64 * (k + 1) + (R - 64) = 64 * M) := aa (by have := HR.out; omega)
      go_wp2
      go_roundw
      case rel => exact ⟨k + 1, R - 64, off + 64, cp - 64, by omega, HR2, rfl, by omega, by omega, PK, Jv, Ei⟩
      case measure => simp [lenOf]; omega
    ·
     obtain rfl : R = 0 := by omega
     obtain ⟨⟨xa, xb, xc, xd, xe, xf, xg, xh⟩, hS⟩ : ∃ T, jZ P M = T := ⟨_, rfl⟩
     have Pq : Kp (nQ l = kF ⟨xa, xb, xc, xd, xe, xf, xg, xh⟩) := ⟨by
      rw [nQ, HP.out, HM.out, show 64 * M / 64 = M by omega, hS]⟩
     have Pj : Hid (bf .u32 156 wr w4.heap.size (St.mk xa xb xc xd xe xf xg xh).list) := aa (by
      rw [← hS, show M = k by have := HR.out; omega]
      exact zZ.out)
     have Pf : Hid (bf .u8 27 (wr.alloc (.cells z32 27)) wr.heap.size (pz 32 ((kF ⟨xa, xb, xc, xd, xe, xf, xg, xh⟩).take (4 * 0)))) := aa (by
      rw [ow]
      exact bf.new _ _)
     have y9 : Hid (Below W.heap.size W (wr.alloc (.cells z32 27))) := aa (aG.out.alloc aG.out.size _)
     clear hS zZ GU HR
     go_upto_region 11 with ((with_reducible show wpList _ _ _ (⟨some 37, _, _, _, _, _⟩ :: _) _ _); refine wpList_load_row rfl 156 _ rfl w4.heap.size rfl _ _ _ _ (Pj.out.old _) Tryz.underlying156 rfl (eG _) ?_)
     rw [← FZ]
     have hbr := aG.out.size
     obtain ⟨WN, OI⟩ : ∃ u, wr.alloc (.cells z32 27) = u := ⟨_, rfl⟩
     rw [OI] at Pf y9 ⊢
     obtain ⟨B5, OQ⟩ : ∃ x, wr.heap.size = x := ⟨_, rfl⟩
     have V4 : Hid (B5 < WN.heap.size) := aa (by rw [← OI, ← OQ]; simp)
     rw [OQ] at Pf hbr ⊢
     clear OI OQ
     go_loopw [38] (fun i u => ∃ k : Nat, k ≤ 8 ∧ i = .int .i64 k ∧ Hid (bf .u8 27 u B5 (pz 32 ((kF ⟨xa, xb, xc, xd, xe, xf, xg, xh⟩).take (4 * k)))) ∧ Hid (Below B5 WN u)) (fun i _ => 8 - (intOf i).toNat)
     case atStart => exact ⟨0, by omega, rfl, Pf, aa (Below.refl _ _)⟩
     case round =>
      obtain ⟨k4, hk4, rfl, MK, mq⟩ := hrel
      by_cases hlk : k4 < 8
      ·
       have Tv := KI xa xb xc xd xe xf xg xh k4 hlk
       obtain ⟨v0, e1⟩ : ∃ x, (St.mk xa xb xc xd xe xf xg xh).list.getD k4 0 = x := ⟨_, rfl⟩
       rw [e1] at Tv
       have E1 := aa e1
       clear e1
       go_wp2
       go_loopw [42] (fun j u => ∃ m : Nat, m ≤ 4 ∧ j = .int .i64 m ∧ Hid (bf .u8 27 u B5 (pz 32 ((kF ⟨xa, xb, xc, xd, xe, xf, xg, xh⟩).take (4 * k4 + m)))) ∧ Hid (Below B5 WN u)) (fun j _ => 4 - (intOf j).toNat)
       case atStart => exact ⟨0, by omega, rfl, MK, mq⟩
       case round =>
        obtain ⟨m, hm, rfl, p_, Qi⟩ := hrel
        by_cases hlm : m < 4
        ·
         have hol : (kF ⟨xa, xb, xc, xd, xe, xf, xg, xh⟩).length = 32 := oW _
         have hc := p_.out.cell (j := 4 * k4 + m) (by rw [Cw (by rw [List.length_take, hol]; omega)]; omega)
         have hf := p_.out.free (4 * k4 + m)
         have hst := zo (N := 32) (k := 4 * k4 + m) (l := kF ⟨xa, xb, xc, xd, xe, xf, xg, xh⟩) (by rw [hol]; omega) (by omega)
         rw [Fa _ k4 hlk m hlm, E1.out] at hst
         obtain ⟨q, hq⟩ : ∃ q, v0 / 2 ^ (24 - 8 * m) = q := ⟨_, rfl⟩
         rw [hq] at hst
         have HC := hc
         have j0 : (0 : Int) ≤ 24 - 8 * m := by omega
         have j1 : (24 - 8 * (m : Int)).toNat = 24 - 8 * m := by omega
         have j2 : (4 * (k4 : Int) + m).toNat = 4 * k4 + m := by omega
         obtain ⟨WV, OH⟩ : ∃ u, wr.setCell ⟨B5, 4 * k4 + m, none⟩ (.int .u8 (q % 256)) = u := ⟨_, rfl⟩
         have HB2 : Hid (bf .u8 27 WV B5 (pz 32 ((kF ⟨xa, xb, xc, xd, xe, xf, xg, xh⟩).take (4 * k4 + (m + 1))))) := aa (by
          rw [← OH, show 4 * k4 + (m + 1) = 4 * k4 + m + 1 by omega, ← hst]
          exact p_.out.set)
         have Qh : Hid (Below B5 WN WV) := aa (by rw [← OH]; exact Qi.out.setCell (Nat.le_refl _) _)
         clear hst p_ Qi hol HC
         go_wp2
         try go_region
         try (rw [hq])
         try (rw [OH])
         go_wp2
         go_roundw
         case rel => exact ⟨m + 1, by omega, by go_num, HB2, Qh⟩
         case measure => simp [intOf]; omega
        ·
         have HB2 : Hid (bf .u8 27 wr B5 (pz 32 ((kF ⟨xa, xb, xc, xd, xe, xf, xg, xh⟩).take (4 * (k4 + 1))))) := aa (by
          have h := p_.out
          rwa [show 4 * k4 + m = 4 * (k4 + 1) by omega] at h)
         clear p_
         go_wp2
         go_roundw
         case rel => exact ⟨k4 + 1, by omega, by go_num, HB2, Qi⟩
         case measure => simp [intOf]; omega
      ·
       have JL : Hid (bf .u8 27 wr B5 (nQ l)) := aa (by
        have h := MK.out
        rwa [show 4 * k4 = (kF ⟨xa, xb, xc, xd, xe, xf, xg, xh⟩).length by rw [oW]; omega, List.take_length, zq (oW _), ← Pq.out] at h)
       have Gd := aa (y9.out.trans (mq.out.mono hbr))
       have L9 : Hid (bf .u8 27 wr w.heap.size (aR 32)) := aa (jT.out.keepB (by have := rJ.out; omega) Gd.out)
       have fO : Hid (Below w.heap.size w (wr.setRow w.heap.size (arr .u8 (nQ l)))) := aa (ah (ag cK.out Gd.out) (Nat.le_refl _))
       have HRR : Hid (bf .u8 27 (wr.setRow w.heap.size (arr .u8 (nQ l))) w.heap.size (nQ l)) := aa L9.out.setRow
       clear MK mq
       go_wp2_with (first
        | ((with_reducible show wpList _ _ _ (⟨some 58, _, _, _, _, _⟩ :: _) _ _); refine wpList_load_row rfl 27 _ rfl B5 rfl _ _ _ _ JL.out Tryz.underlying27 rfl (aF (eX l)) ?_)
        | ((with_reducible show wpList _ _ _ (⟨none, _, _, _, _, _⟩ :: _) _ _); refine wpList_store_row rfl 27 _ _ rfl w.heap.size (arr .u8 (nQ l)) rfl rfl _ _ L9.out (aF (eX l)) (dF rfl (eX l)) (bF _) ?_))
       exact bodyPost_ret (v := .agg (arr .u8 (nQ l))) (results_cell_row (p := 2) (ty := 27) rfl _ _ w.heap.size _ _ _ _ rfl HRR.out Tryz.underlying27 rfl (aF (eX l))) rfl ⟨rfl, fO.out⟩
  ·
   have hN : N < n + 1 + lI n := by unfold lI at hN1 hpz ⊢; omega
   have t1 : ((N : Int) % 64 == 56) = false := by simp; omega
   have t2 : ((N : Int) % 64 != 56) = true := by simp; omega
   have hown := HO.out.row hll
   have hbs := aG.out.size
   have NF := aa hll
   clear hend hll
   go_wp2_with (at_builtin; refine wpList_append_own _ rfl _ _ 78 rfl W.heap.size 5 i0 (.int .u8 0) 1 1 Tryz.underlying78 hi hz0 hz1 hz2 rfl (by decide) _ _ _ rfl (hown.alloc _) ⟨wr.heap.size, 0, none⟩ 1 1 [.int .u8 0] rfl rfl (cell_one_new _ _ _) (ints_oneCell .u8 [0]) (by unfold maxLen; omega) (by omega) (by simp; omega) ?_; intro v2 w2 hown2 hgrow2 _)
   have Bo : Hid (aX .u8 5 w2 W.heap.size v2 (l ++ [128] ++ List.replicate (N + 1 - n - 1) 0)) := aa (by
    rw [show N + 1 - n - 1 = (N - n - 1) + 1 by omega, Cq, ← List.append_assoc]
    exact aX.app NF.out.symm rfl hown2)
   have Eg : Hid (Below W.heap.size W w2) := aa (HO.out.below aG.out hbs hgrow2)
   clear hown hown2 hgrow2 HO
   obtain ⟨A3, c3, e3, _⟩ := Bo.out.sk
   have e4 : (l ++ [128] ++ List.replicate (N + 1 - n - 1) 0).length = N + 1 := by simp [hn.out]; omega
   rw [e4] at e3
   subst e3
   clear e4
   go_wp2
   go_roundw
   case rel => exact ⟨N + 1, A3, c3, by omega, by omega, rfl, Bo, Eg⟩
   case measure => simp [lenOf]; omega
def aO (s : ByteArray) : List Int := s.data.toList.map fun c => (c.toNat : Int)
theorem aN (s : ByteArray) : (aO s).length = s.size := by simp [aO]
theorem jP (s : ByteArray) : au (aO s) = true := by
 refine List.all_eq_true.2 fun x hx => ?_
 obtain ⟨c, _, rfl⟩ := List.mem_map.1 hx
 have := c.toNat_lt
 simp; omega
theorem mX {w : World} {g cap : Nat} {s : ByteArray} {e : TypeId} {fr : Nat × Nat} (h : w.heap[g]? = some (.cells (bytesRow s cap) e fr)) : Sk .u8 w (some ⟨g, 0, none⟩) (aO s) := fun j hj => ⟨g, 0, rfl, by
 rw [aN] at hj
 rw [Nat.zero_add, cell_of_row _ _ j _ _ _ h, bytesRow_at s cap j (by simpa using hj)]
 simp [aO, List.getD_eq_getElem?_getD]
 rw [Array.getElem?_eq_getElem (by simpa using hj)]
 rfl⟩
theorem aX.skAt {K : IntKind} {T : TypeId} {w : World} {B g n c : Nat} {xs : List Int} (h : aX K T w B (.slice (some ⟨g, 0, none⟩) n c) xs) (h0 : 0 < xs.length) : Sk K w (some ⟨g, 0, none⟩) xs := by
 obtain ⟨g', cap', e, _, _, _, hs⟩ := h.cells h0
 simp only [Value.slice.injEq, Option.some.injEq, Addr.mk.injEq] at e
 rw [e.1.1]
 exact hs
theorem aQ {P : Program} {fn : Func} {p q : Tmp} {ty : TypeId} (h : fn.results = #[.cell p ty, .tmp q]) (tmps : Array Value) (w : World) (a : Addr) (v u : Value)
  (hp : tmps.getD p undef = .pointer (some a)) (hq : tmps.getD q undef = u) (hl : (loadVar ty a).run P w = .ok v w) : (results fn tmps).run P w = .ok (.tuple #[v, u]) w := by
 have hp' : tmps[p]?.getD undef = .pointer (some a) := by simpa using hp
 have hq' : tmps[q]?.getD undef = u := by simpa using hq
 simp [results, h, hp', hq', asAddr, hl]
def gu (h : List Int) : Value := .tuple #[.agg (arr .u8 h), .int .i64 0]
theorem ku (s : ByteArray) (hs1 : 1 ≤ s.size) (hs2 : s.size ≤ 100) (b o c : Nat) (l : List Int) (n : Nat) (hn : Hid (l.length = n)) (hn0 : 0 < n) (hbig : n ≤ 900000) (hby : Hid (au l = true)) (w : World) (hs : Hid (Sk .u8 w (some ⟨b, o, none⟩) l)) (hv : Hid (bu w)) :
  Calls Tryz.prog 85 #[.string s, .slice (some ⟨b, o, none⟩) n c] w (Rt w (gu (tagged (aO s) l))) := by
 obtain ⟨i0, hi, hz0, hz1, hz2⟩ := info_parts gq
 obtain ⟨W, hW⟩ : ∃ W, w.alloc (.cells z32 27) = W := ⟨_, rfl⟩
 have cK : Hid (Below w.heap.size w W) := aa (by rw [← hW]; exact af _ _)
 have jT : Hid (bf .u8 27 W w.heap.size (aR 32)) := aa (by
  rw [← hW, ow]
  exact bf.new _ _)
 have rJ : Hid (W.heap.size = w.heap.size + 1) := aa (by rw [← hW]; simp)
 have HS := aa (hs.out.below cK.out)
 have HV := aa (hv.out.below cK.out)
 have HW := aa hW
 have hcv := fun w => run_bytes_of_string (P := Tryz.prog) w 9 78 5 s Tryz.underlying9 Tryz.underlying78 Tryz.underlying5
 clear hW hs hv
 go_in
 go_wp2_with fail
 rw [HW.out]
 clear hcv HW
 obtain ⟨Wc, hWc⟩ : ∃ u, (W.alloc (.cells (bytesRow s (grownCap W s.size 0 5)) 5 ((bytesRow s (grownCap W s.size 0 5)).size, (bytesRow s (grownCap W s.size 0 5)).size + 1))).drew = u := ⟨_, rfl⟩
 have qf : Hid (Below W.heap.size W Wc) := aa (by rw [← hWc]; exact (af _ _).drew)
 have HSc : Hid (Sk .u8 Wc (some ⟨w.heap.size + 1, 0, none⟩) (aO s)) := aa (by
  rw [← hWc, ← rJ.out]
  exact mX (heap_alloc_new W _))
 obtain ⟨gc, hgc⟩ : ∃ g, grownCap W s.size 0 5 = g := ⟨_, rfl⟩
 rw [hWc, hgc]
 clear hWc hgc
 refine (rV (w.heap.size + 1) 0 gc (aO s) s.size (aa (aN s)) (by omega) (aa (jP s)) _ HSc (aa (HV.out.below qf.out))).mono ?_
 rintro e w1 ⟨rfl, hb1⟩
 have HB1 := aa (ag qf.out hb1)
 clear hb1 HSc qf
 obtain ⟨t, ht⟩ : ∃ t, nQ (aO s) = t := ⟨_, rfl⟩
 have htl : t.length = 32 := by rw [← ht]; exact eX _
 have htb : au t = true := by rw [← ht]; exact gY _
 have HT : Kp (nQ (aO s) = t) := ⟨ht⟩
 have GQ := aa htl
 have Uv := aa htb
 rw [ht]
 clear ht htl htb
 go_upto_region 4 with ((with_reducible show wpList _ _ _ (⟨none, _, _, _, _, _⟩ :: _) _ _); refine wpList_store_row rfl 27 _ _ rfl w1.heap.size (arr .u8 t) rfl rfl _ _ (heap_alloc_new _ _) (aF GQ.out) (dF (l := aR 32) rfl GQ.out) (bF _) ?_)
 rw [World.setRow_alloc_new]
 simp only [Act.put]
 have HB2 := aa (ag HB1.out (af w1 (.cells (arr .u8 t) 27)))
 have HT2 : Hid (bf .u8 27 (w1.alloc (.cells (arr .u8 t) 27)) w1.heap.size t) := aa (bf.new _ _)
 obtain ⟨W2, hW2⟩ : ∃ u, w1.alloc (.cells (arr .u8 t) 27) = u := ⟨_, rfl⟩
 have D8 : Hid (w1.heap.size < W2.heap.size) := aa (by rw [← hW2]; simp)
 rw [hW2] at HB2 HT2 ⊢
 clear hW2 HB1
 obtain ⟨gt, hgt⟩ : ∃ g, w1.heap.size = g := ⟨_, rfl⟩
 rw [hgt] at HT2 D8 ⊢
 clear hgt
 have EB := aa ((Below.refl W2.heap.size W2).drew)
 have GM := aa (HT2.out.below EB.out)
 have HB3 := aa (ag HB2.out EB.out)
 obtain ⟨Wd, hWd⟩ : ∃ u, W2.drew = u := ⟨_, rfl⟩
 refine bq (S := fun w' => True) (E := []) (by kernel_rfl) (trivial) (fun hHeld => ?_)
 refine bz 0 ?_
 refine bz 2 ?_
 refine bz 4 ?_
 refine dK 1 fun K hK => ?_
 go_simp
 try rw [hWd]
 rw [hWd] at EB GM HB3
 refine (Tryz.bytes_Clone_at ⟨gt, 0, none⟩ 32 32 t _ GQ.out (by decide) (GM.out.sk.at_add GQ.out)).mono ?_
 rintro e w3 ⟨v3, rfl, ho3, Tp, hb3⟩
 refine hK.out _ _ ?_ (fun hHeld => ?_)
 · trivial
 clear hK K
 try simp only [qq]
 refine dK 3 fun K hK => ?_
 have rM := aa (HS.out.below (ag HB3.out hb3))
 have HT3 := aa (GM.out.below hb3)
 have hbz := hb3.size
 refine step_append_lies _ (by rfl) _ _ _ (by rfl) (Wd.heap.size) 5 i0 _ 1 1 Tryz.underlying78 hi hz0 hz1 hz2 rfl (by omega) v3 32 (t.map (.int .u8)) (by rfl) (ho3) ⟨gt, 0, none⟩ 32 32 (t.map (.int .u8)) (by rfl) (by simp [GQ.out, hn.out]) (HT3.out.sk.news) (ints_oneCell .u8 _) (by omega) (by unfold maxLen; omega) (by omega) (by omega) (w3.heap.size) (rfl) ?_
 intro g4 cap4 w4 zJ xL Lf Ot
 have qg := aa (Below.grown hb3 xL (by omega) (fun j hj => (World.ownsRow.lt ho3 j hj).1))
 refine hK.out _ _ ?_ (fun hHeld => ?_)
 · trivial
 clear hK K
 try simp only [qq]
 refine dK 5 fun K hK => ?_
 have wH := aa ((HS.out.below HB3.out).below qg.out)
 have TF := qg.out.size
 refine step_append_lies _ (by rfl) _ _ _ (by rfl) (Wd.heap.size) 5 i0 _ 1 1 Tryz.underlying78 hi hz0 hz1 hz2 rfl (by omega) (.slice (some ⟨g4, 0, none⟩) (32 + 32) cap4) (32 + 32) (t.map (.int .u8) ++ t.map (.int .u8)) (by rfl) (zJ) ⟨b, o, none⟩ n c (l.map (.int .u8)) (by rfl) (by simp [GQ.out, hn.out]) (wH.out.news) (ints_oneCell .u8 _) (by omega) (by unfold maxLen; omega) (by omega) (by omega) (w4.heap.size) (rfl) ?_
 intro g5 cap5 w5 hown5 IG TH Tt
 have mD := aa (Below.grown qg.out IG (by omega) (fun j hj => (World.ownsRow.lt zJ j hj).1))
 have Md : Hid (aX .u8 5 w5 Wd.heap.size (.slice (some ⟨g5, 0, none⟩) (32 + 32 + n) cap5) (t ++ t ++ l)) := aa (aX.app (by rw [List.length_append, GQ.out]) hn.out.symm (by rw [List.map_append]; exact hown5))
 refine hK.out _ _ ?_ (fun hHeld => ?_)
 · trivial
 clear hK K
 try simp only [qq]
 refine dK 6 fun K hK => ?_
 go_simp
 have Ob := Md.out.skAt (by simp [hn.out]; omega)
 refine (rV g5 0 cap5 (t ++ t ++ l) (32 + 32 + n) (aa (by simp [hn.out, GQ.out]; omega)) (by omega) (aa (by rw [aT, aT, Uv.out, hby.out]; rfl)) _ (aa Ob) (aa ((HV.out.below HB3.out).below mD.out))).mono ?_
 rintro e w6 ⟨rfl, hb6⟩
 have El := aa (mD.out.trans (hb6.mono mD.out.size))
 refine hK.out _ _ ?_ (fun hHeld => ?_)
 · trivial
 clear hK K
 try simp only [qq]
 refine dK 7 fun K hK => ?_
 rw [show (if Region.wanted _ _ = true then _ else _ : Prop) = _ from if_pos rfl]
 refine wp_store_row 27 _ _ rfl w.heap.size (arr .u8 (nQ (t ++ t ++ l))) rfl rfl 27 _ (((jT.out.below HB3.out)).below El.out) (aF (eX _)) (dF rfl (eX _)) (bF _) ?_
 refine hK.out _ _ ?_ (fun hHeld => ?_)
 · trivial
 clear hK K
 try simp only [qq]
 refine bz 8 ?_
 refine kT ?_
 have HRR : Hid (bf .u8 27 (w6.setRow w.heap.size (arr .u8 (nQ (t ++ t ++ l)))) w.heap.size (nQ (t ++ t ++ l))) := aa ((jT.out.below HB3.out).below El.out).setRow
 have fO : Hid (Below w.heap.size w (w6.setRow w.heap.size (arr .u8 (nQ (t ++ t ++ l))))) := aa (ah (ag cK.out (ag HB3.out El.out)) (Nat.le_refl _))
 have RP : Kp (tagged (aO s) l = nQ (t ++ t ++ l)) := ⟨by rw [tagged, HT.out]⟩
 obtain ⟨R, hR⟩ : ∃ R, nQ (t ++ t ++ l) = R := ⟨_, rfl⟩
 have hRl : R.length = 32 := by rw [← hR]; exact eX _
 rw [hR] at HRR fO RP ⊢
 obtain ⟨w8, hw8⟩ : ∃ u, w6.setRow w.heap.size (arr .u8 R) = u := ⟨_, rfl⟩
 rw [hw8] at HRR fO ⊢
 have PO : Kp ((loadVar 27 ⟨w.heap.size, 0, none⟩).run Tryz.prog w8 = .ok (.agg (arr .u8 R)) w8) := ⟨run_loadVar_row _ _ _ _ _ _ _ HRR.out Tryz.underlying27 rfl (aF hRl)⟩
 clear hR hRl hw8
 go_wp2
 exact bodyPost_ret (v := gu R) (aQ (p := 4) (q := 5) (ty := 27) rfl _ _ ⟨w.heap.size, 0, none⟩ _ _ rfl rfl PO.out) rfl ⟨by rw [RP.out], fO.out⟩
inductive It where
 | int (n : Int)
 | byt (b : List Int)
 | lst (l : List It)
def fits : Nat → It → Prop
 | _, .int n => -9223372036854775808 ≤ n ∧ n < 9223372036854775808
 | _, .byt b => (0 < b.length ∧ b.length < 1000000) ∧ au b = true
 | 0, .lst _ => False
 | d + 1, .lst l => l.length ≤ 1000 ∧ ∀ x ∈ l, fits d x
def yK (n : Int) : List Int := [n / 16777216 % 256, n / 65536 % 256, n / 256 % 256, n % 256]
theorem iU (n : Int) : (yK n).length = 4 := rfl
mutual
def enc : It → List Int
 | .int n => 1 :: jb (n % 18446744073709551616)
 | .byt b => 2 :: (yK b.length ++ b)
 | .lst l => 3 :: (yK l.length ++ eF l)
def eF : List It → List Int
 | [] => []
 | i :: l => enc i ++ eF l
end
theorem vB (a b : List It) : eF (a ++ b) = eF a ++ eF b := by
 induction a with
 | nil => simp [eF]
 | cons x a ih => simp [eF, ih]
theorem om (n : Int) : enc (.int n) = 1 :: jb (n % 18446744073709551616) := by simp [enc]
theorem iO (b : List Int) : enc (.byt b) = 2 :: (yK b.length ++ b) := by simp [enc]
theorem iN (l : List It) : enc (.lst l) = 3 :: (yK l.length ++ eF l) := by simp [enc]
theorem zN (i : It) : 0 < (enc i).length := by cases i <;> simp [enc]
instance QA : Inhabited It := ⟨.int 0⟩
theorem rC {l : List It} {k : Nat} (hk : k < l.length) : eF (l.take (k + 1)) = eF (l.take k) ++ enc (l.getD k default) := by
 rw [List.take_add_one, List.getElem?_eq_getElem hk, List.getD_eq_getElem?_getD, List.getElem?_eq_getElem hk, vB]
 simp [eF]
theorem sI {l : List It} {k : Nat} : (eF (l.take k)).length ≤ (eF l).length := by
 conv => rhs; rw [← List.take_append_drop k l]
 rw [vB, List.length_append]
 omega
theorem mZ (n : Int) : au (yK n) = true := by simp [au, yK, pg]
theorem rA {d : Nat} {i : It} (h : fits d i) : au (enc i) = true := by
 induction d generalizing i with
 | zero =>
  cases i with
  | int n => rw [om, show (1 :: jb (n % 18446744073709551616) : List Int) = [1] ++ jb (n % 18446744073709551616) from rfl, aT, jR]; rfl
  | byt b => rw [iO, show (2 :: (yK b.length ++ b) : List Int) = [2] ++ (yK b.length ++ b) from rfl, aT, aT, mZ, h.2]; rfl
  | lst l => exact absurd h (by simp [fits])
 | succ d ih =>
  cases i with
  | int n => rw [om, show (1 :: jb (n % 18446744073709551616) : List Int) = [1] ++ jb (n % 18446744073709551616) from rfl, aT, jR]; rfl
  | byt b => rw [iO, show (2 :: (yK b.length ++ b) : List Int) = [2] ++ (yK b.length ++ b) from rfl, aT, aT, mZ, h.2]; rfl
  | lst l =>
   rw [iN, show (3 :: (yK l.length ++ eF l) : List Int) = [3] ++ (yK l.length ++ eF l) from rfl, aT, aT, mZ]
   have hl : ∀ (m : List It), (∀ x ∈ m, fits d x) → au (eF m) = true := by
    intro m hm
    induction m with
    | nil => rfl
    | cons x m Tc => rw [eF, aT, ih (hm x (by simp)), Tc (fun y hy => hm y (by simp [hy]))]; rfl
   rw [hl l h.2]; rfl
structure Ic where
 (kind n : Int)
 (B : Option Addr)
 (nb cb : Nat)
 (L : Option Addr)
 (nl cl : Nat)
def Ic.cs (c : Ic) : Array Value := #[.int .i64 c.kind, .int .i64 c.n, .slice c.B c.nb c.cb, .slice c.L c.nl c.cl]
def Ic.val (c : Ic) : Value := .agg c.cs
def Four (w : World) (b o : Nat) (c : Ic) : Prop := w.cell? ⟨b, o, none⟩ = some (.int .i64 c.kind) ∧ w.cell? ⟨b, o + 1, none⟩ = some (.int .i64 c.n) ∧ w.cell? ⟨b, o + 2, none⟩ = some (.slice c.B c.nb c.cb) ∧ w.cell? ⟨b, o + 3, none⟩ = some (.slice c.L c.nl c.cl)
theorem Four.below {w w' : World} {b o : Nat} {c : Ic} (h : Four w b o c) (hb : Below w.heap.size w w') : Four w' b o c :=
 ⟨cell_below h.1 hb, cell_below h.2.1 hb, cell_below h.2.2.1 hb, cell_below h.2.2.2 hb⟩
inductive nM (w : World) : It → Ic → Prop
 | int (n : Int) (c : Ic) (h1 : c.kind = 1) (h2 : c.n = n) (h3 : c.nb = 0) (h4 : c.nl = 0) : nM w (.int n) c
 | byt (b : List Int) (c : Ic) (h1 : c.kind = 2) (h2 : c.n = 0) (h3 : c.nb = b.length) (h4 : c.nl = 0) (h5 : Sk .u8 w c.B b) : nM w (.byt b) c
 | lst (l : List It) (c : Ic) (h1 : c.kind = 3) (h2 : c.n = 0) (h3 : c.nb = 0) (h4 : c.nl = l.length) (f : Nat → Ic)
   (h5 : ∀ k, k < l.length → ∃ b o, c.L = some ⟨b, o, none⟩ ∧ Four w b (o + k * 4) (f k)) (h6 : ∀ k, k < l.length → nM w (l.getD k default) (f k)) : nM w (.lst l) c
theorem nM.kept {w w' : World} {i : It} {c : Ic} (h : nM w i c) (hb : Below w.heap.size w w') : nM w' i c := by
 induction h with
 | int n c h1 h2 h3 h4 => exact .int n c h1 h2 h3 h4
 | byt b c h1 h2 h3 h4 h5 => exact .byt b c h1 h2 h3 h4 (h5.below hb)
 | lst l c h1 h2 h3 h4 f h5 h6 ih =>
  refine .lst l c h1 h2 h3 h4 f (fun k hk => ?_) ih
  obtain ⟨b, o, e, h⟩ := h5 k hk
  exact ⟨b, o, e, h.below hb⟩
theorem u_ {w w1 w2 : World} {r r1 : Option Nat} (h : w.grownBy w1 r) (h2 : w1.grownBy w2 r1) (hr : r1 = r ∨ ∀ g, r1 = some g → w.heap.size ≤ g) : w.grownBy w2 r := by
 refine ⟨h2.os.trans h.os, h2.tape.trans h.tape, h2.output.trans h.output, Nat.le_trans h.size h2.size, fun k hk hne => ?_⟩
 refine (h2.block k (Nat.lt_of_lt_of_le hk h.size) ?_).trans (h.block k hk hne)
 intro e
 rcases hr with hr | hr
 · exact hne (by rw [e, hr])
 · have := hr k e.symm; omega
def App (base : Nat) (w : World) (v : Value) (xs ys : List Int) (w' : World) (v' : Value) : Prop :=
 aX .u8 5 w' base v' (xs ++ ys) ∧ w.grownBy w' v.ownBlock ∧ (v'.ownBlock = v.ownBlock ∨ ∀ g, v'.ownBlock = some g → w.heap.size ≤ g)
theorem App.refl {base : Nat} {w : World} {v : Value} {xs : List Int} (h : aX .u8 5 w base v xs) : App base w v xs [] w v :=
 ⟨by rw [List.append_nil]; exact h, World.grownBy.refl _ _, Or.inl rfl⟩
theorem App.trans {base : Nat} {w w1 w2 : World} {v v1 v2 : Value} {xs ys zs : List Int} (h : App base w v xs ys w1 v1) (h2 : App base w1 v1 (xs ++ ys) zs w2 v2) : App base w v xs (ys ++ zs) w2 v2 := by
 refine ⟨by rw [← List.append_assoc]; exact h2.1, u_ h.2.1 h2.2.1 h.2.2, ?_⟩
 rcases h2.2.2 with e | e
 ·
  rcases h.2.2 with e1 | e1
  · exact Or.inl (e.trans e1)
  · exact Or.inr fun g hg => e1 g (e ▸ hg)
 · exact Or.inr fun g hg => Nat.le_trans h.2.1.size (e g hg)
theorem App.alloc {base : Nat} {w : World} {v : Value} {xs : List Int} (h : aX .u8 5 w base v xs) (o : Obj) : App base w v xs [] (w.alloc o) v :=
 ⟨by rw [List.append_nil]; exact h.keep (af _ _), World.grownBy_alloc _ _ _, Or.inl rfl⟩
theorem App.pre {base : Nat} {w w1 w2 : World} {v v1 v2 : Value} {xs ys : List Int} (h : App base w v xs [] w1 v1) (h2 : App base w1 v1 xs ys w2 v2) : App base w v xs ys w2 v2 := by
 have h3 : App base w v xs ([] ++ ys) w2 v2 := h.trans (by rw [List.append_nil]; exact h2)
 exact h3
theorem App.calm {base : Nat} {w w1 : World} {v : Value} {xs : List Int} (h : aX .u8 5 w base v xs) (hb : Below w.heap.size w w1) : App base w v xs [] w1 v :=
 ⟨by rw [List.append_nil]; exact h.keep hb, ⟨hb.os, hb.tape, hb.output, hb.size, fun k hk _ => hb.block k hk⟩, Or.inl rfl⟩
theorem App.below {B base : Nat} {w0 w w' : World} {v v' : Value} {xs ys : List Int} (h : App base w v xs ys w' v') (ho : aX .u8 5 w base v xs) (hb : Below B w0 w) (hB : B ≤ base) (hBw : B ≤ w.heap.size) : Below B w0 w' :=
 hb.grown h.2.1 hBw (fun j hj => Nat.le_trans hB (aX.lt ho j hj).1)
theorem App.cell {base : Nat} {w w' : World} {v v' : Value} {xs ys : List Int} (h : App base w v xs ys w' v') {p : Addr} {u : Value} (hc : w.cell? p = some u) (hne : v.ownBlock ≠ some p.block) : w'.cell? p = some u :=
 h.2.1.cell hc (Ne.symm hne)
theorem App.of_lies {base n m : Nat} {w w1 : World} {v : Value} {xs ys : List Int} {g cap H : Nat} (hn : xs.length = n) (hm : ys.length = m) (hH : w.heap.size = H)
  (h1 : w1.ownsRow base 5 1 (.slice (some ⟨g, 0, none⟩) (n + m) cap) (n + m) (xs.map (Value.int .u8) ++ ys.map (Value.int .u8))) (h2 : w.grownBy w1 v.ownBlock) (h3 : v.ownBlock = some g ∨ g = H) : App base w v xs ys w1 (.slice (some ⟨g, 0, none⟩) (n + m) cap) :=
 ⟨aX.app hn.symm hm.symm h1, h2, h3.elim (fun e => Or.inl e.symm) (fun e => Or.inr fun k hk => by cases hk; show w.heap.size ≤ g; omega)⟩
section
variable {P : Program}
theorem wpList_append_lies {ops : Array Oper} {rest : List Oper} {o : Oper} {a : Act} {w : World} {Q : Exit → Act → World → Prop} (hgd : o.guard = none) (s x : Operand) (t : TypeId)
  (ho : o.op = .call { callee := .builtin .append, args := #[s, x], argTypes := #[t, t] })
  (base : Nat) (e : TypeId) (i : TypeInfo) (z : Value) (size bytes : Nat) (ht : P.underlying t = some (.slice e)) (hi : P.info? e = some i) (hz : i.zero = some z)
  (hsize : i.size = size) (hby : i.bytes = bytes) (hzs : z.cells.size = size) (hsz : 0 < size)
  (v : Value) (n : Nat) (xs : List Value) (hs : a.eval s = v) (hown : w.ownsRow base e size v n xs)
  (ad : Addr) (m c : Nat) (news : List Value) (hx : a.eval x = .slice (some ad) m c) (hl : news.length = m * size) (hnews : ∀ j u, news[j]? = some u → w.cell? (ad.add j) = some u) (h1 : ∀ u ∈ news, u.oneCell' = true)
  (hm : 0 < m) (h63 : n + m ≤ maxLen) (hbytes : (n + m) * bytes ≤ 140737488355328) (hbase : base ≤ w.heap.size) (H : Nat) (hH : w.heap.size = H)
  (h : ∀ g cap w', w'.ownsRow base e size (.slice (some ⟨g, 0, none⟩) (n + m) cap) (n + m) (xs ++ news) → w.grownBy w' v.ownBlock → (v.ownBlock = some g ∨ g = H) → g < w'.heap.size → wpList P ops Q rest (a.put o.dst (.slice (some ⟨g, 0, none⟩) (n + m) cap)) w') :
  wpList P ops Q (o :: rest) a w :=
 wpList_plain hgd fun _ hK => wp_append_lies w s x t ho base e i z size bytes ht hi hz hsize hby hzs hsz v n xs hs hown ad m c news hx hl hnews h1 hm h63 hbytes hbase H hH fun g cap w' a1 a2 a3 a4 => hK _ _ (h g cap w' a1 a2 a3 a4)
end
def nU (s : Nat) (n : Int) : List Int := if s = 8 then jb n else yK n
theorem l7 {s : Nat} (h : s = 4 ∨ s = 8) (n : Int) : (nU s n).length = s := by rcases h with rfl | rfl <;> rfl
theorem zU {s : Nat} (h : s = 4 ∨ s = 8) (n : Int) (j : Nat) (hj : j < s) : (nU s n).getD j 0 = n / 2 ^ (8 * (s - 1 - j)) % 256 := by
 rcases h with rfl | rfl
 · rcases (show j = 0 ∨ j = 1 ∨ j = 2 ∨ j = 3 by omega) with rfl | rfl | rfl | rfl <;> simp [nU, yK]
 · rcases (show j = 0 ∨ j = 1 ∨ j = 2 ∨ j = 3 ∨ j = 4 ∨ j = 5 ∨ j = 6 ∨ j = 7 by omega) with rfl | rfl | rfl | rfl | rfl | rfl | rfl | rfl <;> simp [nU, jb]
def jF (base : Nat) (v : Value) (xs ys : List Int) (w : World) (e : Ending) (w' : World) : Prop := ∃ v', e = .returned v' ∧ App base w v xs ys w' v'
theorem jB (base : Nat) (v : Value) (xs : List Int) (N : Nat) (n : Int) (s : Nat) (hs : s = 4 ∨ s = 8) (hN : Hid (xs.length = N)) (hbig : N ≤ 20000) (w : World) (ho : Hid (aX .u8 5 w base v xs)) (hbase : base ≤ w.heap.size) :
  Calls Tryz.prog 133 #[v, .int .u64 n, .int .i64 s] w (jF base v xs (nU s n) w) := by
 obtain ⟨i0, hi, hz0, hz1, hz2⟩ := info_parts gq
 have s1 : 4 ≤ s := by omega
 have s2 : s ≤ 8 := by omega
 have Ez := aa hs
 clear hs
 go_in
 go_wp2
 go_loopw [0, 7] (fun p i u => ∃ k : Nat, k ≤ s ∧ i = .int .i64 ((s : Int) - 1 - (k : Int)) ∧ Hid (App base w v xs ((nU s n).take k) u p)) (fun _ i _ => (intOf i + 1).toNat)
 case atStart => exact ⟨0, by omega, by simp, aa (App.refl ho.out)⟩
 case round =>
  obtain ⟨k, hk, rfl, HA⟩ := hrel
  by_cases hlt : k < s
  ·
   obtain ⟨q, hq⟩ : ∃ q, n / 2 ^ (8 * (s - 1 - k)) = q := ⟨_, rfl⟩
   have GR : Hid ((nU s n).take (k + 1) = (nU s n).take k ++ [q % 256]) := aa (by rw [take_one (by rw [l7 Ez.out]; exact hlt), zU Ez.out n k hlt, hq])
   have wI : Hid ((xs ++ (nU s n).take k).length = N + k) := aa (by rw [List.length_append, List.length_take, l7 Ez.out, hN.out]; omega)
   have j0 : (0 : Int) ≤ 8 * ((s : Int) - 1 - (k : Int)) := by omega
   have j1 : (8 * ((s : Int) - 1 - (k : Int))).toNat = 8 * (s - 1 - k) := by omega
   have hown := (HA.out.1.row wI.out)
   have hbs : base ≤ wr.heap.size := Nat.le_trans hbase HA.out.2.1.size
   have d1 : (0 : Int) ≤ (s : Int) - 1 - (k : Int) := by omega
   go_wp2_with (at_builtin; refine wpList_append_lies rfl _ _ 78 rfl base 5 i0 (.int .u8 0) 1 1 Tryz.underlying78 hi hz0 hz1 hz2 rfl (by decide) _ _ _ rfl (hown.alloc _) ⟨wr.heap.size, 0, none⟩ 1 1 [.int .u8 (q % 256)] rfl rfl (cell_one_new _ _ _) (ints_oneCell .u8 [q % 256]) (by decide) (by unfold maxLen; omega) (by omega) (by simp; omega) _ rfl ?_; intro g cap w2 hown2 hgrow2 mP hlt2)
   have HA2 := App.of_lies (v := u0) (xs := xs ++ (nU s n).take k) (ys := [q % 256]) wI.out rfl rfl hown2 hgrow2 mP
   have EE : Hid (App base w v xs ((nU s n).take (k + 1)) w2 (.slice (some ⟨g, 0, none⟩) (N + k + 1) cap)) := aa (by
    rw [GR.out]
    exact HA.out.trans ((App.alloc HA.out.1 _).pre HA2))
   clear hown hown2 hgrow2 mP HA HA2
   go_roundw
   case rel => exact ⟨k + 1, by omega, by go_num, EE⟩
   case measure => simp [intOf]; omega
  ·
   have HF : Hid (App base w v xs (nU s n) wr u0) := aa (by
    have h := HA.out
    rwa [show k = (nU s n).length by rw [l7 Ez.out]; omega, List.take_length] at h)
   have d1 : (s : Int) - 1 - (k : Int) < 0 := by omega
   clear HA
   go_wp2
   go_ret
   exact ⟨_, rfl, HF.out⟩
def lQ (c : Ic) : Obj := .cells #[.int .i64 c.kind, .int .i64 c.n, .slice c.B c.nb c.cb, .slice c.L c.nl c.cl] 142
theorem f_ (w : World) (c : Ic) : Four (w.alloc (lQ c)) w.heap.size 0 c := by
 have h := heap_alloc_new w (lQ c)
 exact ⟨aj h 0, aj h 1, aj h 2, aj h 3⟩
theorem Four.get {w : World} {b o : Nat} {c : Ic} (h : Four w b o c) : w.cell? ⟨b, o, none⟩ = some (.int .i64 c.kind) ∧ w.cell? ⟨b, o + 1, none⟩ = some (.int .i64 c.n) ∧ w.cell? ⟨b, o + 2, none⟩ = some (.slice c.B c.nb c.cb) ∧ w.cell? ⟨b, o + 3, none⟩ = some (.slice c.L c.nl c.cl) := h
def DU (g : FuncId) (caps : Array Value) (l : List It) (f : Nat → Ic) (W : World) : Prop :=
 ∀ k, k < l.length → ∀ (w1 : World), Below W.heap.size W w1 → Calls Tryz.prog g (#[(f k).val] ++ caps) w1 fun e w' => e = .returned (.bool false) ∧ Below w1.heap.size w1 w'
theorem C9 (c0 : Value) (A : Option Addr) (l : List It) (f : Nat → Ic) (n c : Nat) (hn : Hid (l.length = n)) (hbig : n ≤ 1000) (w : World)
  (hs : Hid (∀ k, k < l.length → ∃ b o, A = some ⟨b, o, none⟩ ∧ Four w b (o + k * 4) (f k))) (hp : Hid (DU 135 #[c0] l f w)) :
  Calls Tryz.prog 136 #[.slice A n c, .func (.func 135) #[] #[c0]] w (Rt w (.int .i64 (-1))) := by
 go_in
 go_wp2
 go_loopw [8] (fun i wr => ∃ k : Nat, k ≤ n ∧ i = .int .i64 k ∧ Hid (Below w.heap.size w wr)) (fun i _ => n - (intOf i).toNat)
 case atStart => exact ⟨0, by omega, rfl, aa (Below.refl _ _)⟩
 case round =>
  obtain ⟨k, hk, rfl, aG⟩ := hrel
  by_cases hlt : k < n
  ·
   have hkl : k < l.length := by rw [hn.out]; exact hlt
   obtain ⟨b, o, hA, h4⟩ := hs.out k hkl
   subst hA
   have Gb := hp.out k hkl wr aG.out
   obtain ⟨ic, hic⟩ : ∃ x, f k = x := ⟨_, rfl⟩
   rw [hic] at h4 Gb
   obtain ⟨kd, nn, B, nb, cb, L, nl, cl⟩ := ic
   obtain ⟨i0, i1, i2, i3⟩ := (h4.below aG.out).get
   have HC : Hid (Calls Tryz.prog 135 #[.agg #[.int .i64 kd, .int .i64 nn, .slice B nb cb, .slice L nl cl], c0] wr fun e w' => e = .returned (.bool false) ∧ Below wr.heap.size wr w') := aa Gb
   clear h4 hkl hic Gb
   go_wp2_with fail
   refine HC.out.mono ?_
   rintro e w2 ⟨rfl, hb0⟩
   have HB2 := aa (ag aG.out hb0)
   clear i0 i1 i2 i3 hb0 HC
   go_wp2
   go_roundw
   case rel => exact ⟨k + 1, by omega, by go_num, HB2⟩
   case measure => simp [intOf]; omega
  ·
   go_wp2
   go_ret
   exact ⟨rfl, aG.out⟩
theorem FP (c0 : Value) (A : Option Addr) (l : List It) (f : Nat → Ic) (n c : Nat) (hn : Hid (l.length = n)) (hbig : n ≤ 1000) (w : World)
  (hs : Hid (∀ k, k < l.length → ∃ b o, A = some ⟨b, o, none⟩ ∧ Four w b (o + k * 4) (f k))) (hp : Hid (DU 135 #[c0] l f w)) :
  Calls Tryz.prog 134 #[.slice A n c, .func (.func 135) #[] #[c0]] w (Rt w (.bool false)) := by
 go_in
 go_wp2_with fail
 refine (C9 c0 A l f n c hn hbig _ hs hp).mono ?_
 rintro e w' ⟨rfl, hb0⟩
 go_wp2
 go_ret
 exact ⟨rfl, hb0⟩
theorem Am (d D : Nat) (hD0 : 1 ≤ D) (hD : D ≤ 8) (a : Nat) (l : List It) (f : Nat → Ic) (hl : Hid (∀ x ∈ l, fits d x)) (w : World) (hx : Hid (w.cell? ⟨a, 0, none⟩ = some (.int .i64 (D : Int)))) (hr : Hid (∀ k, k < l.length → nM w (l.getD k default) (f k)))
  (ih : ∀ (i : It) (c : Ic) (w : World), fits d i → nM w i c → Calls Tryz.prog 132 #[c.val, .int .i64 ((D - 1 : Nat) : Int)] w (Rt w (.bool true))) :
  DU 135 #[.pointer (some ⟨a, 0, none⟩)] l f w := fun k hk w1 hb => by
 have h1 := hl.out (l.getD k default) (by rw [List.getD_eq_getElem?_getD, List.getElem?_eq_getElem hk]; exact List.getElem_mem hk)
 have h2 := (hr.out k hk).kept hb
 obtain ⟨ic, hic⟩ : ∃ x, f k = x := ⟨_, rfl⟩
 rw [hic] at h2 ⊢
 obtain ⟨it, hit⟩ : ∃ x, l.getD k default = x := ⟨_, rfl⟩
 rw [hit] at h1 h2
 have hc0 := cell_below hx.out hb
 have Mo := aa (ih it ic ((w1.alloc (lQ ic))) h1 (h2.kept (af _ _)))
 obtain ⟨kd, nn, B, nb, cb, L, nl, cl⟩ := ic
 show Calls Tryz.prog 135 #[.agg #[.int .i64 kd, .int .i64 nn, .slice B nb cb, .slice L nl cl], .pointer (some ⟨a, 0, none⟩)] w1 fun e w' => e = .returned (.bool false) ∧ Below w1.heap.size w1 w'
 have hc : (w1.alloc (.cells #[.int .i64 kd, .int .i64 nn, .slice B nb cb, .slice L nl cl] 142)).cell? ⟨a, 0, none⟩ = some (.int .i64 (D : Int)) := cell_below hc0 (af _ _)
 have e1 : IntKind.i64.wrap ((D : Int) - 1) = (D : Int) - 1 := IntWalk.i64_in _ (by omega)
 have HE : Hid (((D - 1 : Nat) : Int) = (D : Int) - 1) := aa (by omega)
 clear h1 h2 hic hit hb hc0
 go_in
 go_wp2_with fail
 rw [← HE.out]
 refine Mo.out.mono ?_
 rintro e w2 ⟨rfl, hb0⟩
 have hb1 := ag (af _ _) hb0
 clear hb0
 go_wp2
 go_ret
 exact ⟨rfl, hb1⟩
theorem oF (n : Int) (c : Ic) (w : World) (D : Nat) (h1 : c.kind = 1) (h3 : c.nb = 0) (h4 : c.nl = 0) : Calls Tryz.prog 132 #[c.val, .int .i64 (D : Int)] w (Rt w (.bool true)) := by
 obtain ⟨kd, nn, B, nb, cb, L, nl, cl⟩ := c
 dsimp only at h1 h3 h4
 subst h1; subst h3; subst h4
 show Calls Tryz.prog 132 #[.agg #[.int .i64 1, .int .i64 nn, .slice B 0 cb, .slice L 0 cl], .int .i64 (D : Int)] w (Rt w (.bool true))
 go_in
 go_wp2
 go_ret
 exact ⟨rfl, aB (Below.refl _ _)⟩
theorem oG (c : Ic) (w : World) (D : Nat) (h1 : c.kind = 2) (h2 : c.n = 0) (h4 : c.nl = 0) : Calls Tryz.prog 132 #[c.val, .int .i64 (D : Int)] w (Rt w (.bool true)) := by
 obtain ⟨kd, nn, B, nb, cb, L, nl, cl⟩ := c
 dsimp only at h1 h2 h4
 subst h1; subst h2; subst h4
 show Calls Tryz.prog 132 #[.agg #[.int .i64 2, .int .i64 0, .slice B nb cb, .slice L 0 cl], .int .i64 (D : Int)] w (Rt w (.bool true))
 go_in
 go_wp2
 go_ret
 exact ⟨rfl, aB (Below.refl _ _)⟩
theorem wU : ∀ (d D : Nat), d ≤ D → D ≤ 8 → ∀ (i : It) (c : Ic) (w : World), fits d i → nM w i c → Calls Tryz.prog 132 #[c.val, .int .i64 (D : Int)] w (Rt w (.bool true)) := by
 intro d
 induction d with
 | zero =>
  intro D TA hD i c w hf hr
  cases hr with
  | int n c h1 h2 h3 h4 => exact oF n c w D h1 h3 h4
  | byt b c h1 h2 h3 h4 h5 => exact oG c w D h1 h2 h4
  | lst l c h1 h2 h3 h4 f h5 h6 => exact absurd hf (by simp [fits])
 | succ d ih =>
  intro D TA hD i c w hf hr
  cases hr with
  | int n c h1 h2 h3 h4 => exact oF n c w D h1 h3 h4
  | byt b c h1 h2 h3 h4 h5 => exact oG c w D h1 h2 h4
  | lst l c h1 h2 h3 h4 f h5 h6 =>
   obtain ⟨kd, nn, B, nb, cb, L, nl, cl⟩ := c
   dsimp only at h1 h2 h3 h4 h5
   subst h1; subst h2; subst h3; subst h4
   show Calls Tryz.prog 132 #[.agg #[.int .i64 3, .int .i64 0, .slice B 0 cb, .slice L l.length cl], .int .i64 (D : Int)] w (Rt w (.bool true))
   obtain ⟨W, hW⟩ : ∃ W, (w.alloc (lQ ⟨3, 0, B, 0, cb, L, l.length, cl⟩)).alloc (.cells #[.int .i64 (D : Int)] 3) = W := ⟨_, rfl⟩
   have cK : Hid (Below w.heap.size w W) := aa (by rw [← hW]; exact aB (Below.refl _ _))
   have hF : Four W w.heap.size 0 ⟨3, 0, B, 0, cb, L, l.length, cl⟩ := by rw [← hW]; exact (f_ w _).below (af _ _)
   obtain ⟨i0, i1, i2, i3⟩ := hF.get
   have hd : W.cell? ⟨w.heap.size + 1, 0, none⟩ = some (.int .i64 (D : Int)) := by rw [← hW]; exact aj (heap_alloc2_new _ _ _) 0
   have hll := hf.1
   have Ki := aa (FP (.pointer (some ⟨w.heap.size + 1, 0, none⟩)) L l f l.length cl (aa rfl) hll W (aa fun k hk => by obtain ⟨b, o, e, h⟩ := h5 k hk; exact ⟨b, o, e, h.below cK.out⟩)
    (aa (Am d D (by omega) hD (w.heap.size + 1) l f (aa hf.2) W (aa hd) (aa fun k hk => (h6 k hk).kept cK.out) (ih (D - 1) (by omega) (by omega)))))
   obtain ⟨nl, hnl⟩ : ∃ x, l.length = x := ⟨_, rfl⟩
   rw [hnl] at i3 hll Ki ⊢
   rw [hnl] at hW
   have HW : Hid ((w.alloc (.cells #[.int .i64 3, .int .i64 0, .slice B 0 cb, .slice L nl cl] 142)).alloc (.cells #[.int .i64 (D : Int)] 3) = W) := aa hW
   have d1 : decide ((nl : Int) ≤ 1000) = true := by simp; omega
   have d2 : decide ((0 : Int) < (D : Int)) = true := by simp; omega
   have d3 : (0 : Int) < (D : Int) := by omega
   clear hW hF hnl h5 h6 hf ih
   go_in
   go_wp2_with fail
   rw [HW.out]
   refine Ki.out.mono ?_
   rintro e w2 ⟨rfl, hb0⟩
   have hb1 := ag cK.out hb0
   clear hb0
   go_wp2
   go_ret
   exact ⟨by simp, hb1⟩
theorem xV (i : It) (c : Ic) (w : World) (hf : fits 8 i) (hr : nM w i c) : Calls Tryz.prog 128 #[c.val] w (Rt w (.bool true)) := by
 have Mo := aa (wU 8 8 (Nat.le_refl _) (Nat.le_refl _) i c (w.alloc (lQ c)) hf (hr.kept (af _ _)))
 obtain ⟨kd, nn, B, nb, cb, L, nl, cl⟩ := c
 show Calls Tryz.prog 128 #[.agg #[.int .i64 kd, .int .i64 nn, .slice B nb cb, .slice L nl cl]] w (Rt w (.bool true))
 clear hf hr
 go_in
 go_wp2_with fail
 refine Mo.out.mono ?_
 rintro e w2 ⟨rfl, hb0⟩
 have hb1 := ag (af _ _) hb0
 clear hb0
 go_wp2
 go_ret
 exact ⟨rfl, hb1⟩
end Go.Proofs.YtgbfhcfhopadaaaGreatDoor