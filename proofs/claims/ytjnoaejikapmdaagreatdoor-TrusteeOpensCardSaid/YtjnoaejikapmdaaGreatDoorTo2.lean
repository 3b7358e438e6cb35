/- Contracts and lemmas: RefD, Sml, Slk, Sha, Byt, DigA, DigB, DigC, LawKitD, LinA, LinB, LinC, OpR, OpP, OpE, Nwt, RInv, LinD, LinE, LinF, Quiet, PolA. -/
import Derived.Deep.QuietTactic
import Derived.BigQuiet
import Derived.Deep.RegionHeld3
import Derived.WalkKit
import Derived.Laws.BitsAllLaws
import Derived.BigRegion
import Derived.Deep.WholeRow
import Derived.Deep.Cut
import Derived.ChangeMaps5
import Derived.Deep.Slices
import Derived.Deep.AppendLies
import Derived.Test.YtjnoaejikapmdaaGreatDoorTo1
namespace Go.Proofs.YtjnoaejikapmdaaGreatDoor
open Go.RowKit SpM
set_option linter.unusedVariables false
theorem rreduce_any (a m r : Int) (hr : Hid (a % m = r)) (h1 : 1 ≤ m) (h2 : m < 2305843009213693952) (ha0 : -9223372036854775808 ≤ a) (ha : a < 9223372036854775808) (w : World) :
    Calls Tryz.prog 72 #[.int .i64 a, .int .i64 m] w fun e' w' => e' = .returned (.int .i64 r) ∧ w = w' := by
  have hm : ((m : Int) == 0) = false := by simp; omega
  have hr' := hr.out
  by_cases hneg : 0 ≤ a
  · have h3 : 0 ≤ a % m := Int.emod_nonneg _ (by omega)
    have h4 : a % m < m := Int.emod_lt_of_pos _ (by omega)
    have h5 : decide (a % m < 0) = false := by simp; omega
    clear hr'
    go_enter Tryz.func72, Tryz.ntmps72
    go_wp2
    go_ret
    exact ⟨ret_int hr.out, rfl⟩
  · obtain ⟨t, ht⟩ : ∃ t, a.tmod m = t := ⟨_, rfl⟩
    have hb : -m < t ∧ t ≤ 0 := by
      rw [← ht]
      have e : a.tmod m = - ((-a) % m) := by
        rw [← Int.neg_neg a, Int.neg_tmod, Int.neg_neg, Int.tmod_eq_emod_of_nonneg (by omega)]
      have h3 : 0 ≤ (-a) % m := Int.emod_nonneg _ (by omega)
      have h4 : (-a) % m < m := Int.emod_lt_of_pos _ (by omega)
      omega
    have hrt : r = if t < 0 then t + m else t := by
      rw [← hr']
      have e : a = m * a.tdiv m + t := by rw [← ht]; exact (Int.mul_tdiv_add_tmod a m).symm
      have h6 : a % m = t % m := by rw [e, Int.mul_add_emod_self_left]
      rw [h6]
      split
      · rw [← Int.add_emod_right t m]; exact Int.emod_eq_of_lt (by omega) (by omega)
      · exact Int.emod_eq_of_lt (by omega) (by omega)
    obtain ⟨hb1, hb2⟩ := hb
    have HW : wrap64 (a.tmod m) = t := by rw [ht]; exact IntWalk.wrap64_in _ (by omega)
    clear hr' hr
    by_cases hz : t < 0
    · rw [if_pos hz] at hrt
      subst hrt
      go_enter Tryz.func72, Tryz.ntmps72
      go_wp2
      go_ret
      exact ⟨rfl, rfl⟩
    · rw [if_neg hz] at hrt
      subst hrt
      have hz2 : decide (r < 0) = false := by simp; omega
      go_enter Tryz.func72, Tryz.ntmps72
      go_wp2
      go_ret
      exact ⟨rfl, rfl⟩
theorem rvalid_any (P Q G : Int) (b : Bool) (hb : Hid (validG P Q G = b)) (hQ : Q < 9223372036854775808) (w : World) :
    Calls Tryz.prog 19 #[gv P Q G] w fun e' w' => e' = .returned (.bool b) ∧ Below w.heap.size w w' := by
  have hb' := hb.out
  unfold validG at hb'
  by_cases h0 : P < 3
  · obtain rfl : b = false := by
      cases b with
      | false => rfl
      | true => exact absurd (validG_P hb.out).2.2 (by omega)
    exact rvalid_a P Q G h0 w
  have h0' : 3 ≤ P := by omega
  by_cases h1 : P < 2305843009213693952
  · by_cases h2 : 3 ≤ Q
    · by_cases h3 : Q % 2 = 1
      · by_cases h6 : (P - 1) % Q = 0
        · by_cases h7 : 2 ≤ G
          · by_cases h8 : G < P
            · have hQP : Q < P := by have := Int.le_of_dvd (by omega) (Int.dvd_of_emod_eq_zero h6); omega
              cases h4 : isP P with
              | true =>
                cases h5 : isP Q with
                | true =>
                  refine rvalid_j P Q G h0' h1 h2 h3 hQ h6 h7 h8 hQP b h4 h5 ?_ w
                  rw [← hb']
                  simp [h1, h2, h3, h4, h5, h6, h7, h8]
                  show ((pw G Q P == 1) = decide (pw G Q P = 1))
                  rfl
                | false =>
                  obtain rfl : b = false := by rw [← hb']; simp [h5]
                  exact rvalid_i P Q G h0' h1 h2 h3 hQ h6 h7 h8 hQP h4 h5 w
              | false =>
                obtain rfl : b = false := by rw [← hb']; simp [h4]
                exact rvalid_h P Q G h0' h1 h2 h3 hQ h6 h7 h8 hQP h4 w
            · obtain rfl : b = false := by rw [← hb']; simp [h8]
              exact rvalid_g P Q G h0' h1 h2 h3 hQ h6 h7 (by omega) w
          · obtain rfl : b = false := by rw [← hb']; simp [h7]
            exact rvalid_f P Q G h0' h1 h2 h3 hQ h6 (by omega) w
        · obtain rfl : b = false := by rw [← hb']; simp [h6]
          exact rvalid_e P Q G h0' h1 h2 h3 hQ h6 w
      · obtain rfl : b = false := by rw [← hb']; simp [h3]
        exact rvalid_d P Q G h0' h1 h2 (show Q % 2 = 0 by omega) w
    · obtain rfl : b = false := by rw [← hb']; simp [h2]
      exact rvalid_c P Q G h0' h1 (by omega) w
  · obtain rfl : b = false := by rw [← hb']; simp [h1]
    exact rvalid_b P Q G h0' (by omega) w
set_option maxHeartbeats 800000 in
theorem rmember_any (P Q G x : Int) (b : Bool) (hb : Hid (memG P Q x = b)) (h1 : P < 2305843009213693952) (hQ0 : 0 ≤ Q) (hQ : Q < 9223372036854775808) (w : World) :
    Calls Tryz.prog 45 #[gv P Q G, .int .i64 x] w fun e' w' => e' = .returned (.bool b) ∧ Below w.heap.size w w' := by
  by_cases hx : 1 ≤ x
  · by_cases hx2 : x < P
    · obtain ⟨y, hy⟩ : ∃ y, pw x Q P = y := ⟨_, rfl⟩
      have g9 : ((y : Int) == 1) = b := by
        rw [← hb.out, ← hy, memG, Bool.eq_iff_iff]
        simp only [beq_iff_eq, decide_eq_true_eq]
        exact ⟨fun h => ⟨by omega, by omega, h⟩, fun h => h.2.2⟩
      have HX := Lib.hid hy
      clear hy hb
      go_enter Tryz.func45, Tryz.ntmps45
      go_wp2_with fail
      refine (rpow_any x Q P y HX (by omega) h1 (by omega) hx2 hQ0 hQ _).mono ?_
      rintro e w' ⟨rfl, rfl⟩
      go_wp2
      go_ret
      exact ⟨rfl, below_box0 _ _⟩
    · obtain rfl : b = false := by rw [← hb.out]; simp [memG]; omega
      have d2 : decide (x < P) = false := by simp; omega
      go_enter Tryz.func45, Tryz.ntmps45
      go_wp2
      go_ret
      exact ⟨rfl, below_box0 _ _⟩
  · obtain rfl : b = false := by rw [← hb.out]; simp [memG]; omega
    have d2 : decide (1 ≤ x) = false := by simp; omega
    go_enter Tryz.func45, Tryz.ntmps45
    go_wp2
    go_ret
    exact ⟨rfl, below_box0 _ _⟩
set_option maxHeartbeats 800000 in
theorem rgmul_any (P Q G a b r : Int) (hr : Hid (a * b % P = r)) (h1 : P < 2305843009213693952) (ha0 : 0 ≤ a) (ha : a < P) (hb0 : 0 ≤ b) (hb : b < P) (w : World) :
    Calls Tryz.prog 60 #[gv P Q G, .int .i64 a, .int .i64 b] w fun e' w' => e' = .returned (.int .i64 r) ∧ Below w.heap.size w w' := by
  go_enter Tryz.func60, Tryz.ntmps60
  go_wp2_with fail
  refine (rmul_any a b P r hr h1 ha0 ha hb0 hb _).mono ?_
  rintro e w' ⟨rfl, rfl⟩
  go_wp2
  go_ret
  exact ⟨rfl, below_box0 _ _⟩
theorem quiet_left {P : Program} {f : FuncId} {args : Array Value} {w : World} {n : Nat} {v : Value}
    (h : Calls P f args (w.drewN n) fun e w' => e = .returned v ∧ w.drewN n = w') : Calls P f args (w.drewN n) fun e w'' => e = .returned v ∧ ∃ m, w'' = w.drewN m :=
  h.mono fun _ _ ⟨he, hm⟩ => ⟨he, n, hm.symm⟩
set_option maxHeartbeats 1600000 in
theorem rpower_any (P Q G a k r : Int) (hr : Hid (pw a (k % Q) P = r)) (h1 : 1 ≤ P) (h2 : P < 2305843009213693952) (hQ0 : 1 ≤ Q) (hQ : Q < 2305843009213693952) (ha0 : 0 ≤ a) (ha : a < P) (hk0 : -9223372036854775808 ≤ k) (hk : k < 9223372036854775808) (w : World) :
    Calls Tryz.prog 61 #[gv P Q G, .int .i64 a, .int .i64 k] w fun e' w' => e' = .returned (.int .i64 r) ∧ Below w.heap.size w w' := by
  have k0 : 0 ≤ k % Q := Int.emod_nonneg _ (by omega)
  have k1 : k % Q < Q := Int.emod_lt_of_pos _ (by omega)
  obtain ⟨j, hj⟩ : ∃ j, k % Q = j := ⟨_, rfl⟩
  rw [hj] at k0 k1 hr
  have HJ := Lib.hid hj
  clear hj
  go_enter Tryz.func61, Tryz.ntmps61
  go_wp2
  go_quiet ((first | (go_at_call 72; exact quiet_left (rreduce_any k Q j HJ hQ0 hQ hk0 hk _)) | (go_at_call 74; exact quiet_left (rpow_any a j P r hr h1 h2 ha0 ha k0 (by omega) _))))
  go_wp2
  go_ret
  exact ⟨rfl, below_box _ _ _⟩
theorem cell_below {w w' : World} {p : Addr} {v : Value} (h : w.cell? p = some v) (hb : Below w.heap.size w w') : w'.cell? p = some v := (hb.cell (World.block_lt_of_cell? _ _ h)).trans h
theorem all_get {f : Int → Bool} {xs : List Int} (h : xs.all f = true) {k : Nat} (hk : k < xs.length) : f (xs.getD k 0) = true := by
  rw [List.getD_eq_getElem?_getD, List.getElem?_eq_getElem hk]
  exact List.all_eq_true.1 h _ (List.getElem_mem hk)
end Go.Proofs.YtjnoaejikapmdaaGreatDoor
namespace Go.Proofs.YtjnoaejikapmdaaGreatDoor
open Go.RowKit SpM
set_option linter.unusedVariables false
set_option linter.unusedSimpArgs false
set_option maxRecDepth 100000
def Own (w : World) (p : Addr) (v : Value) : Prop := w.cell? p = some v ∧ w.frozen? p = false
theorem Own.below {w w' : World} {p : Addr} {v : Value} (h : Own w p v) (hb : Below w.heap.size w w') : Own w' p v :=
  ⟨cell_below h.1 hb, (hb.frozen (World.block_lt_of_cell? _ _ h.1)).trans h.2⟩
theorem allocs_cell {w : World} {cs : Array Value} {T : TypeId} {n j : Nat} {v : Value} (hn : w.heap.size = n) (hj : cs[j]? = some v) : (w.alloc (.cells cs T)).cell? ⟨n, j, none⟩ = some v := by
  subst hn
  exact (World.cell?_alloc_at _ _ _ _ rfl).trans hj
theorem sl0 (w : World) (A : Option Addr) : Sl w A [] := fun k hk => absurd hk (by simp)
theorem OwnL.sl {w : World} {B : Nat} {v : Value} {xs : List Int} (h : OwnL w B v xs) : ∃ A c, v = .slice A xs.length c ∧ Sl w A xs ∧ (0 < xs.length → ∃ g, A = some ⟨g, 0, none⟩ ∧ B ≤ g) := by
  by_cases h0 : 0 < xs.length
  · obtain ⟨g, cap, rfl, hg, hc⟩ := OwnL.cells h h0
    exact ⟨some ⟨g, 0, none⟩, cap, rfl, fun k hk => ⟨g, 0, rfl, by rw [Nat.zero_add]; exact hc k hk⟩, fun _ => ⟨g, rfl, hg⟩⟩
  · have e : xs = [] := List.eq_nil_of_length_eq_zero (by omega)
    subst e
    obtain ⟨_, h2⟩ := h
    rcases h2 with ⟨hv, _⟩ | ⟨g, cap, cur, hv, _⟩
    · exact ⟨none, 0, hv, sl0 _ _, fun h => absurd h (by simp)⟩
    · exact ⟨_, cap, hv, sl0 _ _, fun h => absurd h (by simp)⟩
theorem Sl.at0 {w : World} {A : Option Addr} {xs : List Int} (h : Sl w A xs) (h0 : 0 < xs.length) : ∃ b o, A = some ⟨b, o, none⟩ ∧ ∀ j, j < xs.length → w.cell? ⟨b, o + j, none⟩ = some (.int .i64 (xs.getD j 0)) := by
  obtain ⟨b, o, rfl, _⟩ := h 0 h0
  exact ⟨b, o, rfl, fun j hj => by
    obtain ⟨b', o', e, hc⟩ := h j hj
    cases e
    exact hc⟩
end Go.Proofs.YtjnoaejikapmdaaGreatDoor
namespace Go.Proofs.YtjnoaejikapmdaaGreatDoor
open Go.RowKit
set_option linter.unusedVariables false
structure Kp (p : Prop) : Prop where
  out : p
def rotr (x : Int) (n : Nat) : Int := bits .or .u32 (x / 2 ^ n) (IntKind.u32.wrap (x * 2 ^ (32 - n)))
def sgA (x : Int) : Int := bits .xor .u32 (bits .xor .u32 (rotr x 7) (rotr x 18)) (x / 8)
def sgB (x : Int) : Int := bits .xor .u32 (bits .xor .u32 (rotr x 17) (rotr x 19)) (x / 1024)
def add32 (x y : Int) : Int := IntKind.u32.wrap (x + y)
def wnext (l : List Int) : Int := add32 (add32 (add32 (l.getD (l.length - 16) 0) (sgA (l.getD (l.length - 15) 0))) (l.getD (l.length - 7) 0)) (sgB (l.getD (l.length - 2) 0))
def wext : Nat → List Int → List Int
  | 0, l => l
  | n + 1, l => wext n l ++ [wnext (wext n l)]
def byteAt (b : List Int) (i : Nat) : Int := b.getD i 0
def word4 (b : List Int) (i : Nat) : Int := ((byteAt b (4 * i) * 256 + byteAt b (4 * i + 1)) * 256 + byteAt b (4 * i + 2)) * 256 + byteAt b (4 * i + 3)
def wfirst (b : List Int) (n : Nat) : List Int := (List.range n).map (word4 b)
def schedL (b : List Int) : List Int := wext 48 (wfirst b 16)
theorem wfirst_len (b : List Int) (n : Nat) : (wfirst b n).length = n := by simp [wfirst]
theorem wfirst_succ (b : List Int) (n : Nat) : wfirst b (n + 1) = wfirst b n ++ [word4 b n] := by simp [wfirst, List.range_succ]
theorem wext_len (n : Nat) (l : List Int) : (wext n l).length = l.length + n := by
  induction n with
  | zero => rfl
  | succ n ih => rw [wext, List.length_append, ih]; rfl
theorem schedL_len (b : List Int) : (schedL b).length = 64 := by rw [schedL, wext_len, wfirst_len]
structure St where
  (a b c d e f g h : Int)
def sbA (x : Int) : Int := bits .xor .u32 (bits .xor .u32 (rotr x 2) (rotr x 13)) (rotr x 22)
def sbE (x : Int) : Int := bits .xor .u32 (bits .xor .u32 (rotr x 6) (rotr x 11)) (rotr x 25)
def not32 (x : Int) : Int := bits .xor .u32 4294967295 x
def chE (e f g : Int) : Int := bits .xor .u32 (bits .and .u32 e f) (bits .and .u32 (not32 e) g)
def maA (a b c : Int) : Int := bits .xor .u32 (bits .xor .u32 (bits .and .u32 a b) (bits .and .u32 a c)) (bits .and .u32 b c)
def rndX (s : St) (k w : Int) : Int := add32 (add32 (add32 (add32 s.h (sbE s.e)) (chE s.e s.f s.g)) k) w
def rndY (s : St) : Int := add32 (sbA s.a) (maA s.a s.b s.c)
def rnd (s : St) (k w : Int) : St := ⟨add32 (rndX s k w) (rndY s), s.a, s.b, s.c, add32 s.d (rndX s k w), s.e, s.f, s.g⟩
def KL : List Int := [
    0x428a2f98, 0x71374491, 0xb5c0fbcf, 0xe9b5dba5, 0x3956c25b, 0x59f111f1, 0x923f82a4, 0xab1c5ed5,
    0xd807aa98, 0x12835b01, 0x243185be, 0x550c7dc3, 0x72be5d74, 0x80deb1fe, 0x9bdc06a7, 0xc19bf174,
    0xe49b69c1, 0xefbe4786, 0x0fc19dc6, 0x240ca1cc, 0x2de92c6f, 0x4a7484aa, 0x5cb0a9dc, 0x76f988da,
    0x983e5152, 0xa831c66d, 0xb00327c8, 0xbf597fc7, 0xc6e00bf3, 0xd5a79147, 0x06ca6351, 0x14292967,
    0x27b70a85, 0x2e1b2138, 0x4d2c6dfc, 0x53380d13, 0x650a7354, 0x766a0abb, 0x81c2c92e, 0x92722c85,
    0xa2bfe8a1, 0xa81a664b, 0xc24b8b70, 0xc76c51a3, 0xd192e819, 0xd6990624, 0xf40e3585, 0x106aa070,
    0x19a4c116, 0x1e376c08, 0x2748774c, 0x34b0bcb5, 0x391c0cb3, 0x4ed8aa4a, 0x5b9cca4f, 0x682e6ff3,
    0x748f82ee, 0x78a5636f, 0x84c87814, 0x8cc70208, 0x90befffa, 0xa4506ceb, 0xbef9a3f7, 0xc67178f2]
def st0 : St := ⟨0x6a09e667, 0xbb67ae85, 0x3c6ef372, 0xa54ff53a, 0x510e527f, 0x9b05688c, 0x1f83d9ab, 0x5be0cd19⟩
def rnds (ws : List Int) (s : St) : Nat → St
  | 0 => s
  | n + 1 => rnd (rnds ws s n) (KL.getD n 0) (ws.getD n 0)
def addS (s t : St) : St := ⟨add32 s.a t.a, add32 s.b t.b, add32 s.c t.c, add32 s.d t.d, add32 s.e t.e, add32 s.f t.f, add32 s.g t.g, add32 s.h t.h⟩
def mixS (s : St) (b : List Int) : St := addS s (rnds (schedL b) s 64)
def blockOf (p : List Int) (n : Nat) : List Int := (p.drop (64 * n)).take 64
def shaSt (p : List Int) : Nat → St
  | 0 => st0
  | n + 1 => mixS (shaSt p n) (blockOf p n)
def be8 (n : Int) : List Int := [n / 72057594037927936 % 256, n / 281474976710656 % 256, n / 1099511627776 % 256, n / 4294967296 % 256, n / 16777216 % 256, n / 65536 % 256, n / 256 % 256, n % 256]
def padZ (n : Nat) : Nat := (119 - n % 64) % 64
def padL (b : List Int) : List Int := b ++ [128] ++ List.replicate (padZ b.length) 0 ++ be8 (8 * b.length)
def St.list (s : St) : List Int := [s.a, s.b, s.c, s.d, s.e, s.f, s.g, s.h]
def out4 (v : Int) : List Int := [v / 16777216 % 256, v / 65536 % 256, v / 256 % 256, v % 256]
def outL (s : St) : List Int := out4 s.a ++ out4 s.b ++ out4 s.c ++ out4 s.d ++ out4 s.e ++ out4 s.f ++ out4 s.g ++ out4 s.h
def sha (b : List Int) : List Int := outL (shaSt (padL b) ((padL b).length / 64))
def tagged (tag b : List Int) : List Int := sha (sha tag ++ sha tag ++ b)
def bytesB (l : List Int) : Bool := l.all fun x => decide (0 ≤ x) && decide (x < 256)
theorem be8_len (n : Int) : (be8 n).length = 8 := rfl
theorem sha_len (b : List Int) : (sha b).length = 32 := rfl
theorem tagged_len (t b : List Int) : (tagged t b).length = 32 := rfl
theorem padL_len (b : List Int) : (padL b).length = b.length + 9 + padZ b.length := by simp [padL, be8_len]; omega
theorem padL_mod (b : List Int) : (padL b).length % 64 = 0 := by rw [padL_len, padZ]; omega
theorem mod_byte (n : Int) : (decide (0 ≤ n % 256) && decide (n % 256 < 256)) = true := by simp; omega
theorem bytesB_app {a b : List Int} : bytesB (a ++ b) = (bytesB a && bytesB b) := by simp [bytesB]
theorem be8_bytes (n : Int) : bytesB (be8 n) = true := by simp [bytesB, be8, mod_byte]
theorem out4_bytes (n : Int) : bytesB (out4 n) = true := by simp [bytesB, out4, mod_byte]
theorem outL_bytes (s : St) : bytesB (outL s) = true := by simp only [outL, bytesB_app, out4_bytes, Bool.and_self]
theorem sha_bytes (b : List Int) : bytesB (sha b) = true := outL_bytes _
theorem padL_bytes {b : List Int} (h : bytesB b = true) : bytesB (padL b) = true := by
  simp only [padL, bytesB_app, h, be8_bytes, Bool.true_and, Bool.and_true]
  simp [bytesB]
theorem bytesB_get {l : List Int} (h : bytesB l = true) (i : Nat) : 0 ≤ l.getD i 0 ∧ l.getD i 0 < 256 := by
  by_cases hi : i < l.length
  · have := List.all_eq_true.1 h _ (List.getElem_mem hi)
    rw [List.getD_eq_getElem?_getD, List.getElem?_eq_getElem hi]
    simpa using this
  · rw [List.getD_eq_getElem?_getD, List.getElem?_eq_none (by omega)]; simp
theorem bytesB_take {l : List Int} (h : bytesB l = true) (n : Nat) : bytesB (l.take n) = true :=
  List.all_eq_true.2 fun x hx => List.all_eq_true.1 h x (List.mem_of_mem_take hx)
theorem bytesB_drop {l : List Int} (h : bytesB l = true) (n : Nat) : bytesB (l.drop n) = true :=
  List.all_eq_true.2 fun x hx => List.all_eq_true.1 h x (List.mem_of_mem_drop hx)
theorem blockOf_bytes {p : List Int} (h : bytesB p = true) (n : Nat) : bytesB (blockOf p n) = true := bytesB_take (bytesB_drop h _) _
theorem blockOf_len {p : List Int} {n : Nat} (h : 64 * n + 64 ≤ p.length) : (blockOf p n).length = 64 := by simp [blockOf]; omega
theorem bits_or_comm (a b : Int) : bits .or .u32 a b = bits .or .u32 b a := by
  simp only [bits]
  rw [BitVec.or_comm]
end Go.Proofs.YtjnoaejikapmdaaGreatDoor
namespace Go.Proofs.YtjnoaejikapmdaaGreatDoor
open Go.RowKit SpM
set_option linter.unusedVariables false
set_option linter.unusedSimpArgs false
set_option maxRecDepth 100000
def Sk (K : IntKind) (w : World) (A : Option Addr) (xs : List Int) : Prop := ∀ j, j < xs.length → ∃ b o, A = some ⟨b, o, none⟩ ∧ w.cell? ⟨b, o + j, none⟩ = some (.int K (xs.getD j 0))
variable {K : IntKind}
theorem sk0 (w : World) (A : Option Addr) : Sk K w A [] := fun k hk => absurd hk (by simp)
theorem Sk.below {w w' : World} {A : Option Addr} {xs : List Int} (h : Sk K w A xs) (hb : Below w.heap.size w w') : Sk K w' A xs := fun k hk => by
  obtain ⟨b, o, h1, h2⟩ := h k hk
  exact ⟨b, o, h1, (hb.cell (World.block_lt_of_cell? _ _ h2)).trans h2⟩
theorem Sk.at0 {w : World} {A : Option Addr} {xs : List Int} (h : Sk K w A xs) (h0 : 0 < xs.length) : ∃ b o, A = some ⟨b, o, none⟩ ∧ ∀ j, j < xs.length → w.cell? ⟨b, o + j, none⟩ = some (.int K (xs.getD j 0)) := by
  obtain ⟨b, o, rfl, _⟩ := h 0 h0
  exact ⟨b, o, rfl, fun j hj => by
    obtain ⟨b', o', e, hc⟩ := h j hj
    cases e
    exact hc⟩
theorem Sk.lt {w : World} {b o : Nat} {xs : List Int} (h : Sk K w (some ⟨b, o, none⟩) xs) (h0 : 0 < xs.length) : b < w.heap.size := by
  obtain ⟨b', o', e, hc⟩ := h 0 h0
  cases e
  exact World.block_lt_of_cell? _ _ hc
theorem Sk.cell {w : World} {b o : Nat} {xs : List Int} (h : Sk K w (some ⟨b, o, none⟩) xs) {j : Nat} (hj : j < xs.length) : w.cell? ⟨b, o + j, none⟩ = some (.int K (xs.getD j 0)) := by
  obtain ⟨b', o', e, hc⟩ := h j hj
  cases e
  exact hc
theorem Sk.drop {w : World} {b o n : Nat} {xs : List Int} (h : Sk K w (some ⟨b, o, none⟩) xs) : Sk K w (some ⟨b, o + n, none⟩) (xs.drop n) := fun j hj => by
  rw [List.length_drop] at hj
  refine ⟨b, o + n, rfl, ?_⟩
  rw [Nat.add_assoc, h.cell (j := n + j) (by omega)]
  simp [List.getD_eq_getElem?_getD, List.getElem?_drop]
theorem Sk.take {w : World} {A : Option Addr} {n : Nat} {xs : List Int} (h : Sk K w A xs) : Sk K w A (xs.take n) := fun j hj => by
  rw [List.length_take] at hj
  obtain ⟨b, o, h1, h2⟩ := h j (by omega)
  refine ⟨b, o, h1, ?_⟩
  rw [h2]
  simp [List.getD_eq_getElem?_getD, List.getElem?_take_of_lt (show j < n by omega)]
theorem Sk.grown {w w1 : World} {row : Option Nat} {A : Option Addr} {xs : List Int} (h : Sk K w A xs) (hg : w.grownBy w1 row) (hne : ∀ b o, A = some ⟨b, o, none⟩ → 0 < xs.length → row ≠ some b) : Sk K w1 A xs := fun k hk => by
  obtain ⟨b, o, h1, h2⟩ := h k hk
  exact ⟨b, o, h1, hg.cell h2 (fun e => hne b o h1 (by omega) e.symm)⟩
theorem Sk.nil_of {w : World} {A : Option Addr} {xs : List Int} (h : xs.length = 0) : Sk K w A xs := fun k hk => by omega
def OwnK (K : IntKind) (T : TypeId) (w : World) (base : Nat) (v : Value) (xs : List Int) : Prop := w.ownsRow base T 1 v xs.length (xs.map (Value.int K))
variable {T : TypeId}
theorem ownK_nil (w : World) (base : Nat) : OwnK K T w base (.slice none 0 0) [] := World.ownsRow_nil _ _ _ _
theorem OwnK.app {w1 : World} {base k : Nat} {v' : Value} {xs ys : List Int} {m : Nat} (hk : k = xs.length) (hm : m = ys.length)
    (h : w1.ownsRow base T 1 v' (k + m) (xs.map (Value.int K) ++ ys.map (Value.int K))) : OwnK K T w1 base v' (xs ++ ys) := by
  unfold OwnK
  rw [List.length_append, List.map_append, ← hk, ← hm]
  exact h
theorem OwnK.below {w w1 wr : World} {B : Nat} {o : Obj} {v : Value} {xs : List Int} (h : OwnK K T wr B v xs) (hb : Below B w wr) (hB : B ≤ wr.heap.size) (hg : (wr.alloc o).grownBy w1 v.ownBlock) : Below B w w1 :=
  (hb.alloc hB o).grown hg (by simp; omega) (fun j hj => (World.ownsRow.lt h j hj).1)
theorem OwnK.below0 {w w1 wr : World} {B : Nat} {v : Value} {xs : List Int} (h : OwnK K T wr B v xs) (hb : Below B w wr) (hB : B ≤ wr.heap.size) (hg : wr.grownBy w1 v.ownBlock) : Below B w w1 :=
  hb.grown hg (by omega) (fun j hj => (World.ownsRow.lt h j hj).1)
theorem OwnK.cells {w : World} {B : Nat} {v : Value} {xs : List Int} (h : OwnK K T w B v xs) (hne : 0 < xs.length) : ∃ g cap, v = .slice (some ⟨g, 0, none⟩) xs.length cap ∧ B ≤ g ∧ xs.length ≤ cap ∧ cap ≤ maxLen ∧ Sk K w (some ⟨g, 0, none⟩) xs := by
  obtain ⟨h1, h2⟩ := h
  rcases h2 with ⟨_, h0⟩ | ⟨g, cap, cur, rfl, hg, hh, hn, hc, hs, ht⟩
  · omega
  · refine ⟨g, cap, rfl, hg, hn, hc, fun j hj => ⟨g, 0, rfl, ?_⟩⟩
    rw [Nat.zero_add, cell_blk hh]
    have e : cur.toList[j]? = (xs.map (Value.int K))[j]? := by
      rw [← ht, List.getElem?_take_of_lt (by omega)]
    rw [← Array.getElem?_toList, e, List.getElem?_map, List.getElem?_eq_getElem hj, List.getD_eq_getElem?_getD, List.getElem?_eq_getElem hj]
    rfl
theorem OwnK.sk {w : World} {B : Nat} {v : Value} {xs : List Int} (h : OwnK K T w B v xs) : ∃ A c, v = .slice A xs.length c ∧ Sk K w A xs ∧ (0 < xs.length → ∃ g, A = some ⟨g, 0, none⟩ ∧ B ≤ g) ∧ xs.length ≤ c := by
  by_cases h0 : 0 < xs.length
  · obtain ⟨g, cap, rfl, hg, hn, _, hc⟩ := OwnK.cells h h0
    exact ⟨some ⟨g, 0, none⟩, cap, rfl, hc, fun _ => ⟨g, rfl, hg⟩, hn⟩
  · have e : xs = [] := List.eq_nil_of_length_eq_zero (by omega)
    subst e
    obtain ⟨_, h2⟩ := h
    rcases h2 with ⟨hv, _⟩ | ⟨g, cap, cur, hv, _⟩
    · exact ⟨none, 0, hv, sk0 _ _, fun h => absurd h (by simp), by simp⟩
    · exact ⟨_, cap, hv, sk0 _ _, fun h => absurd h (by simp), by simp⟩
theorem OwnK.keep {w w' : World} {B : Nat} {v : Value} {xs : List Int} (h : OwnK K T w B v xs) (hb : Below w.heap.size w w') : OwnK K T w' B v xs := by
  obtain ⟨h1, h2⟩ := h
  refine ⟨h1, h2.imp id ?_⟩
  rintro ⟨g, cap, cur, rfl, hg, hh, rest⟩
  exact ⟨g, cap, cur, rfl, hg, (hb.block g (Array.getElem?_eq_some_iff.1 hh).1).trans hh, rest⟩
theorem OwnK.mono {w : World} {B B' : Nat} {v : Value} {xs : List Int} (h : OwnK K T w B v xs) (hb : B' ≤ B) : OwnK K T w B' v xs := by
  obtain ⟨h1, h2⟩ := h
  refine ⟨h1, h2.imp id ?_⟩
  rintro ⟨g, cap, cur, rfl, hg, rest⟩
  exact ⟨g, cap, cur, rfl, by omega, rest⟩
theorem OwnK.kept {w w' : World} {row : Option Nat} {B : Nat} {v : Value} {xs : List Int} (h : OwnK K T w B v xs) (hg : w.grownBy w' row) (hne : v.ownBlock = none ∨ v.ownBlock ≠ row) : OwnK K T w' B v xs := World.ownsRow.kept h hg hne
theorem OwnK.row {w : World} {B n : Nat} {v : Value} {xs : List Int} (h : OwnK K T w B v xs) (hn : xs.length = n) : w.ownsRow B T 1 v n (xs.map (Value.int K)) := by
  subst hn; exact h
theorem OwnK.lt {w : World} {B : Nat} {v : Value} {xs : List Int} (h : OwnK K T w B v xs) (j : Nat) (hj : v.ownBlock = some j) : B ≤ j ∧ j < w.heap.size := World.ownsRow.lt h j hj
def KOut (K : IntKind) (T : TypeId) (xs : List Int) (w : World) (e : Ending) (w' : World) : Prop := ∃ v, e = .returned v ∧ OwnK K T w' w.heap.size v xs ∧ Below w.heap.size w w'
theorem getD_app_l {xs ys : List Int} {j : Nat} (h : j < xs.length) : (xs ++ ys).getD j 0 = xs.getD j 0 := by
  simp [List.getD_eq_getElem?_getD, List.getElem?_append_left h]
theorem getD_app_r {xs ys : List Int} {j : Nat} (h : xs.length ≤ j) : (xs ++ ys).getD j 0 = ys.getD (j - xs.length) 0 := by
  simp [List.getD_eq_getElem?_getD, List.getElem?_append_right h]
theorem take_one {xs : List Int} {k : Nat} (hk : k < xs.length) : xs.take (k + 1) = xs.take k ++ [xs.getD k 0] := by
  rw [List.take_add_one, List.getElem?_eq_getElem hk, List.getD_eq_getElem?_getD, List.getElem?_eq_getElem hk]
  rfl
def arr (K : IntKind) (l : List Int) : Array Value := (l.map (Value.int K)).toArray
theorem arr_size (l : List Int) : (arr K l).size = l.length := by simp [arr]
def Blk (K : IntKind) (T : TypeId) (w : World) (b : Nat) (l : List Int) : Prop := w.heap[b]? = some (.cells (arr K l) T (0, 0))
theorem Blk.below {w w' : World} {b : Nat} {l : List Int} (h : Blk K T w b l) (hb : Below w.heap.size w w') : Blk K T w' b l :=
  (hb.block b (Array.getElem?_eq_some_iff.1 h).1).trans h
theorem Blk.keepB {w w' : World} {b B : Nat} {l : List Int} (h : Blk K T w b l) (hlt : b < B) (hb : Below B w w') : Blk K T w' b l := (hb.block b hlt).trans h
theorem Blk.lt {w : World} {b : Nat} {l : List Int} (h : Blk K T w b l) : b < w.heap.size := (Array.getElem?_eq_some_iff.1 h).1
theorem arr_get {l : List Int} {j : Nat} (hj : j < l.length) : (arr K l)[j]? = some (.int K (l.getD j 0)) := by
  simp [arr, List.getD_eq_getElem?_getD, List.getElem?_eq_getElem hj]
theorem Blk.cell {w : World} {b j : Nat} {l : List Int} (h : Blk K T w b l) (hj : j < l.length) : w.cell? ⟨b, j, none⟩ = some (.int K (l.getD j 0)) := (cell_blk h j).trans (arr_get hj)
theorem Blk.free {w : World} {b : Nat} {l : List Int} (h : Blk K T w b l) (j : Nat) : w.frozen? ⟨b, j, none⟩ = false := frozen_blk h j
theorem arr_set {l : List Int} {j : Nat} {v : Int} : (arr K l).setIfInBounds j (.int K v) = arr K (l.set j v) := by
  apply Array.ext'
  simp [arr, List.map_set]
theorem Blk.set {w : World} {b j : Nat} {l : List Int} {v : Int} (h : Blk K T w b l) : Blk K T (w.setCell ⟨b, j, none⟩ (.int K v)) b (l.set j v) := by
  unfold Blk
  rw [heap_setCell_same w b j _ T _ h, arr_set]
theorem Blk.set_ne {w : World} {b a j : Nat} {l : List Int} {v : Value} (h : Blk K T w b l) (hne : b ≠ a) : Blk K T (w.setCell ⟨a, j, none⟩ v) b l :=
  (heap_setCell_other w _ b v hne).trans h
theorem Blk.setRow {w : World} {b : Nat} {l l' : List Int} (h : Blk K T w b l) : Blk K T (w.setRow b (arr K l')) b l' := setRow_heap w b _ _ T _ h
theorem Blk.setRow_ne {w : World} {b a : Nat} {l : List Int} {cs : Array Value} (h : Blk K T w b l) (hne : b ≠ a) : Blk K T (w.setRow a cs) b l := (setRow_other w a b cs hne).trans h
theorem Blk.new (w : World) (l : List Int) : Blk K T (w.alloc (.cells (arr K l) T)) w.heap.size l := heap_alloc_new _ _
theorem Blk.old {w : World} {b : Nat} {l : List Int} (h : Blk K T w b l) (o : Obj) : Blk K T (w.alloc o) b l := (Below.heap_alloc w o b h.lt).trans h
theorem Blk.drew {w : World} {b : Nat} {l : List Int} (h : Blk K T w b l) (n : Nat) : Blk K T (w.drewN n) b l := h.below (below_drawN (Below.refl _ _) n)
theorem Blk.sk {w : World} {b : Nat} {l : List Int} (h : Blk K T w b l) : Sk K w (some ⟨b, 0, none⟩) l := fun j hj => ⟨b, 0, rfl, by rw [Nat.zero_add]; exact h.cell hj⟩
theorem Blk.grown {w w1 : World} {row : Option Nat} {b : Nat} {l : List Int} (h : Blk K T w b l) (hg : w.grownBy w1 row) (hne : row ≠ some b) : Blk K T w1 b l := (hg.block b h.lt (Ne.symm hne)).trans h
theorem arr_one (l : List Int) : (arr K l).all (·.oneCell') = true := by simp [arr, Value.oneCell']
theorem below_setRow' {B b : Nat} {w0 w : World} {cs : Array Value} (h : Below B w0 w) (hb : B ≤ b) : Below B w0 (w.setRow b cs) :=
  h.trans ⟨rfl, rfl, rfl, by simp [World.setRow], fun k hk => setRow_other w b k cs (by omega)⟩
end Go.Proofs.YtjnoaejikapmdaaGreatDoor
namespace Go.Proofs.YtjnoaejikapmdaaGreatDoor
open Go.RowKit
set_option linter.unusedVariables false
set_option linter.unusedSimpArgs false
set_option maxRecDepth 100000
theorem and31 : ∀ n : Nat, n < 32 → 1 ≤ n → bits .and .u64 (IntKind.u64.wrap (-(n : Int))) 31 = 32 - (n : Int) := by decide
theorem wrap_u32e (x : Int) : IntKind.u32.wrap x = x % 4294967296 := by simp [IntKind.wrap, IntKind.bits, IntKind.signed]
theorem rot_any (x m s : Int) (n : Nat) (hs : Hid (bits .and .u64 (IntKind.u64.wrap m) 31 = s)) (hn : Hid (s = 32 - n)) (h0 : 0 ≤ s) (h1 : s ≤ 31) (w : World) :
    Calls Tryz.prog 320 #[.int .u32 x, .int .i64 m] w fun e w' => e = .returned (.int .u32 (rotr x n)) ∧ w = w' := by
  have g1 : IntKind.u64.wrap (32 - s) = 32 - s := by simp [IntKind.wrap, IntKind.bits, IntKind.signed]; omega
  have g2 : 0 ≤ 32 - s := by omega
  have hs' := hs.out
  have HR : Hid (bits .or .u32 (x * 2 ^ s.toNat % 4294967296) (x / 2 ^ (32 - s).toNat) = rotr x n) := Lib.hid (by
    have e1 : s.toNat = 32 - n := by have := hn.out; omega
    have e2 : (32 - s).toNat = n := by have := hn.out; omega
    rw [e1, e2, rotr, bits_or_comm, wrap_u32e])
  clear hs hn
  go_enter Tryz.func320, Tryz.ntmps320
  go_wp2
  go_ret
  exact ⟨by rw [HR.out]; rfl, rfl⟩
theorem right_of (x N : Int) (n : Nat) (hN : N = n) (h1 : 1 ≤ n) (h2 : n < 32) (w : World) :
    Calls Tryz.prog 312 #[.int .u32 x, .int .i64 N] w fun e w' => e = .returned (.int .u32 (rotr x n)) ∧ w = w' := by
  subst hN
  have HS := Lib.hid (and31 n h2 h1)
  have hm' : wrap64 (-(n : Int)) = -(n : Int) := IntWalk.wrap64_in _ (by omega)
  go_enter Tryz.func312, Tryz.ntmps312
  go_wp2_with fail
  refine (rot_any x _ _ n HS (Lib.hid rfl) (by omega) (by omega) _).mono ?_
  rintro e w' ⟨rfl, rfl⟩
  go_wp2
  go_ret
  exact ⟨rfl, rfl⟩
theorem rright_of (x N : Int) (n : Nat) (hN : N = n) (h1 : 1 ≤ n) (h2 : n < 32) (w : World) :
    Calls Tryz.prog 309 #[.int .u32 x, .int .i64 N] w fun e w' => e = .returned (.int .u32 (rotr x n)) ∧ ∃ k, w' = w.drewN k := by
  subst hN
  have g2 : (0 : Int) ≤ 32 - n := by omega
  have g3 : (0 : Int) ≤ n := by omega
  have HR : Hid (bits .or .u32 (x / 2 ^ n) (x * 2 ^ (32 - n) % 4294967296) = rotr x n) := Lib.hid (by rw [rotr, wrap_u32e])
  have hm : IntKind.i64.wrap (32 - (n : Int)) = 32 - n := IntWalk.i64_in _ (by omega)
  have hm' : wrap64 (32 - (n : Int)) = 32 - n := IntWalk.wrap64_in _ (by omega)
  go_enter Tryz.func309, Tryz.ntmps309
  go_wp2
  go_quiet (fail)
  go_wp2
  go_ret
  exact ⟨by rw [← HR.out]; rfl, nq, rfl⟩
theorem right_int (x N : Int) (h1 : 1 ≤ N) (h2 : N < 32) (w : World) :
    Calls Tryz.prog 312 #[.int .u32 x, .int .i64 N] w fun e w' => e = .returned (.int .u32 (rotr x N.toNat)) ∧ w = w' :=
  right_of x N N.toNat (by omega) (by omega) (by omega) w
theorem rright_int (x N : Int) (h1 : 1 ≤ N) (h2 : N < 32) (w : World) :
    Calls Tryz.prog 309 #[.int .u32 x, .int .i64 N] w fun e w' => e = .returned (.int .u32 (rotr x N.toNat)) ∧ ∃ k, w' = w.drewN k :=
  rright_of x N N.toNat (by omega) (by omega) (by omega) w
end Go.Proofs.YtjnoaejikapmdaaGreatDoor
namespace Go.Proofs.YtjnoaejikapmdaaGreatDoor
open Go.RowKit SpM
set_option linter.unusedVariables false
set_option linter.unusedSimpArgs false
set_option maxRecDepth 100000
theorem or_byte {p c : Int} (h0 : 0 ≤ p) (h1 : p < 16777216) (c0 : 0 ≤ c) (c1 : c < 256) : bits .or .u32 (p * 256) c = p * 256 + c := by
  obtain ⟨P, rfl⟩ := Int.eq_ofNat_of_zero_le h0
  obtain ⟨C, rfl⟩ := Int.eq_ofNat_of_zero_le c0
  have e1 : ((P : Int) * 256) = ((P * 256 : Nat) : Int) := by omega
  rw [e1, u32_or _ _ (by omega) (by omega) (by omega) (by omega)]
  have e2 : 2 ^ 8 * P + C = 2 ^ 8 * P ||| C := Nat.two_pow_add_eq_or_of_lt (by omega) P
  have e3 : P * 256 ||| C = P * 256 + C := by rw [show P * 256 = 2 ^ 8 * P by omega, ← e2]
  simp only [Int.toNat_natCast]
  rw [e3]
  omega
def part (b : List Int) (i : Nat) : Nat → Int
  | 0 => 0
  | m + 1 => part b i m * 256 + byteAt b (4 * i + m)
theorem part4 (b : List Int) (i : Nat) : part b i 4 = word4 b i := by simp [part, word4]
theorem part_lo {b : List Int} (h : bytesB b = true) (i m : Nat) : 0 ≤ part b i m := by
  induction m with
  | zero => exact Int.le_refl _
  | succ m ih => have := (bytesB_get h (4 * i + m)).1; simp only [part, byteAt]; omega
theorem part_hi {b : List Int} (h : bytesB b = true) (i m : Nat) (hm : m ≤ 3) : part b i m < 16777216 := by
  have h0 := bytesB_get h (4 * i)
  have h1 := bytesB_get h (4 * i + 1)
  have h2 := bytesB_get h (4 * i + 2)
  rcases (show m = 0 ∨ m = 1 ∨ m = 2 ∨ m = 3 by omega) with rfl | rfl | rfl | rfl
  · simp [part]
  · simp only [part, byteAt, Nat.add_zero]; omega
  · simp only [part, byteAt, Nat.add_zero]; omega
  · simp only [part, byteAt, Nat.add_zero]; omega
def zer (n : Nat) : List Int := List.replicate n 0
theorem arr64 : (#[.int .u32 0, .int .u32 0, .int .u32 0, .int .u32 0, .int .u32 0, .int .u32 0, .int .u32 0, .int .u32 0, .int .u32 0, .int .u32 0, .int .u32 0, .int .u32 0, .int .u32 0, .int .u32 0, .int .u32 0, .int .u32 0, .int .u32 0, .int .u32 0, .int .u32 0, .int .u32 0, .int .u32 0, .int .u32 0, .int .u32 0, .int .u32 0, .int .u32 0, .int .u32 0, .int .u32 0, .int .u32 0, .int .u32 0, .int .u32 0, .int .u32 0, .int .u32 0, .int .u32 0, .int .u32 0, .int .u32 0, .int .u32 0, .int .u32 0, .int .u32 0, .int .u32 0, .int .u32 0, .int .u32 0, .int .u32 0, .int .u32 0, .int .u32 0, .int .u32 0, .int .u32 0, .int .u32 0, .int .u32 0, .int .u32 0, .int .u32 0, .int .u32 0, .int .u32 0, .int .u32 0, .int .u32 0, .int .u32 0, .int .u32 0, .int .u32 0, .int .u32 0, .int .u32 0, .int .u32 0, .int .u32 0, .int .u32 0, .int .u32 0, .int .u32 0] : Array Value) = arr .u32 (zer 64) := by rfl
def wz (l : List Int) : List Int := l ++ zer (64 - l.length)
theorem wz_len {l : List Int} (h : l.length ≤ 64) : (wz l).length = 64 := by simp [wz, zer]; omega
theorem wz_set {l : List Int} {x : Int} (h : l.length < 64) : (wz l).set l.length x = wz (l ++ [x]) := by
  obtain ⟨m, hm⟩ : ∃ m, 64 - l.length = m + 1 := ⟨63 - l.length, by omega⟩
  have hm2 : 64 - (l ++ [x]).length = m := by rw [List.length_append, List.length_singleton]; omega
  rw [wz, wz, hm, hm2, zer, List.replicate_succ, List.set_append_right _ _ (Nat.le_refl _), Nat.sub_self, List.set_cons_zero]
  simp [zer]
theorem wz_at {l : List Int} : (wz l).getD l.length 0 = 0 := by
  rw [wz, getD_app_r (Nat.le_refl _), Nat.sub_self, zer, List.getD_eq_getElem?_getD, List.getElem?_replicate]
  split <;> rfl
theorem wz_get {l : List Int} {j : Nat} (h : j < l.length) : (wz l).getD j 0 = l.getD j 0 := getD_app_l h
theorem set_self {l : List Int} {k : Nat} {x : Int} (h : l.getD k 0 = x) : l.set k x = l := by
  by_cases hk : k < l.length
  · rw [List.getD_eq_getElem?_getD, List.getElem?_eq_getElem hk] at h
    subst h
    exact List.set_getElem_self hk
  · exact List.set_eq_of_length_le (by omega)
theorem getD_set_eq {l : List Int} {k : Nat} {x : Int} (h : k < l.length) : (l.set k x).getD k 0 = x := by
  simp [List.getD_eq_getElem?_getD, h]
theorem wz_sched (b : List Int) : wz (wext 48 (wfirst b 16)) = schedL b := by
  have h := schedL_len b
  unfold schedL at h ⊢
  unfold wz
  rw [h]
  simp [zer]
theorem info64 : (Tryz.prog.info? 315).map (·.size) = some 64 := by kernel_rfl
theorem sched_info (b : List Int) : (Tryz.prog.info? 315).map (·.size) = some (arr .u32 (schedL b)).size := info64.trans (congrArg some (by rw [arr_size, schedL_len]))
theorem sched_sz (b : List Int) : (arr .u32 (zer 64)).size = (arr .u32 (schedL b)).size := by rw [arr_size, arr_size, schedL_len]; rfl
set_option maxHeartbeats 3200000 in
theorem sched_any (b o cap : Nat) (blk : List Int) (hlen : Hid (blk.length = 64)) (hby : Hid (bytesB blk = true)) (w : World) (hs : Hid (Sk .u8 w (some ⟨b, o, none⟩) blk)) (hcap : 64 ≤ cap) (hcm : cap ≤ 9223372036854775807) :
    Calls Tryz.prog 311 #[.slice (some ⟨b, o, none⟩) 64 cap] w fun e w' => e = .returned (.agg (arr .u32 (schedL blk))) ∧ Below w.heap.size w w' := by
  obtain ⟨W, hW⟩ : ∃ W, (w.alloc (.cells #[.int .u32 0, .int .u32 0, .int .u32 0, .int .u32 0, .int .u32 0, .int .u32 0, .int .u32 0, .int .u32 0, .int .u32 0, .int .u32 0, .int .u32 0, .int .u32 0, .int .u32 0, .int .u32 0, .int .u32 0, .int .u32 0, .int .u32 0, .int .u32 0, .int .u32 0, .int .u32 0, .int .u32 0, .int .u32 0, .int .u32 0, .int .u32 0, .int .u32 0, .int .u32 0, .int .u32 0, .int .u32 0, .int .u32 0, .int .u32 0, .int .u32 0, .int .u32 0, .int .u32 0, .int .u32 0, .int .u32 0, .int .u32 0, .int .u32 0, .int .u32 0, .int .u32 0, .int .u32 0, .int .u32 0, .int .u32 0, .int .u32 0, .int .u32 0, .int .u32 0, .int .u32 0, .int .u32 0, .int .u32 0, .int .u32 0, .int .u32 0, .int .u32 0, .int .u32 0, .int .u32 0, .int .u32 0, .int .u32 0, .int .u32 0, .int .u32 0, .int .u32 0, .int .u32 0, .int .u32 0, .int .u32 0, .int .u32 0, .int .u32 0, .int .u32 0] 315)).alloc (.cells #[.int .u32 0, .int .u32 0, .int .u32 0, .int .u32 0, .int .u32 0, .int .u32 0, .int .u32 0, .int .u32 0, .int .u32 0, .int .u32 0, .int .u32 0, .int .u32 0, .int .u32 0, .int .u32 0, .int .u32 0, .int .u32 0, .int .u32 0, .int .u32 0, .int .u32 0, .int .u32 0, .int .u32 0, .int .u32 0, .int .u32 0, .int .u32 0, .int .u32 0, .int .u32 0, .int .u32 0, .int .u32 0, .int .u32 0, .int .u32 0, .int .u32 0, .int .u32 0, .int .u32 0, .int .u32 0, .int .u32 0, .int .u32 0, .int .u32 0, .int .u32 0, .int .u32 0, .int .u32 0, .int .u32 0, .int .u32 0, .int .u32 0, .int .u32 0, .int .u32 0, .int .u32 0, .int .u32 0, .int .u32 0, .int .u32 0, .int .u32 0, .int .u32 0, .int .u32 0, .int .u32 0, .int .u32 0, .int .u32 0, .int .u32 0, .int .u32 0, .int .u32 0, .int .u32 0, .int .u32 0, .int .u32 0, .int .u32 0, .int .u32 0, .int .u32 0] 315) = W := ⟨_, rfl⟩
  have HBX : Hid (Below w.heap.size w W) := Lib.hid (by rw [← hW]; exact below_two (Below.refl _ _))
  have HB0 : Hid (Blk .u32 315 W (w.heap.size + 1) (wz (wfirst blk 0))) := Lib.hid (by
    rw [← hW, arr64]
    exact heap_alloc2_new _ _ _)
  have HR0 : Hid (Blk .u32 315 W w.heap.size (zer 64)) := Lib.hid (by
    rw [← hW, arr64]
    exact heap_alloc2_old _ _ _)
  have HSZ : Hid (W.heap.size = w.heap.size + 2) := Lib.hid (by rw [← hW]; simp)
  have HS := Lib.hid hs.out
  have HW := Lib.hid hW
  clear hW hs
  go_enter Tryz.func311, Tryz.ntmps311
  go_wp2
  rw [HW.out]
  go_loopw [12] (fun i wr => ∃ k : Nat, k ≤ 16 ∧ i = .int .i64 k ∧ Hid (Blk .u32 315 wr (w.heap.size + 1) (wz (wfirst blk k))) ∧ Hid (Below (w.heap.size + 1) W wr)) (fun i _ => 16 - (intOf i).toNat)
  case atStart => exact ⟨0, by omega, rfl, HB0, Lib.hid (Below.refl _ _)⟩
  case round =>
    obtain ⟨k, hk, rfl, HB, HBr⟩ := hrel
    by_cases hlt : k < 16
    · clear HW
      have HBk : Hid (Blk .u32 315 wr (w.heap.size + 1) ((wz (wfirst blk k)).set k (part blk k 0))) := Lib.hid (by
        rw [set_self (by have := wz_at (l := wfirst blk k); rwa [wfirst_len] at this)]
        exact HB.out)
      go_wp2
      go_loopw [23] (fun j u => ∃ m : Nat, m ≤ 4 ∧ j = .int .i64 m ∧ Hid (Blk .u32 315 u (w.heap.size + 1) ((wz (wfirst blk k)).set k (part blk k m))) ∧ Hid (Below (w.heap.size + 1) W u)) (fun j _ => 4 - (intOf j).toNat)
      case atStart => exact ⟨0, by omega, rfl, HBk, HBr⟩
      case round =>
        obtain ⟨m, hm, rfl, HBm, HBu⟩ := hrel
        by_cases hlm : m < 4
        · have hc0 := HBm.out.cell (j := k) (by rw [List.length_set, wz_len (by rw [wfirst_len]; omega)]; omega)
          rw [getD_set_eq (by rw [wz_len (by rw [wfirst_len]; omega)]; omega)] at hc0
          have hf0 := HBm.out.free k
          have hc1 := (HS.out.below (HBX.out.trans (HBu.out.mono (Nat.le_succ _)))).cell (j := 4 * k + m) (by have := hlen.out; omega)
          obtain ⟨c0, c1⟩ := bytesB_get hby.out (4 * k + m)
          have hpn : part blk k (m + 1) = part blk k m * 256 + blk.getD (4 * k + m) 0 := rfl
          have p0 := part_lo hby.out k m
          have p1 := part_hi hby.out k m (by omega)
          obtain ⟨c, hcc⟩ : ∃ c, blk.getD (4 * k + m) 0 = c := ⟨_, rfl⟩
          rw [hcc] at hc1 c0 c1 hpn
          rw [← Nat.add_assoc] at hc1
          obtain ⟨p, hp⟩ : ∃ p, part blk k m = p := ⟨_, rfl⟩
          rw [hp] at hc0 p0 p1 hpn
          have hor := or_byte p0 p1 c0 c1
          obtain ⟨q, hq⟩ : ∃ q, p * 256 + c = q := ⟨_, rfl⟩
          rw [hq] at hor hpn
          have HB2 : Hid (Blk .u32 315 (wr.setCell ⟨w.heap.size + 1, k, none⟩ (.int .u32 q)) (w.heap.size + 1) ((wz (wfirst blk k)).set k (part blk k (m + 1)))) := Lib.hid (by
            rw [hpn]
            have h := HBm.out.set (j := k) (v := q)
            rwa [List.set_set] at h)
          have HBu2 : Hid (Below (w.heap.size + 1) W (wr.setCell ⟨w.heap.size + 1, k, none⟩ (.int .u32 q))) := Lib.hid (HBu.out.setCell (Nat.le_refl _) _)
          clear hcc hp hq hpn HBm HBu
          go_wp2
          go_roundw
          case rel => exact ⟨m + 1, by omega, by go_num, HB2, HBu2⟩
          case measure => simp [intOf]; omega
        · obtain rfl : m = 4 := by omega
          have HB2 : Hid (Blk .u32 315 wr (w.heap.size + 1) (wz (wfirst blk (k + 1)))) := Lib.hid (by
            have h := HBm.out
            have e := wz_set (l := wfirst blk k) (x := word4 blk k) (by rw [wfirst_len]; omega)
            rw [wfirst_len] at e
            rw [part4, e, ← wfirst_succ] at h
            exact h)
          clear HBm
          go_wp2
          go_roundw
          case rel => exact ⟨k + 1, by omega, by go_num, HB2, HBu⟩
          case measure => simp [intOf]; omega
    · obtain rfl : k = 16 := by omega
      clear HW hlt
      have HB16 : Hid (Blk .u32 315 wr (w.heap.size + 1) (wz (wext (16 - 16) (wfirst blk 16)))) := Lib.hid (by rw [show 16 - 16 = 0 from rfl, wext]; exact HB.out)
      clear HB
      go_wp2
      rw [show (((16 : Nat) : Int)) = 16 from rfl]
      go_loopw [7] (fun i u => ∃ t : Nat, 16 ≤ t ∧ t ≤ 64 ∧ i = .int .i64 t ∧ Hid (Blk .u32 315 u (w.heap.size + 1) (wz (wext (t - 16) (wfirst blk 16)))) ∧ Hid (Below (w.heap.size + 1) W u)) (fun i _ => 64 - (intOf i).toNat)
      case atStart => exact ⟨16, by omega, by omega, rfl, HB16, HBr⟩
      case round =>
        obtain ⟨t, ht0, ht, rfl, HBt, HBu⟩ := hrel
        by_cases hlt : t < 64
        · obtain ⟨L, hL⟩ : ∃ L, wext (t - 16) (wfirst blk 16) = L := ⟨_, rfl⟩
          have hLn : L.length = t := by rw [← hL, wext_len, wfirst_len]; omega
          have hwz : (wz L).length = 64 := wz_len (by omega)
          rw [hL] at HBt
          have h15 := HBt.out.cell (j := t - 15) (by omega)
          have h2 := HBt.out.cell (j := t - 2) (by omega)
          have h16 := HBt.out.cell (j := t - 16) (by omega)
          have h7 := HBt.out.cell (j := t - 7) (by omega)
          have ht0' := HBt.out.cell (j := t) (by omega)
          have hfr := HBt.out.free t
          rw [wz_get (by omega)] at h15 h2 h16 h7
          have hnx : wext (t + 1 - 16) (wfirst blk 16) = L ++ [add32 (add32 (add32 (L.getD (t - 16) 0) (sgA (L.getD (t - 15) 0))) (L.getD (t - 7) 0)) (sgB (L.getD (t - 2) 0))] := by
            rw [show t + 1 - 16 = (t - 16) + 1 by omega, wext, hL, wnext, hLn]
          obtain ⟨x15, e15⟩ : ∃ x, L.getD (t - 15) 0 = x := ⟨_, rfl⟩
          obtain ⟨x2, e2⟩ : ∃ x, L.getD (t - 2) 0 = x := ⟨_, rfl⟩
          obtain ⟨x16, e16⟩ : ∃ x, L.getD (t - 16) 0 = x := ⟨_, rfl⟩
          obtain ⟨x7, e7⟩ : ∃ x, L.getD (t - 7) 0 = x := ⟨_, rfl⟩
          rw [e15] at h15 hnx
          rw [e2] at h2 hnx
          rw [e16] at h16 hnx
          rw [e7] at h7 hnx
          have HNX := Lib.hid hnx
          have HLN := Lib.hid hLn
          have i15 : ((t : Int) - 15).toNat = t - 15 := by omega
          have i2 : ((t : Int) - 2).toNat = t - 2 := by omega
          have i16 : ((t : Int) - 16).toNat = t - 16 := by omega
          have i7 : ((t : Int) - 7).toNat = t - 7 := by omega
          have j15 : (0 : Int) ≤ (t : Int) - 15 := by omega
          have j2 : (0 : Int) ≤ (t : Int) - 2 := by omega
          have j16 : (0 : Int) ≤ (t : Int) - 16 := by omega
          have j7 : (0 : Int) ≤ (t : Int) - 7 := by omega
          clear hnx e15 e2 e16 e7 hL hLn hwz
          go_wp2
          go_quiet (fail)
          have HBu2 := Lib.hid (below_drawN HBu.out nq)
          have HBt2 := Lib.hid (HBt.out.drew nq)
          obtain ⟨w2, hw2⟩ : ∃ u, wr.drewN nq = u := ⟨_, rfl⟩
          rw [hw2] at HBu2 HBt2
          have HW2 := Lib.hid hw2
          have g16 : w2.cell? ⟨w.heap.size + 1, t - 16, none⟩ = some (.int .u32 x16) := by rw [← hw2]; simpa using h16
          have g7 : w2.cell? ⟨w.heap.size + 1, t - 7, none⟩ = some (.int .u32 x7) := by rw [← hw2]; simpa using h7
          have gt : w2.cell? ⟨w.heap.size + 1, t, none⟩ = some (.int .u32 ((wz L).getD t 0)) := by rw [← hw2]; simpa using ht0'
          have gf : w2.frozen? ⟨w.heap.size + 1, t, none⟩ = false := by rw [← hw2]; simpa using hfr
          clear hw2 h15 h2 h16 h7 ht0' hfr HBu HBt
          go_wp2_with fail
          rw [HW2.out]
          refine (right_of x15 7 7 rfl (by decide) (by decide) _).mono ?_
          rintro e w' ⟨rfl, rfl⟩
          go_wp2_with fail
          refine (right_of x15 18 18 rfl (by decide) (by decide) _).mono ?_
          rintro e w' ⟨rfl, rfl⟩
          go_wp2_with fail
          refine (right_of x2 17 17 rfl (by decide) (by decide) _).mono ?_
          rintro e w' ⟨rfl, rfl⟩
          go_wp2_with fail
          refine (right_of x2 19 19 rfl (by decide) (by decide) _).mono ?_
          rintro e w' ⟨rfl, rfl⟩
          obtain ⟨r7, hr7⟩ : ∃ r, rotr x15 7 = r := ⟨_, rfl⟩
          obtain ⟨r18, hr18⟩ : ∃ r, rotr x15 18 = r := ⟨_, rfl⟩
          obtain ⟨r17, hr17⟩ : ∃ r, rotr x2 17 = r := ⟨_, rfl⟩
          obtain ⟨r19, hr19⟩ : ∃ r, rotr x2 19 = r := ⟨_, rfl⟩
          rw [hr7, hr18, hr17, hr19]
          obtain ⟨s0, hs0⟩ : ∃ r, bits .xor .u32 (bits .xor .u32 r7 r18) (x15 / 8) = r := ⟨_, rfl⟩
          obtain ⟨s1, hs1⟩ : ∃ r, bits .xor .u32 (bits .xor .u32 r17 r19) (x2 / 1024) = r := ⟨_, rfl⟩
          have ES0 : Hid (sgA x15 = s0) := Lib.hid (by rw [sgA, hr7, hr18, hs0])
          have ES1 : Hid (sgB x2 = s1) := Lib.hid (by rw [sgB, hr17, hr19, hs1])
          clear hr7 hr18 hr17 hr19
          go_wp2
          clear hs0 hs1
          obtain ⟨V, hV⟩ : ∃ V, (x16 + s0 + x7 + s1) % 4294967296 = V := ⟨_, rfl⟩
          have HV := Lib.hid hV
          have HN : Hid (wext (t + 1 - 16) (wfirst blk 16) = L ++ [V]) := Lib.hid (by
            rw [HNX.out, ES0.out, ES1.out, ← hV]
            simp only [add32, wrap_u32e]
            congr 2
            omega)
          have HB3 : Hid (Blk .u32 315 (w2.setCell ⟨w.heap.size + 1, t, none⟩ (.int .u32 V)).drew (w.heap.size + 1) (wz (wext (t + 1 - 16) (wfirst blk 16)))) := Lib.hid (by
            rw [HN.out]
            have h := HBt2.out.set (j := t) (v := V)
            have e := wz_set (l := L) (x := V) (by have := HLN.out; omega)
            rw [HLN.out] at e
            rw [e] at h
            exact h)
          have HBu3 : Hid (Below (w.heap.size + 1) W (w2.setCell ⟨w.heap.size + 1, t, none⟩ (.int .u32 V)).drew) := Lib.hid (HBu2.out.setCell (Nat.le_refl _) _).drew
          clear hV
          go_region
          rw [HV.out]
          clear g16 g7 gt gf
          go_wp2
          go_roundw
          case rel => exact ⟨t + 1, by omega, by omega, by go_num, HB3, HBu3⟩
          case measure => simp [intOf]; omega
        · have HBf : Hid (Blk .u32 315 wr (w.heap.size + 1) (schedL blk)) := Lib.hid (by
            have h := HBt.out
            rwa [show t - 16 = 48 by omega, wz_sched] at h)
          have HRf : Hid (Blk .u32 315 wr w.heap.size (zer 64)) := Lib.hid (HR0.out.keepB (Nat.lt_succ_self _) HBu.out)
          have HBF : Hid (Below w.heap.size w (wr.setRow w.heap.size (arr .u32 (schedL blk)))) := Lib.hid (below_setRow' (HBX.out.trans (HBu.out.mono (Nat.le_succ _))) (Nat.le_refl _))
          have HRR : Hid (Blk .u32 315 (wr.setRow w.heap.size (arr .u32 (schedL blk))) w.heap.size (schedL blk)) := Lib.hid (HRf.out.setRow)
          clear HBt
          go_wp2_with (first
            | ((with_reducible show wpList _ _ _ (⟨some 81, _, _, _, _, _⟩ :: _) _ _); refine wpList_load_row rfl 315 _ rfl (w.heap.size + 1) rfl _ _ _ _ HBf.out Tryz.underlying315 rfl (sched_info blk) ?_)
            | ((with_reducible show wpList _ _ _ (⟨none, _, _, _, _, _⟩ :: _) _ _); refine wpList_store_row rfl 315 _ _ rfl w.heap.size (arr .u32 (schedL blk)) rfl rfl _ _ HRf.out (sched_info blk) (sched_sz blk) (arr_one _) ?_))
          exact bodyPost_ret (v := .agg (arr .u32 (schedL blk))) (results_cell_row (p := 2) (ty := 315) rfl _ _ w.heap.size _ _ _ _ rfl HRR.out Tryz.underlying315 rfl (sched_info blk)) rfl ⟨rfl, HBF.out⟩
def VarsD (w : World) : Prop := (∀ k, k < 64 → w.cell? ⟨5, k, none⟩ = some (.int .u32 (KL.getD k 0))) ∧ (∀ k, k < 8 → w.cell? ⟨4, k, none⟩ = some (.int .u32 (st0.list.getD k 0)))
theorem VarsD.below {w w' : World} (h : VarsD w) (hb : Below w.heap.size w w') : VarsD w' := ⟨fun k hk => cell_below (h.1 k hk) hb, fun k hk => cell_below (h.2 k hk) hb⟩
def addL (s v : List Int) (k : Nat) : List Int := (List.range 8).map fun j => if j < k then add32 (s.getD j 0) (v.getD j 0) else s.getD j 0
theorem addL_len (s v : List Int) (k : Nat) : (addL s v k).length = 8 := by simp [addL]
theorem addL_get {s v : List Int} {k : Nat} (h : k < 8) : (addL s v k).getD k 0 = s.getD k 0 := by
  simp [addL, List.getD_eq_getElem?_getD, h]
theorem addL_set {s v : List Int} {k : Nat} (h : k < 8) : (addL s v k).set k (add32 (s.getD k 0) (v.getD k 0)) = addL s v (k + 1) := by
  apply List.ext_getElem?
  intro i
  by_cases hi : i < 8
  · by_cases e : k = i
    · subst e; simp [addL, List.getElem?_set, h]
    · have e2 : (i < k + 1) ↔ (i < k) := by omega
      simp [addL, List.getElem?_set, hi, e, e2]
  · rw [List.getElem?_eq_none (by rw [List.length_set, addL_len]; omega), List.getElem?_eq_none (by rw [addL_len]; omega)]
theorem addL_zero {s v : List Int} (h : s.length = 8) : addL s v 0 = s := by
  apply List.ext_getElem?
  intro i
  by_cases hi : i < 8
  · simp [addL, hi, h]
  · rw [List.getElem?_eq_none (by rw [addL_len]; omega), List.getElem?_eq_none (by omega)]
theorem addL_all (s v : St) : addL s.list v.list 8 = (addS s v).list := rfl
theorem arr8 (xa xb xc xd xe xf xg xh : Int) : (#[.int .u32 xa, .int .u32 xb, .int .u32 xc, .int .u32 xd, .int .u32 xe, .int .u32 xf, .int .u32 xg, .int .u32 xh] : Array Value) = arr .u32 (St.mk xa xb xc xd xe xf xg xh).list := rfl
theorem zarr8 : (#[.int .u32 0, .int .u32 0, .int .u32 0, .int .u32 0, .int .u32 0, .int .u32 0, .int .u32 0, .int .u32 0] : Array Value) = arr .u32 (zer 8) := rfl
theorem info8 : (Tryz.prog.info? 306).map (·.size) = some 8 := by kernel_rfl
theorem list8_info (s : St) : (Tryz.prog.info? 306).map (·.size) = some (arr .u32 s.list).size := info8
theorem idx8 (xa xb xc xd xe xf xg xh : Int) : ∀ k : Nat, k < 8 → ∀ w, (Instr.index 306 (.agg #[.int .u32 xa, .int .u32 xb, .int .u32 xc, .int .u32 xd, .int .u32 xe, .int .u32 xf, .int .u32 xg, .int .u32 xh]) (.int .i64 (k : Int))).run Tryz.prog w = .ok (.int .u32 ((St.mk xa xb xc xd xe xf xg xh).list.getD k 0)) w
  | 0, _ => fun w => by kernel_rfl
  | 1, _ => fun w => by kernel_rfl
  | 2, _ => fun w => by kernel_rfl
  | 3, _ => fun w => by kernel_rfl
  | 4, _ => fun w => by kernel_rfl
  | 5, _ => fun w => by kernel_rfl
  | 6, _ => fun w => by kernel_rfl
  | 7, _ => fun w => by kernel_rfl
  | k + 8, h => absurd h (by omega)
theorem ch_eq (e f g : Int) : bits .xor .u32 (bits .and .u32 e f) (bits .and .u32 (bits .xor .u32 (if IntKind.u32.signed = true then -1 else IntKind.u32.max) e) g) = chE e f g := rfl
theorem sbE_eq (e : Int) : bits .xor .u32 (bits .xor .u32 (rotr e 6) (rotr e 11)) (rotr e 25) = sbE e := rfl
def rxx (e f g h k w : Int) : Int := ((h + sbE e + chE e f g + k) % 4294967296 + w) % 4294967296
theorem rx_eq (e f g h k w : Int) : ((h + sbE e + chE e f g + k) % 4294967296 + w) % 4294967296 = rxx e f g h k w := rfl
def ryy (a b c : Int) : Int := (sbA a + maA a b c) % 4294967296
theorem rnd_eq (a b c d e f g h k w : Int) : rnd ⟨a, b, c, d, e, f, g, h⟩ k w = ⟨(rxx e f g h k w + ryy a b c) % 4294967296, a, b, c, (d + rxx e f g h k w) % 4294967296, e, f, g⟩ := by
  have hx : rndX ⟨a, b, c, d, e, f, g, h⟩ k w = rxx e f g h k w := by
    simp only [rndX, rxx, add32, wrap_u32e]
    omega
  simp only [rnd, hx, rndY, ryy, add32, wrap_u32e]
theorem quiet_w {P : Program} {f : FuncId} {args : Array Value} {w : World} {n : Nat} {v : Value}
    (h : Calls P f args (w.drewN n) fun e w' => e = .returned v ∧ w.drewN n = w') : Calls P f args (w.drewN n) fun e w'' => e = .returned v ∧ ∃ m, w'' = w.drewN m :=
  h.mono fun _ _ ⟨he, hm⟩ => ⟨he, n, hm.symm⟩
set_option maxHeartbeats 3200000 in
theorem mix_any (s : St) (b o cap : Nat) (blk : List Int) (hlen : Hid (blk.length = 64)) (hby : Hid (bytesB blk = true)) (w : World) (hs : Hid (Sk .u8 w (some ⟨b, o, none⟩) blk)) (hcap : 64 ≤ cap) (hcm : cap ≤ 9223372036854775807) (hv : Hid (VarsD w)) :
    Calls Tryz.prog 298 #[.agg (arr .u32 s.list), .slice (some ⟨b, o, none⟩) 64 cap] w fun e w' => e = .returned (.agg (arr .u32 (mixS s blk).list)) ∧ Below w.heap.size w w' := by
  obtain ⟨xa, xb, xc, xd, xe, xf, xg, xh⟩ := s
  rw [← arr8]
  obtain ⟨W, hW⟩ : ∃ W, (w.alloc (.cells #[.int .u32 xa, .int .u32 xb, .int .u32 xc, .int .u32 xd, .int .u32 xe, .int .u32 xf, .int .u32 xg, .int .u32 xh] 306)).alloc (.cells #[.int .u32 0, .int .u32 0, .int .u32 0, .int .u32 0, .int .u32 0, .int .u32 0, .int .u32 0, .int .u32 0] 306) = W := ⟨_, rfl⟩
  have HBX : Hid (Below w.heap.size w W) := Lib.hid (by rw [← hW]; exact below_two (Below.refl _ _))
  have HB0 : Hid (Blk .u32 306 W w.heap.size (St.mk xa xb xc xd xe xf xg xh).list) := Lib.hid (by
    rw [← hW, arr8]
    exact heap_alloc2_old _ _ _)
  have HZ0 : Hid (Blk .u32 306 W (w.heap.size + 1) (zer 8)) := Lib.hid (by
    rw [← hW, zarr8]
    exact heap_alloc2_new _ _ _)
  have HS := Lib.hid (hs.out.below HBX.out)
  have HV := Lib.hid (hv.out.below HBX.out)
  have HW := Lib.hid hW
  have HSZ : Hid (w.heap.size + 2 = W.heap.size) := Lib.hid (by rw [← hW]; simp)
  clear hW hs hv
  go_enter Tryz.func298, Tryz.ntmps298
  go_wp2_with fail
  rw [HW.out]
  refine (sched_any b o cap blk hlen hby _ HS hcap hcm).mono ?_
  rintro e w1 ⟨rfl, hb1⟩
  have HB1 := Lib.hid (HB0.out.below hb1)
  have HZ1 := Lib.hid (HZ0.out.below hb1)
  have HV1 := Lib.hid (HV.out.below hb1)
  have HSZ1 : Hid (w.heap.size + 2 ≤ w1.heap.size) := Lib.hid (by have := hb1.size; have := HSZ.out; omega)
  have HBW := Lib.hid (below_ext HBX.out hb1)
  clear hb1 HW
  go_wp2_with ((with_reducible show wpList _ _ _ (⟨none, _, _, _, _, _⟩ :: _) _ _); refine wpList_store_row rfl 315 _ _ rfl w1.heap.size (arr .u32 (schedL blk)) rfl rfl _ _ (heap_alloc_new _ _) (sched_info blk) (sched_sz blk) (arr_one _) ?_)
  rw [World.setRow_alloc_new]
  have HBW2 := Lib.hid (below_ext HBW.out (below_box0 w1 (.cells (arr .u32 (schedL blk)) 315)))
  have HB2 := Lib.hid (HB1.out.below (below_box0 w1 (.cells (arr .u32 (schedL blk)) 315)))
  have HZ2 := Lib.hid (HZ1.out.below (below_box0 w1 (.cells (arr .u32 (schedL blk)) 315)))
  have HV2 := Lib.hid (HV1.out.below (below_box0 w1 (.cells (arr .u32 (schedL blk)) 315)))
  have HW2 : Hid (Blk .u32 315 (w1.alloc (.cells (arr .u32 (schedL blk)) 315)) w1.heap.size (schedL blk)) := Lib.hid (Blk.new _ _)
  obtain ⟨W2, hW2⟩ : ∃ u, w1.alloc (.cells (arr .u32 (schedL blk)) 315) = u := ⟨_, rfl⟩
  have HSZ2 : Hid (w1.heap.size < W2.heap.size) := Lib.hid (by rw [← hW2]; simp)
  rw [hW2] at HBW2 HB2 HZ2 HV2 HW2 ⊢
  clear hW2 HB1 HZ1 HV1 HBW HB0 HZ0 HV HS
  obtain ⟨g0, g1, g2, g3, g4, g5, g6, g7⟩ : W2.cell? ⟨w.heap.size, 0, none⟩ = some (.int .u32 xa) ∧ W2.cell? ⟨w.heap.size, 1, none⟩ = some (.int .u32 xb) ∧ W2.cell? ⟨w.heap.size, 2, none⟩ = some (.int .u32 xc) ∧ W2.cell? ⟨w.heap.size, 3, none⟩ = some (.int .u32 xd) ∧ W2.cell? ⟨w.heap.size, 4, none⟩ = some (.int .u32 xe) ∧ W2.cell? ⟨w.heap.size, 5, none⟩ = some (.int .u32 xf) ∧ W2.cell? ⟨w.heap.size, 6, none⟩ = some (.int .u32 xg) ∧ W2.cell? ⟨w.heap.size, 7, none⟩ = some (.int .u32 xh) :=
    ⟨HB2.out.cell (j := 0) (show 0 < 8 by decide), HB2.out.cell (j := 1) (show 1 < 8 by decide), HB2.out.cell (j := 2) (show 2 < 8 by decide), HB2.out.cell (j := 3) (show 3 < 8 by decide), HB2.out.cell (j := 4) (show 4 < 8 by decide), HB2.out.cell (j := 5) (show 5 < 8 by decide), HB2.out.cell (j := 6) (show 6 < 8 by decide), HB2.out.cell (j := 7) (show 7 < 8 by decide)⟩
  obtain ⟨ws, hws⟩ : ∃ l, schedL blk = l := ⟨_, rfl⟩
  have HWS : Kp (schedL blk = ws) := ⟨hws⟩
  have HWL : Hid (ws.length = 64) := Lib.hid (by rw [← hws, schedL_len])
  rw [hws] at HW2
  rw [hws]
  clear hws
  go_wp2
  go_quiet (fail)
  have HBq := Lib.hid (below_drawN (Below.refl W2.heap.size W2) nq)
  clear g0 g1 g2 g3 g4 g5 g6 g7
  go_wp2
  go_loopw [6, 7, 8, 9, 10, 11, 12, 13, 37] (fun a b c d e f g h i u => ∃ (k : Nat) (ya yb yc yd ye yf yg yh : Int), k ≤ 64 ∧ i = .int .i64 k ∧ a = .int .u32 ya ∧ b = .int .u32 yb ∧ c = .int .u32 yc ∧ d = .int .u32 yd ∧ e = .int .u32 ye ∧ f = .int .u32 yf ∧ g = .int .u32 yg ∧ h = .int .u32 yh ∧ Hid (rnds ws ⟨xa, xb, xc, xd, xe, xf, xg, xh⟩ k = ⟨ya, yb, yc, yd, ye, yf, yg, yh⟩) ∧ Hid (Below W2.heap.size W2 u)) (fun _ _ _ _ _ _ _ _ i _ => 64 - (intOf i).toNat)
  case atStart => exact ⟨0, xa, xb, xc, xd, xe, xf, xg, xh, by omega, rfl, rfl, rfl, rfl, rfl, rfl, rfl, rfl, rfl, Lib.hid rfl, HBq⟩
  case round =>
    obtain ⟨k, ya, yb, yc, yd, ye, yf, yg, yh, hk, rfl, rfl, rfl, rfl, rfl, rfl, rfl, rfl, rfl, HR, HBu⟩ := hrel
    by_cases hlt : k < 64
    · have hk0 := (HV2.out.below HBu.out).1 k hlt
      have hk1 := (HW2.out.below HBu.out).cell (j := k) (by have := HWL.out; omega)
      have hnx : rnds ws ⟨xa, xb, xc, xd, xe, xf, xg, xh⟩ (k + 1) = rnd ⟨ya, yb, yc, yd, ye, yf, yg, yh⟩ (KL.getD k 0) (ws.getD k 0) := by rw [rnds, HR.out]
      obtain ⟨kc, ekc⟩ : ∃ x, KL.getD k 0 = x := ⟨_, rfl⟩
      obtain ⟨wc, ewc⟩ : ∃ x, ws.getD k 0 = x := ⟨_, rfl⟩
      rw [ekc] at hk0 hnx
      rw [ewc] at hk1 hnx
      have HNX := Lib.hid hnx
      clear hnx ekc ewc
      go_wp2_with fail
      go_quiet ((go_at_call 312; exact quiet_w (right_int _ _ (by decide) (by decide) _)))
      rw [ch_eq, sbE_eq, rx_eq]
      obtain ⟨X, hX⟩ : ∃ X, rxx ye yf yg yh kc wc = X := ⟨_, rfl⟩
      rw [hX]
      have HX := Lib.hid hX
      have HBu2 := Lib.hid (below_drawN HBu.out nq)
      obtain ⟨w3, hw3⟩ : ∃ u, wr.drewN nq = u := ⟨_, rfl⟩
      rw [hw3] at HBu2 ⊢
      clear hX hw3 hk0 hk1 HBu
      go_wp2_with fail
      refine (right_of ya 2 2 rfl (by decide) (by decide) _).mono ?_
      rintro e w' ⟨rfl, rfl⟩
      go_wp2_with fail
      refine (right_of ya 13 13 rfl (by decide) (by decide) _).mono ?_
      rintro e w' ⟨rfl, rfl⟩
      go_wp2_with fail
      refine (right_of ya 22 22 rfl (by decide) (by decide) _).mono ?_
      rintro e w' ⟨rfl, rfl⟩
      obtain ⟨r2, hr2⟩ : ∃ r, rotr ya 2 = r := ⟨_, rfl⟩
      obtain ⟨r13, hr13⟩ : ∃ r, rotr ya 13 = r := ⟨_, rfl⟩
      obtain ⟨r22, hr22⟩ : ∃ r, rotr ya 22 = r := ⟨_, rfl⟩
      rw [hr2, hr13, hr22]
      obtain ⟨Y, hY⟩ : ∃ Y, ryy ya yb yc = Y := ⟨_, rfl⟩
      have HY : Kp ((bits .xor .u32 (bits .xor .u32 r2 r13) r22 + bits .xor .u32 (bits .xor .u32 (bits .and .u32 ya yb) (bits .and .u32 ya yc)) (bits .and .u32 yb yc)) % 4294967296 = Y) := ⟨by rw [← hY, ← hr2, ← hr13, ← hr22]; rfl⟩
      have HY2 := Lib.hid hY
      have HR2 : Hid (rnds ws ⟨xa, xb, xc, xd, xe, xf, xg, xh⟩ (k + 1) = ⟨(X + Y) % 4294967296, ya, yb, yc, (yd + X) % 4294967296, ye, yf, yg⟩) := Lib.hid (by
        rw [HNX.out, rnd_eq, HX.out, HY2.out])
      clear hr2 hr13 hr22 hY HNX
      go_wp2_with fail
      go_roundw
      case rel => exact ⟨k + 1, _, _, _, _, _, _, _, _, by omega, by go_num, rfl, rfl, rfl, rfl, rfl, rfl, rfl, rfl, by rw [HY.out]; exact HR2, HBu2⟩
      case measure => simp [intOf]; omega
    · have HRF : Kp (rnds (schedL blk) ⟨xa, xb, xc, xd, xe, xf, xg, xh⟩ 64 = ⟨ya, yb, yc, yd, ye, yf, yg, yh⟩) := ⟨by
        have h := HR.out
        rwa [show k = 64 by omega, ← HWS.out] at h⟩
      have HB3 : Hid (Blk .u32 306 wr w.heap.size (addL (St.mk xa xb xc xd xe xf xg xh).list (St.mk ya yb yc yd ye yf yg yh).list 0)) := Lib.hid (by
        rw [addL_zero rfl]
        exact HB2.out.below HBu.out)
      have HZ3 := Lib.hid (HZ2.out.below HBu.out)
      have HBW3 := Lib.hid (below_ext HBW2.out HBu.out)
      clear HR HBu HB2 HZ2 HBW2 HW2 HV2 HWL HWS HBq
      go_wp2
      go_loopw [109] (fun i u => ∃ m : Nat, m ≤ 8 ∧ i = .int .i64 m ∧ Hid (Blk .u32 306 u w.heap.size (addL (St.mk xa xb xc xd xe xf xg xh).list (St.mk ya yb yc yd ye yf yg yh).list m)) ∧ Hid (Blk .u32 306 u (w.heap.size + 1) (zer 8)) ∧ Hid (Below w.heap.size w u)) (fun i _ => 8 - (intOf i).toNat)
      case atStart => exact ⟨0, by omega, rfl, HB3, HZ3, HBW3⟩
      case round =>
        obtain ⟨m, hm, rfl, HBm, HZm, HBu⟩ := hrel
        by_cases hlm : m < 8
        · have hi := idx8 ya yb yc yd ye yf yg yh m hlm
          have hc := HBm.out.cell (j := m) (by rw [addL_len]; exact hlm)
          have hf := HBm.out.free m
          rw [addL_get hlm] at hc
          obtain ⟨s0, e0⟩ : ∃ x, (St.mk xa xb xc xd xe xf xg xh).list.getD m 0 = x := ⟨_, rfl⟩
          obtain ⟨v0, e1⟩ : ∃ x, (St.mk ya yb yc yd ye yf yg yh).list.getD m 0 = x := ⟨_, rfl⟩
          have hst := addL_set (s := (St.mk xa xb xc xd xe xf xg xh).list) (v := (St.mk ya yb yc yd ye yf yg yh).list) hlm
          rw [e0, e1, add32, wrap_u32e] at hst
          rw [e0] at hc
          rw [e1] at hi
          have HB4 : Hid (Blk .u32 306 (wr.setCell ⟨w.heap.size, m, none⟩ (.int .u32 ((s0 + v0) % 4294967296))) w.heap.size (addL (St.mk xa xb xc xd xe xf xg xh).list (St.mk ya yb yc yd ye yf yg yh).list (m + 1))) := Lib.hid (by
            rw [← hst]
            exact HBm.out.set)
          have HZ4 : Hid (Blk .u32 306 (wr.setCell ⟨w.heap.size, m, none⟩ (.int .u32 ((s0 + v0) % 4294967296))) (w.heap.size + 1) (zer 8)) := Lib.hid (HZm.out.set_ne (by omega))
          have HB5 : Hid (Below w.heap.size w (wr.setCell ⟨w.heap.size, m, none⟩ (.int .u32 ((s0 + v0) % 4294967296)))) := Lib.hid (HBu.out.setCell (Nat.le_refl _) _)
          clear hst e0 e1 HBm HZm HBu
          go_wp2
          go_roundw
          case rel => exact ⟨m + 1, by omega, by go_num, HB4, HZ4, HB5⟩
          case measure => simp [intOf]; omega
        · obtain ⟨T, hT⟩ : ∃ T, addS ⟨xa, xb, xc, xd, xe, xf, xg, xh⟩ ⟨ya, yb, yc, yd, ye, yf, yg, yh⟩ = T := ⟨_, rfl⟩
          have HBf : Hid (Blk .u32 306 wr w.heap.size T.list) := Lib.hid (by
            have h := HBm.out
            rwa [show m = 8 by omega, addL_all, hT] at h)
          have HT : Kp (mixS ⟨xa, xb, xc, xd, xe, xf, xg, xh⟩ blk = T) := ⟨by rw [mixS, HRF.out, hT]⟩
          have HRR : Hid (Blk .u32 306 (wr.setRow (w.heap.size + 1) (arr .u32 T.list)) (w.heap.size + 1) T.list) := Lib.hid HZm.out.setRow
          have HBF : Hid (Below w.heap.size w (wr.setRow (w.heap.size + 1) (arr .u32 T.list))) := Lib.hid (below_setRow' HBu.out (Nat.le_succ _))
          clear hT HRF HBm
          go_wp2_with (first
            | ((with_reducible show wpList _ _ _ (⟨some 120, _, _, _, _, _⟩ :: _) _ _); refine wpList_load_row rfl 306 _ rfl w.heap.size rfl _ _ _ _ HBf.out Tryz.underlying306 rfl (list8_info T) ?_)
            | ((with_reducible show wpList _ _ _ (⟨none, _, _, _, _, _⟩ :: _) _ _); refine wpList_store_row rfl 306 _ _ rfl (w.heap.size + 1) (arr .u32 T.list) rfl rfl _ _ HZm.out (list8_info T) rfl (arr_one _) ?_))
          rw [HT.out]
          exact bodyPost_ret (v := .agg (arr .u32 T.list)) (results_cell_row (p := 4) (ty := 306) rfl _ _ (w.heap.size + 1) _ _ _ _ rfl HRR.out Tryz.underlying306 rfl (list8_info T)) rfl ⟨rfl, HBF.out⟩
end Go.Proofs.YtjnoaejikapmdaaGreatDoor
namespace Go.Proofs.YtjnoaejikapmdaaGreatDoor
open Go.ChangeShapes Go.WideShapes Go.ChangeAt Go.RowKit SpM
set_option linter.unusedVariables false
set_option maxRecDepth 100000
theorem gConst : Tryz.prog.globalNamed "specie/digest.constants" = some 5 := by kernel_rfl
theorem gConstType : (Tryz.prog.globals[5]?).map (·.type) = some 315 := by kernel_rfl
theorem gStart : Tryz.prog.globalNamed "specie/digest.start" = some 4 := by kernel_rfl
theorem gStartType : (Tryz.prog.globals[4]?).map (·.type) = some 306 := by kernel_rfl
theorem cellsConst : Tryz.prog.cellsOf 315 = 64 := by kernel_rfl
theorem cellsStart : Tryz.prog.cellsOf 306 = 8 := by kernel_rfl
theorem cellsU32 : Tryz.prog.cellsOf 278 = 1 := by kernel_rfl
theorem vars_of_laid4 {W : World} (h : laidMetH Tryz.prog [("math/bits.deBruijn64tab", Rows.laid_math_bits_deBruijn64tab), ("specie/prime.bases", Rows.laid_specie_prime_bases), ("specie/digest.constants", Rows.laid_specie_digest_constants), ("specie/digest.start", Rows.laid_specie_digest_start)] W) : Vars W ∧ VarsD W := by
  have h1 : laidMet Tryz.prog [("math/bits.deBruijn64tab", Rows.laid_math_bits_deBruijn64tab), ("specie/prime.bases", Rows.laid_specie_prime_bases), ("specie/digest.constants", Rows.laid_specie_digest_constants), ("specie/digest.start", Rows.laid_specie_digest_start)] W := h
  have t1 : Lib.TabIs Tryz.prog W "math/bits.deBruijn64tab" .u8 (Lib.deBruijn64tab.map Int.ofNat) := Lib.tabIs_of_head (rest := [("specie/prime.bases", Rows.laid_specie_prime_bases), ("specie/digest.constants", Rows.laid_specie_digest_constants), ("specie/digest.start", Rows.laid_specie_digest_start)]) gTab gTabType Tryz.underlying274 Tryz.underlying5 cellsU8 cellsTab h1
  have t2 : Lib.TabIs Tryz.prog W "specie/prime.bases" .u64 [2, 3, 5, 7, 11, 13, 17, 19, 23, 29, 31, 37] := Lib.tabIs_of_head (rest := [("specie/digest.constants", Rows.laid_specie_digest_constants), ("specie/digest.start", Rows.laid_specie_digest_start)]) gBases gBasesType Tryz.underlying226 Tryz.underlying218 cellsU64 cellsBases h1.tail
  have t3 : Lib.TabIs Tryz.prog W "specie/digest.constants" .u32 KL := Lib.tabIs_of_head (rest := [("specie/digest.start", Rows.laid_specie_digest_start)]) gConst gConstType Tryz.underlying315 Tryz.underlying278 cellsU32 cellsConst h1.tail.tail
  have t4 : Lib.TabIs Tryz.prog W "specie/digest.start" .u32 st0.list := Lib.tabIs_of_head (rest := []) gStart gStartType Tryz.underlying306 Tryz.underlying278 cellsU32 cellsStart h1.tail.tail.tail
  refine ⟨⟨fun k hk => ?_, fun j hj => ?_⟩, fun k hk => ?_, fun k hk => ?_⟩
  · rw [t2.cell gBases k hk]; rfl
  · rw [t1.cell gTab j (by simpa using hj)]
    rw [List.getD_eq_getElem?_getD, List.getD_eq_getElem?_getD, List.getElem?_map]
    rw [List.getElem?_eq_getElem hj]
    rfl
  · rw [t3.cell gConst k hk]
  · rw [t4.cell gStart k hk]
def layConst : Obj → Obj
  | .cells _ t frozen => .cells (KL.map fun n => Value.int .u32 n).toArray t frozen
  | o => o
def layStart : Obj → Obj
  | .cells _ t frozen => .cells (st0.list.map fun n => Value.int .u32 n).toArray t frozen
  | o => o
noncomputable def laidWorld4 (os : Os) : World :=
  { World.holding Tryz.prog os ⟨#[], #[], []⟩ with heap := ((((World.holding Tryz.prog os ⟨#[], #[], []⟩).heap.modify 0 layBases).modify 3 layTab).modify 5 layConst).modify 4 layStart }
end Go.Proofs.YtjnoaejikapmdaaGreatDoor
namespace Go.Proofs.YtjnoaejikapmdaaGreatDoor
open Go.RowKit SpM
set_option linter.unusedVariables false
set_option linter.unusedSimpArgs false
set_option maxRecDepth 20000
set_option maxHeartbeats 800000 in
theorem lelement_any (P Q G x : Int) (b : Bool) (hb : Hid (memG P Q x = b)) (h1 : P < 2305843009213693952) (hQ0 : 0 ≤ Q) (hQ : Q < 9223372036854775808) (w : World) :
    Calls Tryz.prog 314 #[gv P Q G, .int .i64 x] w fun e' w' => e' = .returned (.bool b) ∧ Below w.heap.size w w' := by
  by_cases hx : x < 1
  · obtain rfl : b = false := by rw [← hb.out]; simp [memG]; omega
    go_enter Tryz.func314, Tryz.ntmps314
    go_wp2
    go_ret
    exact ⟨rfl, below_box0 _ _⟩
  · by_cases hx2 : P ≤ x
    · obtain rfl : b = false := by rw [← hb.out]; simp [memG]; omega
      go_enter Tryz.func314, Tryz.ntmps314
      go_wp2
      go_ret
      exact ⟨rfl, below_box0 _ _⟩
    · have d1 : decide (x < 1) = false := by simp; omega
      have d2 : decide (P ≤ x) = false := by simp; omega
      obtain ⟨y, hy⟩ : ∃ y, pw x Q P = y := ⟨_, rfl⟩
      have g9 : ((y : Int) == 1) = b := by
        rw [← hb.out, ← hy, memG, Bool.eq_iff_iff]
        simp only [beq_iff_eq, decide_eq_true_eq]
        exact ⟨fun h => ⟨by omega, by omega, h⟩, fun h => h.2.2⟩
      have HX := Lib.hid hy
      clear hy hb
      go_enter Tryz.func314, Tryz.ntmps314
      go_wp2_with fail
      refine (pow_ok x Q P (by omega) h1 (by omega) (by omega) hQ0 hQ _).mono ?_
      rintro e w' ⟨rfl, n3, rfl⟩
      rw [HX.out]
      go_wp2
      go_ret
      exact ⟨rfl, below_box _ _ _⟩
def scB (Q x : Int) : Bool := decide (0 ≤ x) && decide (x < Q)
theorem says_lel (P Q G : Int) (a : Nat) (h1 : P < 2305843009213693952) (hQ0 : 0 ≤ Q) (hQ : Q < 9223372036854775808) (W : World) (hx : Hid (GBox W a P Q G)) :
    Says 313 #[.pointer (some ⟨a, 0, none⟩)] (fun x => !memG P Q x) W := fun x w1 hb => by
  show Calls Tryz.prog 313 #[.int .i64 x, .pointer (some ⟨a, 0, none⟩)] w1 fun e w' => e = .returned (.bool (!memG P Q x)) ∧ Below w1.heap.size w1 w'
  obtain ⟨c0, c1, c2⟩ := hx.out.below hb
  obtain ⟨r, hr⟩ : ∃ r, memG P Q x = r := ⟨_, rfl⟩
  have HR := Lib.hid hr
  rw [hr]
  clear hr hb
  go_enter Tryz.func313, Tryz.ntmps313
  go_wp2_with fail
  refine (lelement_any P Q G x r HR h1 hQ0 hQ _).mono ?_
  rintro e w2 ⟨rfl, hb0⟩
  go_wp2
  go_ret
  exact ⟨rfl, hb0⟩
theorem says_lsc (P Q G : Int) (a : Nat) (W : World) (hx : Hid (GBox W a P Q G)) :
    Says 301 #[.pointer (some ⟨a, 0, none⟩)] (fun x => !scB Q x) W := fun x w1 hb => by
  show Calls Tryz.prog 301 #[.int .i64 x, .pointer (some ⟨a, 0, none⟩)] w1 fun e w' => e = .returned (.bool (!scB Q x)) ∧ Below w1.heap.size w1 w'
  obtain ⟨c0, c1, c2⟩ := hx.out.below hb
  by_cases h0 : x < 0
  · have e : scB Q x = false := by simp [scB]; omega
    rw [e]
    have d0 : decide (x < 0) = true := by simp; omega
    clear hb e
    go_enter Tryz.func301, Tryz.ntmps301
    go_wp2
    go_ret
    exact ⟨rfl, Below.refl _ _⟩
  · have d0 : decide (x < 0) = false := by simp; omega
    obtain ⟨t, ht⟩ : ∃ t, decide (Q ≤ x) = t := ⟨_, rfl⟩
    have e : scB Q x = !t := by
      rw [← ht, scB, decide_eq_true (show (0 : Int) ≤ x by omega), Bool.true_and, ← decide_not]
      exact decide_eq_decide.2 (by omega)
    rw [e, Bool.not_not]
    clear hb e
    go_enter Tryz.func301, Tryz.ntmps301
    go_wp2
    go_ret
    exact ⟨by first | rfl | rw [ht], Below.refl _ _⟩
theorem any_not_all {f : Int → Bool} {xs : List Int} : (xs.any fun x => !f x) = !(xs.all f) := by
  induction xs with
  | nil => rfl
  | cons x xs ih => rw [List.any_cons, List.all_cons, ih, Bool.not_and]
theorem elements_any (P Q G : Int) (A : Option Addr) (xs : List Int) (n c : Nat) (r : Bool) (hr : Hid (xs.all (memG P Q) = r)) (hn : Hid (xs.length = n)) (hbig : Hid (n < 1000000)) (h1 : P < 2305843009213693952) (hQ0 : 0 ≤ Q) (hQ : Q < 9223372036854775808) (w : World) (hs : Hid (Sl w A xs)) :
    Calls Tryz.prog 299 #[gv P Q G, .slice A n c] w fun e' w' => e' = .returned (.bool r) ∧ Below w.heap.size w w' := by
  have HX0 := Lib.hid (gbox_alloc w P Q G)
  have HS0 := Lib.hid (hs.out.below (below_box0 w (gObj P Q G)))
  have HSy := Lib.hid (says_lel P Q G w.heap.size h1 hQ0 hQ _ HX0)
  have HP : Hid ((xs.any fun x => !memG P Q x) = !r) := Lib.hid (by rw [any_not_all, hr.out])
  clear hs
  go_enter Tryz.func299, Tryz.ntmps299
  go_wp2_with fail
  refine (cf_lel (.pointer (some ⟨w.heap.size, 0, none⟩)) (fun x => !memG P Q x) (!r) A xs n c HP hn hbig _ HS0 HSy).mono ?_
  rintro e w1 ⟨rfl, hb0⟩
  have hb1 := below_ext (below_box0 _ _) hb0
  clear hb0
  go_wp2
  go_ret
  exact ⟨by simp, hb1⟩
theorem scalars_any (P Q G : Int) (A : Option Addr) (xs : List Int) (n c : Nat) (r : Bool) (hr : Hid (xs.all (scB Q) = r)) (hn : Hid (xs.length = n)) (hbig : Hid (n < 1000000)) (w : World) (hs : Hid (Sl w A xs)) :
    Calls Tryz.prog 268 #[gv P Q G, .slice A n c] w fun e' w' => e' = .returned (.bool r) ∧ Below w.heap.size w w' := by
  have HX0 := Lib.hid (gbox_alloc w P Q G)
  have HS0 := Lib.hid (hs.out.below (below_box0 w (gObj P Q G)))
  have HSy := Lib.hid (says_lsc P Q G w.heap.size _ HX0)
  have HP : Hid ((xs.any fun x => !scB Q x) = !r) := Lib.hid (by rw [any_not_all, hr.out])
  clear hs
  go_enter Tryz.func268, Tryz.ntmps268
  go_wp2_with fail
  refine (cf_lsc (.pointer (some ⟨w.heap.size, 0, none⟩)) (fun x => !scB Q x) (!r) A xs n c HP hn hbig _ HS0 HSy).mono ?_
  rintro e w1 ⟨rfl, hb0⟩
  have hb1 := below_ext (below_box0 _ _) hb0
  clear hb0
  go_wp2
  go_ret
  exact ⟨by simp, hb1⟩
structure Row where
  p : Option Addr
  n : Nat
  c : Nat
  xs : List Int
abbrev Row.val (r : Row) : Value := .slice r.p r.n r.c
abbrev noRow : Row := ⟨none, 0, 0, []⟩
def RowOk (w : World) (r : Row) : Prop := r.xs.length = r.n ∧ Sl w r.p r.xs
theorem RowOk.below {w w' : World} {r : Row} (h : RowOk w r) (hb : Below w.heap.size w w') : RowOk w' r := ⟨h.1, h.2.below hb⟩
def Rw (w : World) (A : Option Addr) (rs : List Row) : Prop := ∀ k, k < rs.length → (∃ b o, A = some ⟨b, o, none⟩ ∧ w.cell? ⟨b, o + k, none⟩ = some (rs.getD k noRow).val) ∧ RowOk w (rs.getD k noRow)
theorem Rw.below {w w' : World} {A : Option Addr} {rs : List Row} (h : Rw w A rs) (hb : Below w.heap.size w w') : Rw w' A rs := fun k hk => by
  obtain ⟨⟨b, o, h1, h2⟩, h3⟩ := h k hk
  exact ⟨⟨b, o, h1, (hb.cell (World.block_lt_of_cell? _ _ h2)).trans h2⟩, h3.below hb⟩
def SaysR (g : FuncId) (caps : Array Value) (p : Row → Bool) (W : World) : Prop :=
  ∀ (r : Row) (w1 : World), Below W.heap.size W w1 → RowOk w1 r → Calls Tryz.prog g (#[r.val] ++ caps) w1 fun e w' => e = .returned (.bool (p r)) ∧ Below w1.heap.size w1 w'
theorem anyR_step {f : Row → Bool} {xs : List Row} {k : Nat} (hk : k < xs.length) (h : f (xs.getD k noRow) = false) : (xs.drop k).any f = (xs.drop (k + 1)).any f := by
  rw [List.drop_eq_getElem_cons hk, List.any_cons]
  rw [List.getD_eq_getElem?_getD, List.getElem?_eq_getElem hk] at h
  simp at h
  rw [h, Bool.false_or]
theorem anyR_hit {f : Row → Bool} {xs : List Row} {k : Nat} (hk : k < xs.length) (h : f (xs.getD k noRow) = true) : (xs.drop k).any f = true := by
  rw [List.drop_eq_getElem_cons hk, List.any_cons]
  rw [List.getD_eq_getElem?_getD, List.getElem?_eq_getElem hk] at h
  simp at h
  rw [h, Bool.true_or]
def IdxOutR (p : Row → Bool) (xs : List Row) (w : World) (e : Ending) (w' : World) : Prop := ∃ i : Int, e = .returned (.int .i64 i) ∧ decide (0 ≤ i) = xs.any p ∧ Below w.heap.size w w'
set_option maxHeartbeats 1600000 in
theorem idxr_lv (c0 : Value) (c1 : Value) (p : Row → Bool) (A : Option Addr) (xs : List Row) (n c : Nat) (hn : Hid (xs.length = n)) (hbig : Hid (n < 1000000)) (w : World) (hs : Hid (Rw w A xs)) (hp : Hid (SaysR 300 #[c0, c1] p w)) :
    Calls Tryz.prog 255 #[.slice A n c, .func (.func 300) #[] #[c0, c1]] w (IdxOutR p xs w) := by
  have hn0 : n < 1000000 := hbig.out
  go_enter Tryz.func255, Tryz.ntmps255
  go_wp2
  go_loopw [8] (fun i wr => ∃ k : Nat, k ≤ n ∧ i = .int .i64 k ∧ Hid (xs.any p = (xs.drop k).any p) ∧ Hid (Below w.heap.size w wr)) (fun i _ => n - (intOf i).toNat)
  case atStart => exact ⟨0, by omega, rfl, Lib.hid rfl, Lib.hid (Below.refl _ _)⟩
  case round =>
    obtain ⟨k, hk, rfl, HR, HBr⟩ := hrel
    by_cases hlt : k < n
    · have hkl : k < xs.length := by rw [hn.out]; exact hlt
      obtain ⟨⟨b, o, hA, hi⟩, hok⟩ := hs.out.below HBr.out k hkl
      subst hA
      cases hpx : p (xs.getD k noRow) with
      | false =>
        have HN : Hid (xs.any p = (xs.drop (k + 1)).any p) := Lib.hid (HR.out.trans (anyR_step hkl hpx))
        obtain ⟨x, hx⟩ : ∃ x, xs.getD k noRow = x := ⟨_, rfl⟩
        rw [hx] at hi hpx hok
        have HC := Lib.hid (hp.out x wr HBr.out hok)
        have HPX := Lib.hid hpx
        obtain ⟨xp, xn, xc, xl⟩ := x
        dsimp only [Row.val] at hi
        clear hx hkl hpx HR hok
        go_wp2_with fail
        refine HC.out.mono ?_
        rintro e w2 ⟨rfl, hb0⟩
        rw [HPX.out]
        have HB2 := Lib.hid (below_ext HBr.out hb0)
        clear hb0
        go_wp2
        go_roundw
        case rel => exact ⟨k + 1, by omega, by go_num, HN, HB2⟩
        case measure => simp [intOf]; omega
      | true =>
        have HN : Hid (decide ((0 : Int) ≤ (k : Int)) = xs.any p) := Lib.hid (by rw [HR.out, anyR_hit hkl hpx]; simp)
        obtain ⟨x, hx⟩ : ∃ x, xs.getD k noRow = x := ⟨_, rfl⟩
        rw [hx] at hi hpx hok
        have HC := Lib.hid (hp.out x wr HBr.out hok)
        have HPX := Lib.hid hpx
        obtain ⟨xp, xn, xc, xl⟩ := x
        dsimp only [Row.val] at hi
        clear hx hkl hpx HR hok
        go_wp2_with fail
        refine HC.out.mono ?_
        rintro e w2 ⟨rfl, hb0⟩
        rw [HPX.out]
        have HB2 := Lib.hid (below_ext HBr.out hb0)
        clear hb0
        go_wp2
        go_ret
        exact ⟨k, rfl, HN.out, HB2.out⟩
    · obtain rfl : k = n := by omega
      have HN : Hid (decide ((0 : Int) ≤ (-1 : Int)) = xs.any p) := Lib.hid (by rw [HR.out, ← hn.out]; simp)
      clear HR hlt
      go_wp2
      go_ret
      exact ⟨-1, rfl, HN.out, HBr.out⟩
set_option maxHeartbeats 800000 in
theorem cfr_lv (c0 : Value) (c1 : Value) (p : Row → Bool) (r : Bool) (A : Option Addr) (xs : List Row) (n c : Nat) (hr : Hid (xs.any p = r)) (hn : Hid (xs.length = n)) (hbig : Hid (n < 1000000)) (w : World) (hs : Hid (Rw w A xs)) (hp : Hid (SaysR 300 #[c0, c1] p w)) :
    Calls Tryz.prog 195 #[.slice A n c, .func (.func 300) #[] #[c0, c1]] w fun e w' => e = .returned (.bool r) ∧ Below w.heap.size w w' := by
  go_enter Tryz.func195, Tryz.ntmps195
  go_wp2_with fail
  refine (idxr_lv c0 c1 p A xs n c hn hbig _ hs hp).mono ?_
  rintro e w1 ⟨i, rfl, hi, hb1⟩
  have hd : decide ((0 : Int) ≤ i) = r := hi.trans hr.out
  clear hi
  go_wp2
  go_ret
  exact ⟨by first | rfl | (rw [← hd]) | simp [hd], hb1⟩
abbrev relV (Y : Option Addr) (yn yc : Nat) (B : Option Addr) (bn bc : Nat) : Value := .agg #[.slice Y yn yc, .slice B bn bc]
abbrev relO (Y : Option Addr) (yn yc : Nat) (B : Option Addr) (bn bc : Nat) : Obj := .cells #[.slice Y yn yc, .slice B bn bc] 128
def RBox (w : World) (a : Nat) (u v : Value) : Prop := w.cell? ⟨a, 0, none⟩ = some u ∧ w.cell? ⟨a, 1, none⟩ = some v
theorem RBox.below {w w' : World} {a : Nat} {u v : Value} (h : RBox w a u v) (hb : Below w.heap.size w w') : RBox w' a u v :=
  ⟨(hb.cell (World.block_lt_of_cell? _ _ h.1)).trans h.1, (hb.cell (World.block_lt_of_cell? _ _ h.2)).trans h.2⟩
theorem rbox_alloc0 (w : World) (T : TypeId) (u v : Value) : RBox (w.alloc (.cells #[u, v] T)) w.heap.size u v := ⟨World.cell?_alloc_at _ _ _ _ rfl, World.cell?_alloc_at _ _ _ _ rfl⟩
theorem rbox_alloc1 (w : World) (o : Obj) (T : TypeId) (u v : Value) : RBox ((w.alloc o).alloc (.cells #[u, v] T)) (w.heap.size + 1) u v := by
  have e : (w.alloc o).heap.size = w.heap.size + 1 := by simp
  rw [← e]
  exact rbox_alloc0 _ _ _ _
theorem Rw.at {w : World} {b o : Nat} {rs : List Row} (h : Rw w (some ⟨b, o, none⟩) rs) {k : Nat} (hk : k < rs.length) : w.cell? ⟨b, o + k, none⟩ = some (rs.getD k noRow).val := by
  obtain ⟨⟨b', o', h1, h2⟩, _⟩ := h k hk
  cases h1
  exact h2
theorem Rw.head {w : World} {b o : Nat} {rs : List Row} {p : Option Addr} {n c : Nat} {xs : List Int} (h : Rw w (some ⟨b, o, none⟩) rs) (hk : 0 < rs.length) (e : rs.getD 0 noRow = ⟨p, n, c, xs⟩) : w.cell? ⟨b, o, none⟩ = some (.slice p n c) := by
  have h2 := h.at hk
  rw [e, Nat.add_zero] at h2
  exact h2
theorem Rw.some {w : World} {B : Option Addr} {rs : List Row} (h : Rw w B rs) (hk : 0 < rs.length) : ∃ b o, B = some ⟨b, o, none⟩ := by
  obtain ⟨⟨b, o, h1, _⟩, _⟩ := h 0 hk
  exact ⟨b, o, h1⟩
def rowB (P Q : Int) (n : Nat) (r : Row) : Bool := decide (r.n = n) && r.xs.all (memG P Q)
def rowN (rows : List Row) : Nat := (rows.getD 0 noRow).n
def validR (P Q G : Int) (ys : List Int) (rows : List Row) : Bool :=
  validG P Q G && (decide (1 ≤ ys.length) && (decide (ys.length ≤ 8) && (decide (rows.length = ys.length) && (ys.all (memG P Q) && (decide (1 ≤ rowN rows) && (decide (rowN rows ≤ 12) && rows.all (rowB P Q (rowN rows))))))))
theorem lunknowns_any (Y : Option Addr) (yn yc : Nat) (B : Option Addr) (rows : List Row) (bn bc n : Nat) (hbn : Hid (rows.length = bn)) (hpos : 0 < bn) (hn : Hid (rowN rows = n)) (w : World) (hB : Hid (Rw w B rows)) :
    Calls Tryz.prog 249 #[relV Y yn yc B bn bc] w fun e' w' => e' = .returned (.int .i64 n) ∧ Below w.heap.size w w' := by
  obtain ⟨b, o, rfl⟩ := hB.out.some (by rw [hbn.out]; exact hpos)
  obtain ⟨R, hR⟩ : ∃ R, rows.getD 0 noRow = R := ⟨_, rfl⟩
  obtain ⟨p, n0, k, xs⟩ := R
  obtain rfl : n0 = n := by rw [← hn.out, rowN, hR]
  have hc := (hB.out.below (below_box0 w (relO Y yn yc (some ⟨b, o, none⟩) bn bc))).head (by rw [hbn.out]; exact hpos) hR
  clear hR hB hn
  go_enter Tryz.func249, Tryz.ntmps249
  go_wp2
  go_ret
  exact ⟨rfl, below_box0 _ _⟩
theorem runknowns_any (Y : Option Addr) (yn yc : Nat) (B : Option Addr) (rows : List Row) (bn bc n : Nat) (hbn : Hid (rows.length = bn)) (hpos : 0 < bn) (hn : Hid (rowN rows = n)) (w : World) (hB : Hid (Rw w B rows)) :
    Calls Tryz.prog 211 #[relV Y yn yc B bn bc] w fun e' w' => e' = .returned (.int .i64 n) ∧ Below w.heap.size w w' := by
  obtain ⟨b, o, rfl⟩ := hB.out.some (by rw [hbn.out]; exact hpos)
  obtain ⟨R, hR⟩ : ∃ R, rows.getD 0 noRow = R := ⟨_, rfl⟩
  obtain ⟨p, n0, k, xs⟩ := R
  obtain rfl : n0 = n := by rw [← hn.out, rowN, hR]
  have hc := (hB.out.below (below_box0 w (relO Y yn yc (some ⟨b, o, none⟩) bn bc))).head (by rw [hbn.out]; exact hpos) hR
  clear hR hB hn
  go_enter Tryz.func211, Tryz.ntmps211
  go_wp2
  go_ret
  exact ⟨rfl, below_box0 _ _⟩
theorem says_lv (P Q G : Int) (n a g : Nat) (h1 : P < 2305843009213693952) (hQ0 : 0 ≤ Q) (hQ : Q < 9223372036854775808) (hn12 : n ≤ 12) (W : World) (hn : Hid (W.cell? ⟨a, 0, none⟩ = some (.int .i64 n))) (hx : Hid (GBox W g P Q G)) :
    SaysR 300 #[.pointer (some ⟨a, 0, none⟩), .pointer (some ⟨g, 0, none⟩)] (fun r => !rowB P Q n r) W := fun r w1 hb hok => by
  obtain ⟨p, m, c, xs⟩ := r
  show Calls Tryz.prog 300 #[.slice p m c, .pointer (some ⟨a, 0, none⟩), .pointer (some ⟨g, 0, none⟩)] w1 fun e w' => e = .returned (.bool (!rowB P Q n ⟨p, m, c, xs⟩)) ∧ Below w1.heap.size w1 w'
  obtain ⟨c0, c1, c2⟩ := hx.out.below hb
  have ca := cell_below hn.out hb
  have hl : xs.length = m := hok.1
  have HS : Hid (Sl w1 p xs) := Lib.hid hok.2
  by_cases hm : m = n
  · subst hm
    obtain ⟨r, hr⟩ : ∃ r, xs.all (memG P Q) = r := ⟨_, rfl⟩
    have e : rowB P Q m ⟨p, m, c, xs⟩ = r := by simp [rowB, hr]
    rw [e]
    have HR := Lib.hid hr
    have HL := Lib.hid hl
    clear hr hb hok e hl
    go_enter Tryz.func300, Tryz.ntmps300
    go_wp2_with fail
    refine (elements_any P Q G p xs m c r HR HL (Lib.hid (by omega)) h1 hQ0 hQ _ HS).mono ?_
    rintro e w2 ⟨rfl, hb0⟩
    go_wp2
    go_ret
    exact ⟨rfl, hb0⟩
  · have e : rowB P Q n ⟨p, m, c, xs⟩ = false := by simp [rowB, hm]
    rw [e]
    have hne : ((m : Int) != (n : Int)) = true := by simp; omega
    clear hb hok e hl
    go_enter Tryz.func300, Tryz.ntmps300
    go_wp2
    go_ret
    exact ⟨rfl, Below.refl _ _⟩
theorem anyR_not_all {f : Row → Bool} {xs : List Row} : (xs.any fun x => !f x) = !(xs.all f) := by
  induction xs with
  | nil => rfl
  | cons x xs ih => rw [List.any_cons, List.all_cons, ih, Bool.not_and]
set_option maxHeartbeats 6400000 in
theorem lvalid_any (P Q G : Int) (Y : Option Addr) (ys : List Int) (yn yc : Nat) (B : Option Addr) (rows : List Row) (bn bc : Nat) (r : Bool) (hr : Hid (validR P Q G ys rows = r)) (hyn : Hid (ys.length = yn)) (hbn : Hid (rows.length = bn)) (hQ : Q < 9223372036854775808) (w : World) (hv : Hid (Vars w)) (hY : Hid (Sl w Y ys)) (hB : Hid (Rw w B rows)) :
    Calls Tryz.prog 267 #[gv P Q G, relV Y yn yc B bn bc] w fun e' w' => e' = .returned (.bool r) ∧ Below w.heap.size w w' := by
  obtain ⟨w0, hW⟩ : ∃ W, (w.alloc (gObj P Q G)).alloc (relO Y yn yc B bn bc) = W := ⟨_, rfl⟩
  have HBw : Hid (Below w.heap.size w w0) := Lib.hid (by rw [← hW]; exact below_two (Below.refl _ _))
  have HX0 : Hid (GBox w0 w.heap.size P Q G) := Lib.hid (by rw [← hW]; exact (gbox_alloc w P Q G).below (below_box0 _ _))
  have HR0 : Hid (RBox w0 (w.heap.size + 1) (.slice Y yn yc) (.slice B bn bc)) := Lib.hid (by rw [← hW]; exact rbox_alloc1 _ _ _ _ _)
  have HY0 : Hid (Sl w0 Y ys) := Lib.hid (hY.out.below HBw.out)
  have HW_0 : Hid (Rw w0 B rows) := Lib.hid (hB.out.below HBw.out)
  have HV0 : Hid (Vars w0) := Lib.hid (hv.out.below HBw.out)
  have HW := Lib.hid hW
  clear hW hY hv
  have hr' := hr.out
  rw [validR, hyn.out, hbn.out] at hr'
  cases hval : validG P Q G with
  | false =>
    obtain rfl : r = false := by rw [← hr', hval, Bool.false_and]
    have HVL := Lib.hid hval
    clear hr hr' hval hB
    go_enter Tryz.func267, Tryz.ntmps267
    go_wp2_with fail
    rw [HW.out]
    go_wp2_with fail
    refine (valid_any P Q G false HVL hQ _ HV0).mono ?_
    rintro e w1 ⟨rfl, hb0⟩
    have hb1 := below_ext (HBw.out) hb0
    have HV1 := Lib.hid (HV0.out.below hb0)
    have HX1 := Lib.hid (HX0.out.below hb0)
    have HR1 := Lib.hid (HR0.out.below hb0)
    have HY1 := Lib.hid (HY0.out.below hb0)
    have HW_1 := Lib.hid (HW_0.out.below hb0)
    clear hb0
    obtain ⟨c0, c1, c2⟩ := HX1.out
    obtain ⟨d0, d1⟩ := HR1.out
    go_wp2
    go_ret
    exact ⟨rfl, hb1⟩
  | true =>
    obtain ⟨hp2, hp, hq3, hqp⟩ := validG_P hval
    have HVL := Lib.hid hval
    rw [hval, Bool.true_and] at hr'
    clear hval
    by_cases h1 : yn < 1
    · obtain rfl : r = false := by rw [← hr', decide_eq_false (show ¬ 1 ≤ yn by omega)]; rfl
      have d_h1 : decide ((yn : Int) < 1) = true := by simp; omega
      clear hr hr' hB
      go_enter Tryz.func267, Tryz.ntmps267
      go_wp2_with fail
      rw [HW.out]
      go_wp2_with fail
      refine (valid_any P Q G true HVL hQ _ HV0).mono ?_
      rintro e w1 ⟨rfl, hb0⟩
      have hb1 := below_ext (HBw.out) hb0
      have HV1 := Lib.hid (HV0.out.below hb0)
      have HX1 := Lib.hid (HX0.out.below hb0)
      have HR1 := Lib.hid (HR0.out.below hb0)
      have HY1 := Lib.hid (HY0.out.below hb0)
      have HW_1 := Lib.hid (HW_0.out.below hb0)
      clear hb0
      obtain ⟨c0, c1, c2⟩ := HX1.out
      obtain ⟨d0, d1⟩ := HR1.out
      go_wp2
      go_ret
      exact ⟨rfl, hb1⟩
    · rw [decide_eq_true (show 1 ≤ yn by omega), Bool.true_and] at hr'
      have d_h1 : decide ((yn : Int) < 1) = false := by simp; omega
      by_cases h2 : 8 < yn
      · obtain rfl : r = false := by rw [← hr', decide_eq_false (show ¬ yn ≤ 8 by omega)]; rfl
        have d_h2 : decide ((8 : Int) < (yn : Int)) = true := by simp; omega
        clear hr hr' hB
        go_enter Tryz.func267, Tryz.ntmps267
        go_wp2_with fail
        rw [HW.out]
        go_wp2_with fail
        refine (valid_any P Q G true HVL hQ _ HV0).mono ?_
        rintro e w1 ⟨rfl, hb0⟩
        have hb1 := below_ext (HBw.out) hb0
        have HV1 := Lib.hid (HV0.out.below hb0)
        have HX1 := Lib.hid (HX0.out.below hb0)
        have HR1 := Lib.hid (HR0.out.below hb0)
        have HY1 := Lib.hid (HY0.out.below hb0)
        have HW_1 := Lib.hid (HW_0.out.below hb0)
        clear hb0
        obtain ⟨c0, c1, c2⟩ := HX1.out
        obtain ⟨d0, d1⟩ := HR1.out
        go_wp2
        go_ret
        exact ⟨rfl, hb1⟩
      · rw [decide_eq_true (show yn ≤ 8 by omega), Bool.true_and] at hr'
        have d_h2 : decide ((8 : Int) < (yn : Int)) = false := by simp; omega
        by_cases h3 : ¬ bn = yn
        · obtain rfl : r = false := by rw [← hr', decide_eq_false h3]; rfl
          have d_h3 : ((bn : Int) != (yn : Int)) = true := by simp; omega
          clear hr hr' hB
          go_enter Tryz.func267, Tryz.ntmps267
          go_wp2_with fail
          rw [HW.out]
          go_wp2_with fail
          refine (valid_any P Q G true HVL hQ _ HV0).mono ?_
          rintro e w1 ⟨rfl, hb0⟩
          have hb1 := below_ext (HBw.out) hb0
          have HV1 := Lib.hid (HV0.out.below hb0)
          have HX1 := Lib.hid (HX0.out.below hb0)
          have HR1 := Lib.hid (HR0.out.below hb0)
          have HY1 := Lib.hid (HY0.out.below hb0)
          have HW_1 := Lib.hid (HW_0.out.below hb0)
          clear hb0
          obtain ⟨c0, c1, c2⟩ := HX1.out
          obtain ⟨d0, d1⟩ := HR1.out
          go_wp2
          go_ret
          exact ⟨rfl, hb1⟩
        · rw [decide_eq_true (show bn = yn by omega), Bool.true_and] at hr'
          have d_h3 : ((bn : Int) != (yn : Int)) = false := by simp; omega
          obtain rfl : bn = yn := by omega
          clear d_h3 h3
          cases h4 : ys.all (memG P Q) with
          | false =>
            obtain rfl : r = false := by rw [← hr', h4]; rfl
            have HE := Lib.hid h4
            clear hr hr' hB h4
            go_enter Tryz.func267, Tryz.ntmps267
            go_wp2_with fail
            rw [HW.out]
            go_wp2_with fail
            refine (valid_any P Q G true HVL hQ _ HV0).mono ?_
            rintro e w1 ⟨rfl, hb0⟩
            have hb1 := below_ext (HBw.out) hb0
            have HV1 := Lib.hid (HV0.out.below hb0)
            have HX1 := Lib.hid (HX0.out.below hb0)
            have HR1 := Lib.hid (HR0.out.below hb0)
            have HY1 := Lib.hid (HY0.out.below hb0)
            have HW_1 := Lib.hid (HW_0.out.below hb0)
            clear hb0
            obtain ⟨c0, c1, c2⟩ := HX1.out
            obtain ⟨d0, d1⟩ := HR1.out
            go_wp2_with fail
            refine (elements_any P Q G Y ys bn yc false HE hyn (Lib.hid (by omega)) hp (by omega) hQ _ HY1).mono ?_
            rintro e w2 ⟨rfl, hb0⟩
            have hb2 := below_ext hb1 hb0
            have HV2 := Lib.hid (HV1.out.below hb0)
            have HX2 := Lib.hid (HX1.out.below hb0)
            have HR2 := Lib.hid (HR1.out.below hb0)
            have HY2 := Lib.hid (HY1.out.below hb0)
            have HW_2 := Lib.hid (HW_1.out.below hb0)
            clear c0 c1 c2 d0 d1 hb0
            obtain ⟨c0, c1, c2⟩ := HX2.out
            obtain ⟨d0, d1⟩ := HR2.out
            go_wp2
            go_ret
            exact ⟨rfl, hb2⟩
          | true =>
            have HE := Lib.hid h4
            rw [h4, Bool.true_and] at hr'
            obtain ⟨b0, o0, rfl⟩ := hB.out.some (by rw [hbn.out]; omega)
            obtain ⟨R, hR⟩ : ∃ R, rows.getD 0 noRow = R := ⟨_, rfl⟩
            obtain ⟨p0, n0, k0, x0⟩ := R
            have hN : rowN rows = n0 := by rw [rowN, hR]
            rw [hN] at hr'
            have hpos : 0 < rows.length := by rw [hbn.out]; omega
            have hbpos : 0 < bn := by omega
            have HR_ := Lib.hid hR
            clear hR h4 hB hN
            by_cases h5 : n0 < 1
            · obtain rfl : r = false := by rw [← hr', decide_eq_false (show ¬ 1 ≤ n0 by omega)]; rfl
              have d5 : decide ((n0 : Int) < 1) = true := by simp; omega
              clear hr hr'
              go_enter Tryz.func267, Tryz.ntmps267
              go_wp2_with fail
              rw [HW.out]
              go_wp2_with fail
              refine (valid_any P Q G true HVL hQ _ HV0).mono ?_
              rintro e w1 ⟨rfl, hb0⟩
              have hb1 := below_ext (HBw.out) hb0
              have HV1 := Lib.hid (HV0.out.below hb0)
              have HX1 := Lib.hid (HX0.out.below hb0)
              have HR1 := Lib.hid (HR0.out.below hb0)
              have HY1 := Lib.hid (HY0.out.below hb0)
              have HW_1 := Lib.hid (HW_0.out.below hb0)
              clear hb0
              obtain ⟨c0, c1, c2⟩ := HX1.out
              obtain ⟨d0, d1⟩ := HR1.out
              go_wp2_with fail
              refine (elements_any P Q G Y ys bn yc true HE hyn (Lib.hid (by omega)) hp (by omega) hQ _ HY1).mono ?_
              rintro e w2 ⟨rfl, hb0⟩
              have hb2 := below_ext hb1 hb0
              have HV2 := Lib.hid (HV1.out.below hb0)
              have HX2 := Lib.hid (HX1.out.below hb0)
              have HR2 := Lib.hid (HR1.out.below hb0)
              have HY2 := Lib.hid (HY1.out.below hb0)
              have HW_2 := Lib.hid (HW_1.out.below hb0)
              clear c0 c1 c2 d0 d1 hb0
              obtain ⟨c0, c1, c2⟩ := HX2.out
              obtain ⟨d0, d1⟩ := HR2.out
              have hc0 := HW_2.out.head hpos HR_.out
              have hq : Below w2.heap.size w2 (w2.alloc (.cells #[.int .i64 n0] 3)) := below_box0 _ _
              have hbF := below_ext hb2 hq
              clear hq
              go_wp2
              go_ret
              exact ⟨rfl, hbF⟩
            · rw [decide_eq_true (show 1 ≤ n0 by omega), Bool.true_and] at hr'
              have d5 : decide ((n0 : Int) < 1) = false := by simp; omega
              by_cases h6 : 12 < n0
              · obtain rfl : r = false := by rw [← hr', decide_eq_false (show ¬ n0 ≤ 12 by omega)]; rfl
                have d6 : decide ((12 : Int) < (n0 : Int)) = true := by simp; omega
                clear hr hr'
                go_enter Tryz.func267, Tryz.ntmps267
                go_wp2_with fail
                rw [HW.out]
                go_wp2_with fail
                refine (valid_any P Q G true HVL hQ _ HV0).mono ?_
                rintro e w1 ⟨rfl, hb0⟩
                have hb1 := below_ext (HBw.out) hb0
                have HV1 := Lib.hid (HV0.out.below hb0)
                have HX1 := Lib.hid (HX0.out.below hb0)
                have HR1 := Lib.hid (HR0.out.below hb0)
                have HY1 := Lib.hid (HY0.out.below hb0)
                have HW_1 := Lib.hid (HW_0.out.below hb0)
                clear hb0
                obtain ⟨c0, c1, c2⟩ := HX1.out
                obtain ⟨d0, d1⟩ := HR1.out
                go_wp2_with fail
                refine (elements_any P Q G Y ys bn yc true HE hyn (Lib.hid (by omega)) hp (by omega) hQ _ HY1).mono ?_
                rintro e w2 ⟨rfl, hb0⟩
                have hb2 := below_ext hb1 hb0
                have HV2 := Lib.hid (HV1.out.below hb0)
                have HX2 := Lib.hid (HX1.out.below hb0)
                have HR2 := Lib.hid (HR1.out.below hb0)
                have HY2 := Lib.hid (HY1.out.below hb0)
                have HW_2 := Lib.hid (HW_1.out.below hb0)
                clear c0 c1 c2 d0 d1 hb0
                obtain ⟨c0, c1, c2⟩ := HX2.out
                obtain ⟨d0, d1⟩ := HR2.out
                have hc0 := HW_2.out.head hpos HR_.out
                have hq : Below w2.heap.size w2 (w2.alloc (.cells #[.int .i64 n0] 3)) := below_box0 _ _
                have hbF := below_ext hb2 hq
                clear hq
                go_wp2
                go_ret
                exact ⟨rfl, hbF⟩
              · rw [decide_eq_true (show n0 ≤ 12 by omega), Bool.true_and] at hr'
                have d6 : decide ((12 : Int) < (n0 : Int)) = false := by simp; omega
                have HP : Hid ((rows.any fun x => !rowB P Q n0 x) = !r) := Lib.hid (by rw [anyR_not_all, hr'])
                clear hr hr'
                go_enter Tryz.func267, Tryz.ntmps267
                go_wp2_with fail
                rw [HW.out]
                go_wp2_with fail
                refine (valid_any P Q G true HVL hQ _ HV0).mono ?_
                rintro e w1 ⟨rfl, hb0⟩
                have hb1 := below_ext (HBw.out) hb0
                have HV1 := Lib.hid (HV0.out.below hb0)
                have HX1 := Lib.hid (HX0.out.below hb0)
                have HR1 := Lib.hid (HR0.out.below hb0)
                have HY1 := Lib.hid (HY0.out.below hb0)
                have HW_1 := Lib.hid (HW_0.out.below hb0)
                clear hb0
                obtain ⟨c0, c1, c2⟩ := HX1.out
                obtain ⟨d0, d1⟩ := HR1.out
                go_wp2_with fail
                refine (elements_any P Q G Y ys bn yc true HE hyn (Lib.hid (by omega)) hp (by omega) hQ _ HY1).mono ?_
                rintro e w2 ⟨rfl, hb0⟩
                have hb2 := below_ext hb1 hb0
                have HV2 := Lib.hid (HV1.out.below hb0)
                have HX2 := Lib.hid (HX1.out.below hb0)
                have HR2 := Lib.hid (HR1.out.below hb0)
                have HY2 := Lib.hid (HY1.out.below hb0)
                have HW_2 := Lib.hid (HW_1.out.below hb0)
                clear c0 c1 c2 d0 d1 hb0
                obtain ⟨c0, c1, c2⟩ := HX2.out
                obtain ⟨d0, d1⟩ := HR2.out
                have hc0 := HW_2.out.head hpos HR_.out
                have hq : Below w2.heap.size w2 (w2.alloc (.cells #[.int .i64 n0] 3)) := below_box0 _ _
                have hcn : (w2.alloc (.cells #[.int .i64 n0] 3)).cell? ⟨w2.heap.size, 0, none⟩ = some (.int .i64 n0) := World.cell?_alloc_at _ _ _ _ rfl
                have HXn := Lib.hid (HX2.out.below hq)
                have HWn := Lib.hid (HW_2.out.below hq)
                have hbn2 := below_ext hb2 hq
                have hRn := HR2.out.below hq
                obtain ⟨d2, d3⟩ := hRn
                have HSy := Lib.hid (says_lv P Q G n0 w2.heap.size w.heap.size hp (by omega) hQ (by omega) _ (Lib.hid hcn) HXn)
                have HCF := Lib.hid (cfr_lv (.pointer (some ⟨w2.heap.size, 0, none⟩)) (.pointer (some ⟨w.heap.size, 0, none⟩)) (fun x => !rowB P Q n0 x) (!r) (some ⟨b0, o0, none⟩) rows bn bc HP hbn (Lib.hid (by omega)) _ HWn HSy)
                clear hq
                go_wp2_with fail
                refine HCF.out.mono ?_
                rintro e w9 ⟨rfl, hb0⟩
                have hbF := below_ext hbn2 hb0
                clear hb0
                go_wp2
                go_ret
                exact ⟨by simp, hbF⟩
end Go.Proofs.YtjnoaejikapmdaaGreatDoor
namespace Go.Proofs.YtjnoaejikapmdaaGreatDoor
open Go.ChangeShapes Go.WideShapes Go.ChangeAt Go.RowKit SpM
set_option linter.unusedVariables false
section
variable {H : Type} {enc : TypeId × Value → H} {w : World} {base : Nat} {held : Bool}
end
section
variable {H : Type} {enc : TypeId × Value → H} {w : World} {base : Nat} {held : Bool}
theorem cellsSlI : Tryz.prog.cellsOf 24 = 1 := by kernel_rfl
theorem open_row {n : Nat} {cs : List Value} {x : DataW H × List MemPlace} (h : DataW.trod enc Tryz.prog w base (fun _ => true) held n 24 cs = some x) :
    ∃ R : Row, cs = [R.val] ∧ RowOk w R := by
  rcases open_ints Tryz.underlying24 Tryz.underlying3 cellsInt h with ⟨rfl, _⟩ | ⟨a, len, cap, zs, rfl, _, hlc, _, hz, _, hcell, _⟩
  · exact ⟨noRow, rfl, rfl, fun k hk => absurd hk (by simp)⟩
  · simp at hz
    refine ⟨⟨some a, len, cap, zs.take len⟩, rfl, by show (zs.take len).length = len; rw [List.length_take]; omega, fun k hk => ?_⟩
    dsimp only at hk ⊢
    rw [List.length_take] at hk
    obtain ⟨b, off, rfl, hc⟩ := ints_at hcell (by omega)
    refine ⟨b, off, rfl, ?_⟩
    rw [hc k (by omega), List.getD_eq_getElem?_getD, List.getD_eq_getElem?_getD, List.getElem?_take_of_lt (by omega)]
end
theorem cellsPrf : Tryz.prog.cellsOf 50 = 3 := by kernel_rfl
section
variable {H : Type} {enc : TypeId × Value → H} {w : World} {base : Nat} {held : Bool}
set_option maxRecDepth 100000
end
theorem cellsEsc : Tryz.prog.cellsOf 52 = 5 := by kernel_rfl
section
variable {H : Type} {enc : TypeId × Value → H} {w : World} {base : Nat} {held : Bool}
set_option maxRecDepth 100000
theorem open_prf_cellsE {n : Nat} {cs : List Value} {x : DataW H × List MemPlace} (h : DataW.trod enc Tryz.prog w base (fun _ => true) held n 50 cs = some x) :
    ∃ (A : Option Addr) (na ca : Nat) (al : List Int) (C : Int) (Z : Option Addr) (nz cz : Nat) (zs : List Int), cs = [.slice A na ca, .int .i64 C, .slice Z nz cz] ∧ al.length = na ∧ zs.length = nz ∧ Sl w A al ∧ Sl w Z zs := by
  obtain ⟨xs, m, rfl, _, hl, hxl, hf⟩ := DataW.trod_struct Tryz.underlying50 h
  rw [cellsPrf] at hl
  match cs, hl with
  | [c0, c1, c2], _ =>
    have f0 : DataW.trod enc Tryz.prog w base (fun _ => true) held m 24 (([c0, c1, c2].drop 0).take (Tryz.prog.cellsOf 24)) = xs[0]? := hf 0 _ rfl
    have f1 : DataW.trod enc Tryz.prog w base (fun _ => true) held m 3 (([c0, c1, c2].drop 1).take (Tryz.prog.cellsOf 3)) = xs[1]? := hf 1 _ rfl
    have f2 : DataW.trod enc Tryz.prog w base (fun _ => true) held m 24 (([c0, c1, c2].drop 2).take (Tryz.prog.cellsOf 24)) = xs[2]? := hf 2 _ rfl
    rw [cellsSlI] at f0 f2
    rw [cellsInt] at f1
    have hl3 : xs.length = 3 := hxl
    match xs, hl3 with
    | [x0, x1, x2], _ =>
      obtain ⟨RA, hA, oA⟩ := open_row f0
      obtain ⟨C, hC, _, wC⟩ := DataW.trod_int Tryz.underlying3 f1
      obtain ⟨RZ, hZ, oZ⟩ := open_row f2
      simp at hA hC hZ
      subst hA; subst hC; subst hZ
      exact ⟨RA.p, RA.n, RA.c, RA.xs, C, RZ.p, RZ.n, RZ.c, RZ.xs, rfl, oA.1, oZ.1, oA.2, oZ.2⟩
theorem open_esc_cells {n : Nat} {cs : List Value} {x : DataW H × List MemPlace} (h : DataW.trod enc Tryz.prog w base (fun _ => true) held n 52 cs = some x) :
    ∃ (E1 E2 : Int) (A : Option Addr) (na ca : Nat) (al : List Int) (C : Int) (Z : Option Addr) (nz cz : Nat) (zs : List Int), cs = [.int .i64 E1, .int .i64 E2, .slice A na ca, .int .i64 C, .slice Z nz cz] ∧ al.length = na ∧ zs.length = nz ∧ Sl w A al ∧ Sl w Z zs := by
  obtain ⟨xs, m, rfl, _, hl, hxl, hf⟩ := DataW.trod_struct Tryz.underlying52 h
  rw [cellsEsc] at hl
  match cs, hl with
  | [c0, c1, c2, c3, c4], _ =>
    have f0 : DataW.trod enc Tryz.prog w base (fun _ => true) held m 3 (([c0, c1, c2, c3, c4].drop 0).take (Tryz.prog.cellsOf 3)) = xs[0]? := hf 0 _ rfl
    have f1 : DataW.trod enc Tryz.prog w base (fun _ => true) held m 3 (([c0, c1, c2, c3, c4].drop 1).take (Tryz.prog.cellsOf 3)) = xs[1]? := hf 1 _ rfl
    have f2 : DataW.trod enc Tryz.prog w base (fun _ => true) held m 50 (([c0, c1, c2, c3, c4].drop 2).take (Tryz.prog.cellsOf 50)) = xs[2]? := hf 2 _ rfl
    rw [cellsInt] at f0 f1
    rw [cellsPrf] at f2
    have hl3 : xs.length = 3 := hxl
    match xs, hl3 with
    | [x0, x1, x2], _ =>
      obtain ⟨E1, hE1, _, w1⟩ := DataW.trod_int Tryz.underlying3 f0
      obtain ⟨E2, hE2, _, w2⟩ := DataW.trod_int Tryz.underlying3 f1
      obtain ⟨A, na, ca, al, C, Z, nz, cz, zs, hP, h1, h2, h3, h4⟩ := open_prf_cellsE f2
      simp at hE1 hE2 hP
      obtain ⟨rfl, rfl, rfl⟩ := hP
      subst hE1; subst hE2
      exact ⟨E1, E2, A, na, ca, al, C, Z, nz, cz, zs, rfl, h1, h2, h3, h4⟩
theorem open_esc {r : Reach} {b0 : Nat} {v : Value} {d : DataW H} {ps : List MemPlace} (hval : Value.okWide Tryz.prog w r b0 52 v) (hd : DataW.Trod enc Tryz.prog w base (fun _ => true) held 52 v d ps) :
    ∃ (E1 E2 : Int) (A : Option Addr) (na ca : Nat) (al : List Int) (C : Int) (Z : Option Addr) (nz cz : Nat) (zs : List Int), v = .agg #[.int .i64 E1, .int .i64 E2, .slice A na ca, .int .i64 C, .slice Z nz cz] ∧ al.length = na ∧ zs.length = nz ∧ Sl w A al ∧ Sl w Z zs := by
  obtain ⟨cs, rfl, hsz⟩ := okWide_struct Tryz.underlying52 hval
  obtain ⟨n, h⟩ := hd
  obtain ⟨cl⟩ := cs
  obtain ⟨E1, E2, A, na, ca, al, C, Z, nz, cz, zs, he, h1, h2, h3, h4⟩ := open_esc_cells h
  simp only [Value.cells] at he
  subst he
  exact ⟨E1, E2, A, na, ca, al, C, Z, nz, cz, zs, rfl, h1, h2, h3, h4⟩
end
end Go.Proofs.YtjnoaejikapmdaaGreatDoor
namespace Go.Proofs.YtjnoaejikapmdaaGreatDoor
namespace SpM
def Cg (q a b : Int) : Prop := ∃ t, a = b + q * t
theorem Cg.refl (q a : Int) : Cg q a a := ⟨0, by simp⟩
theorem Cg.symm {q a b : Int} (h : Cg q a b) : Cg q b a := by obtain ⟨t, h⟩ := h; exact ⟨-t, by rw [h]; grind⟩
theorem Cg.trans {q a b c : Int} (h : Cg q a b) (h2 : Cg q b c) : Cg q a c := by obtain ⟨t, h⟩ := h; obtain ⟨s, h2⟩ := h2; exact ⟨s + t, by rw [h, h2]; grind⟩
theorem Cg.add {q a b c d : Int} (h : Cg q a b) (h2 : Cg q c d) : Cg q (a + c) (b + d) := by obtain ⟨t, h⟩ := h; obtain ⟨s, h2⟩ := h2; exact ⟨s + t, by rw [h, h2]; grind⟩
theorem Cg.mul {q a b c d : Int} (h : Cg q a b) (h2 : Cg q c d) : Cg q (a * c) (b * d) := by obtain ⟨t, h⟩ := h; obtain ⟨s, h2⟩ := h2; exact ⟨b * s + d * t + q * s * t, by rw [h, h2]; grind⟩
theorem Cg.mod (q a : Int) : Cg q (a % q) a := ⟨-(a / q), by have := Int.emod_add_mul_ediv a q; grind⟩
theorem Cg.of_eq {q a b : Int} (h : a = b) : Cg q a b := h ▸ Cg.refl q a
theorem Cg.eq {q a b : Int} (h : Cg q a b) : a % q = b % q := by obtain ⟨t, h⟩ := h; rw [h, Int.add_mul_emod_self_left]
def gp (xs : Nat → Int) (x : Int) : Nat → Int
  | 0 => 1
  | m + 1 => gp xs x m * (x - xs m)
def Un (q a : Int) : Prop := ∃ y, Cg q (y * a) 1
theorem Un.mul {q a b : Int} (h : Un q a) (h2 : Un q b) : Un q (a * b) := by
  obtain ⟨y, h⟩ := h
  obtain ⟨z, h2⟩ := h2
  exact ⟨y * z, (Cg.of_eq (by grind)).trans ((h.mul h2).trans (Cg.of_eq (by grind)))⟩
def hv (q : Int) : List Int → Int → Int
  | [], _ => 0
  | c :: t, x => (hv q t x * x % q + c) % q
end SpM
end Go.Proofs.YtjnoaejikapmdaaGreatDoor
namespace Go.Proofs.YtjnoaejikapmdaaGreatDoor
open Go.RowKit SpM
set_option linter.unusedVariables false
def IsInv (a m x : Int) : Prop := 0 ≤ x ∧ x < m ∧ (x * a % m = 1 ∨ (x = 0 ∧ ∀ y, y * a % m ≠ 1))
theorem isInv_unique {a m x y : Int} (hx : IsInv a m x) (hy : IsInv a m y) : x = y := by
  obtain ⟨x0, x1, hx⟩ := hx
  obtain ⟨y0, y1, hy⟩ := hy
  rcases hx with hx | ⟨rfl, hx⟩
  · rcases hy with hy | ⟨rfl, hy⟩
    · have h1 : x * (y * a) % m = x % m := by rw [Int.mul_emod, hy, Int.mul_one, Int.emod_emod_of_dvd _ (Int.dvd_refl m)]
      have h2 : x * (y * a) % m = y % m := by
        rw [show x * (y * a) = y * (x * a) by rw [← Int.mul_assoc, ← Int.mul_assoc, Int.mul_comm x y], Int.mul_emod, hx, Int.mul_one, Int.emod_emod_of_dvd _ (Int.dvd_refl m)]
      have h3 := h1.symm.trans h2
      rwa [Int.emod_eq_of_lt x0 x1, Int.emod_eq_of_lt y0 y1] at h3
    · exact absurd hx (hy x)
  · rcases hy with hy | ⟨rfl, hy⟩
    · exact absurd hy (hx y)
    · rfl
theorem no_inv {a m d : Int} (h1 : d ∣ a) (h2 : d ∣ m) (h0 : 0 < d) (hne : d ≠ 1) (y : Int) : y * a % m ≠ 1 := by
  intro h
  have h3 : d ∣ y * a := Int.dvd_mul_of_dvd_right h1
  have h4 : d ∣ m * (y * a / m) := Int.dvd_mul_of_dvd_left h2
  have h5 : d ∣ y * a - m * (y * a / m) := Int.dvd_sub h3 h4
  have h6 : y * a - m * (y * a / m) = 1 := by have := Int.emod_add_mul_ediv (y * a) m; omega
  rw [h6] at h5
  have := Int.le_of_dvd (by omega) h5
  omega
def WInvOut (a m : Int) (w : World) (e : Ending) (w' : World) : Prop :=
  ∃ x r : Int, e = .returned (.tuple #[.int .i64 x, .int .i64 r]) ∧ IsInv a m x ∧ ∃ n, w' = w.drewN n
set_option maxHeartbeats 800000 in
theorem winv_any (a m : Int) (h1 : 2 ≤ m) (h2 : m < 2305843009213693952) (ha0 : 0 ≤ a) (ha : a < m) (w : World) :
    Calls Tryz.prog 151 #[.int .i64 a, .int .i64 m] w (WInvOut a m w) := by
  have hc := Lib.hid (chk_ok (by omega) h2 ha0 ha ha0 ha)
  go_enter Tryz.func151, Tryz.ntmps151
  go_wp2_with (go_at_call 128; refine (check_any _ _ _ _).mono ?_; rintro e w' ⟨rfl, rfl⟩; rw [hc.out])
  refine (euclid_any a m (by omega) h2 ha0 ha _).mono ?_
  rintro e w' ⟨d, x, k, rfl, hx0, hx1, hd1, hd2, hd0, hd, hk, n, rfl⟩
  by_cases hd1' : d = 1
  · have h1d : (d == 1) = true := by simp [hd1']
    have h1n : (d != 1) = false := by simp [hd1']
    have HX : Hid (IsInv a m x) := Lib.hid ⟨hx0, hx1, .inl (by rw [hk, hd1', Int.add_mul_emod_self_left]; exact emod_one_of h1)⟩
    clear hk hd1 hd2 hd0 hd hd1'
    go_wp2
    go_ret2
    exact ⟨x, 0, rfl, HX.out, n, rfl⟩
  · have h1d : (d == 1) = false := by simp [hd1']
    have h1n : (d != 1) = true := by simp [hd1']
    have HX : Hid (IsInv a m 0) := Lib.hid ⟨by omega, by omega, .inr ⟨rfl, no_inv hd1 hd2 hd0 hd1'⟩⟩
    clear hk hd1 hd2 hd0 hd hd1'
    go_wp2
    go_ret2
    exact ⟨0, 10, rfl, HX.out, n, rfl⟩
theorem rsize_any (a : Int) (ha0 : 0 ≤ a) (ha : a < 9223372036854775808) (w : World) :
    Calls Tryz.prog 258 #[.int .i64 a] w fun e w' => e = .returned (.int .u64 a) ∧ w = w' := by
  have h1 : decide (a < 0) = false := by simp; omega
  have h2 : IntKind.u64.wrap a = a := by rw [IntKind.wrap_u64]; omega
  go_enter Tryz.func258, Tryz.ntmps258
  go_wp2
  go_ret
  exact ⟨rfl, rfl⟩
def GcdRel (a m x y : Int) : Prop := 0 ≤ x ∧ 0 ≤ y ∧ x ≤ m ∧ y ≤ m ∧ (0 < x ∨ 0 < y) ∧ (∀ c, (c ∣ x ∧ c ∣ y) ↔ (c ∣ a ∧ c ∣ m))
theorem gcdRel_step {a m x y : Int} (h : GcdRel a m x y) (hy : 0 < y) : GcdRel a m y (x % y) := by
  obtain ⟨h1, h2, h3, h4, h5, h6⟩ := h
  have e1 : 0 ≤ x % y := Int.emod_nonneg _ (by omega)
  have e2 : x % y < y := Int.emod_lt_of_pos _ hy
  refine ⟨h2, e1, h4, by omega, .inl hy, fun c => ⟨fun ⟨c1, c2⟩ => ?_, fun ⟨c1, c2⟩ => ?_⟩⟩
  · refine (h6 c).1 ⟨?_, c1⟩
    have : c ∣ x % y + y * (x / y) := Int.dvd_add c2 (Int.dvd_mul_of_dvd_left c1)
    rwa [Int.emod_add_mul_ediv] at this
  · obtain ⟨k1, k2⟩ := (h6 c).2 ⟨c1, c2⟩
    refine ⟨k2, ?_⟩
    have : c ∣ x - y * (x / y) := Int.dvd_sub k1 (Int.dvd_mul_of_dvd_left k2)
    rwa [show x - y * (x / y) = x % y by have := Int.emod_add_mul_ediv x y; omega] at this
def IsGcd (a m g : Int) : Prop := 0 < g ∧ g ≤ m ∧ g ∣ a ∧ g ∣ m ∧ ∀ c, c ∣ a → c ∣ m → c ∣ g
theorem gcdRel_done {a m x : Int} (h : GcdRel a m x 0) : IsGcd a m x := by
  obtain ⟨h1, h2, h3, h4, h5, h6⟩ := h
  obtain ⟨c1, c2⟩ := (h6 x).1 ⟨Int.dvd_refl x, Int.dvd_zero x⟩
  exact ⟨by omega, h3, c1, c2, fun c k1 k2 => ((h6 c).2 ⟨k1, k2⟩).1⟩
def GcdOut (a m : Int) (w : World) (e : Ending) (w' : World) : Prop := ∃ g : Int, e = .returned (.int .i64 g) ∧ IsGcd a m g ∧ ∃ n, w' = w.drewN n
set_option maxHeartbeats 1600000 in
theorem rgcd_any (a m : Int) (h1 : 1 ≤ m) (h2 : m < 2305843009213693952) (ha0 : 0 ≤ a) (ha : a < m) (w : World) :
    Calls Tryz.prog 200 #[.int .i64 a, .int .i64 m] w (GcdOut a m w) := by
  have HS : Hid (GcdRel a m a m) := Lib.hid ⟨by omega, by omega, by omega, by omega, .inr (by omega), fun c => Iff.rfl⟩
  go_enter Tryz.func200, Tryz.ntmps200
  go_wp2_with fail
  refine (rsize_any a ha0 (by omega) _).mono ?_
  rintro e w' ⟨rfl, rfl⟩
  go_wp2_with fail
  refine (rsize_any m (by omega) (by omega) _).mono ?_
  rintro e w' ⟨rfl, rfl⟩
  go_wp2
  go_loopw [5, 6] (fun u v wr => ∃ x y : Int, u = .int .u64 x ∧ v = .int .u64 y ∧ Hid (GcdRel a m x y) ∧ ∃ n, wr = w.drewN n) (fun _ v _ => (intOf v).toNat)
  case atStart => exact ⟨a, m, rfl, rfl, HS, 0, rfl⟩
  case round =>
    obtain ⟨x, y, rfl, rfl, HR, n, rfl⟩ := hrel
    obtain ⟨x0, y0, x1, y1, _⟩ := HR.out
    by_cases hy : y = 0
    · subst hy
      have HD := Lib.hid (gcdRel_done HR.out)
      have hne : ((x : Int) == 9223372036854775808) = false := by simp; omega
      have hcv : IntKind.i64.wrap x = x := IntWalk.i64_in _ (by omega)
      clear HR
      go_wp2
      go_ret
      exact ⟨x, rfl, HD.out, n, rfl⟩
    · have hyp : 0 < y := by omega
      have d1 : decide (0 < y) = true := by simp; omega
      have d2 : ((y : Int) == 0) = false := by simp [hy]
      have HN := Lib.hid (gcdRel_step HR.out hyp)
      have l2 : x % y < y := Int.emod_lt_of_pos _ hyp
      have l1 : 0 ≤ x % y := Int.emod_nonneg _ (by omega)
      clear HR hy
      go_wp2
      go_quiet (fail)
      go_wp2
      go_roundw
      case rel => exact ⟨y, x % y, rfl, rfl, HN, _, by first | rfl | exact World.drewN_drewN _ _ _⟩
      case measure => simp [intOf]; omega
def RIRel (a m u v x y : Int) : Prop := GcdRel a m u v ∧ 0 ≤ x ∧ x < m ∧ 0 ≤ y ∧ y < m ∧ (∃ k, x * a = u + m * k) ∧ (∃ k, y * a = v + m * k)
theorem rIRel_start {a m : Int} (h1 : 2 ≤ m) (ha0 : 0 ≤ a) (ha : a < m) : RIRel a m a m (1 % m) 0 := by
  rw [emod_one_of h1]
  exact ⟨⟨by omega, by omega, by omega, by omega, .inr (by omega), fun c => Iff.rfl⟩, by omega, by omega, by omega, by omega, ⟨0, by omega⟩, ⟨-1, by omega⟩⟩
theorem rIRel_step {a m u v x y : Int} (h : RIRel a m u v x y) (hv : 0 < v) : RIRel a m v (u - u / v * v) y ((x - (u / v % m) * y % m) % m) ∧ 0 ≤ u / v ∧ u / v ≤ m ∧ 0 ≤ u / v * v ∧ u / v * v ≤ u ∧ u - u / v * v < v := by
  obtain ⟨hg, x0, x1, y0, y1, ⟨k1, hk1⟩, ⟨k2, hk2⟩⟩ := h
  have hs := gcdRel_step hg hv
  obtain ⟨g1, g2, g3, g4, g5, g6⟩ := hg
  have e1 : u - u / v * v = u % v := by have := Int.emod_add_mul_ediv u v; rw [Int.mul_comm] at this; omega
  have e2 : 0 ≤ u % v := Int.emod_nonneg _ (by omega)
  have e3 : u % v < v := Int.emod_lt_of_pos _ hv
  have e4 : 0 ≤ u / v := Int.ediv_nonneg g1 (by omega)
  have e5 : 0 ≤ u / v * v := Int.mul_nonneg e4 (by omega)
  have e6 : u / v ≤ u / v * v := by have := Int.mul_le_mul_of_nonneg_left (show (1 : Int) ≤ v by omega) e4; omega
  have hm : 0 < m := by omega
  refine ⟨⟨by rw [e1]; exact hs, y0, y1, Int.emod_nonneg _ (by omega), Int.emod_lt_of_pos _ hm, ⟨k2, hk2⟩, ?_⟩, e4, by omega, e5, by omega, by omega⟩
  -- the new coefficient
  obtain ⟨q, hq⟩ : ∃ q, u / v = q := ⟨_, rfl⟩
  rw [hq] at e1 ⊢
  have c1 : ∃ t, (q % m) * y % m = q * y + m * t := by
    refine ⟨-(q / m * y) - ((q % m) * y / m), ?_⟩
    have h1 := Int.emod_add_mul_ediv ((q % m) * y) m
    have h2 : (q % m) * y = q * y - m * (q / m * y) := by
      have := Int.emod_add_mul_ediv q m
      rw [show q % m = q - m * (q / m) by omega, Int.sub_mul, Int.mul_assoc]
    rw [Int.mul_sub, Int.mul_neg]
    omega
  obtain ⟨t, ht⟩ := c1
  obtain ⟨s, hs2⟩ : ∃ s, (x - (q % m) * y % m) % m = x - (q % m) * y % m + m * s := ⟨-((x - (q % m) * y % m) / m), by have := Int.emod_add_mul_ediv (x - (q % m) * y % m) m; rw [Int.mul_neg]; omega⟩
  refine ⟨k1 - q * k2 + (s - t) * a, ?_⟩
  rw [hs2, ht]
  obtain ⟨e, he⟩ : ∃ e, s - t = e := ⟨_, rfl⟩
  rw [he, show x - (q * y + m * t) + m * s = x - q * y + m * e by rw [← he, Int.mul_sub]; omega, Int.add_mul, Int.sub_mul, hk1, Int.mul_assoc q y a, hk2, Int.mul_add q, Int.mul_add m, Int.mul_sub m, ← Int.mul_assoc q m, Int.mul_comm q m, Int.mul_assoc m q, Int.mul_assoc m e a]
  omega
theorem rIRel_done {a m u x y g : Int} (h1 : 2 ≤ m) (h : RIRel a m u 0 x y) (hg : IsGcd a m g) (h1g : g = 1) : IsInv a m x ∧ x * a % m = 1 := by
  obtain ⟨hG, x0, x1, y0, y1, ⟨k1, hk1⟩, _⟩ := h
  obtain ⟨d1, d2, d3, d4, d5⟩ := gcdRel_done hG
  have hu : u ∣ 1 := by rw [← h1g]; exact hg.2.2.2.2 u d3 d4
  have hu1 : u = 1 := by have := Int.le_of_dvd (by omega) hu; omega
  have he : x * a % m = 1 := by
    rw [hk1, hu1, Int.add_mul_emod_self_left]
    exact emod_one_of h1
  exact ⟨⟨x0, x1, .inl he⟩, he⟩
def RInvOut (a m : Int) (w : World) (e : Ending) (w' : World) : Prop :=
  ∃ (x : Int) (b : Bool), e = .returned (.tuple #[.int .i64 x, .bool b]) ∧ IsInv a m x ∧ (b = true ↔ ∃ y, y * a % m = 1) ∧ ∃ n, w' = w.drewN n
set_option maxHeartbeats 3200000 in
theorem rinv_any (a m : Int) (h1 : 2 ≤ m) (h2 : m < 2305843009213693952) (ha0 : 0 ≤ a) (ha : a < m) (w : World) :
    Calls Tryz.prog 137 #[.int .i64 a, .int .i64 m] w (RInvOut a m w) := by
  have hmz : ((m : Int) == 0) = false := by simp; omega
  have HS : Hid (RIRel a m a m (1 % m) 0) := Lib.hid (rIRel_start h1 ha0 ha)
  go_enter Tryz.func137, Tryz.ntmps137
  go_wp2_with fail
  refine (rgcd_any a m (by omega) h2 ha0 ha _).mono ?_
  rintro e w' ⟨g, rfl, hg, n0, rfl⟩
  by_cases hg1 : g = 1
  · have d1 : (g == 1) = true := by simp [hg1]
    have d2 : (g != 1) = false := by simp [hg1]
    have HG := Lib.hid hg
    have HG1 := Lib.hid hg1
    clear hg hg1
    go_wp2
    go_loopw [6, 7, 8, 9] (fun u v s t wr => ∃ u' v' x y : Int, u = .int .i64 u' ∧ v = .int .i64 v' ∧ s = .int .i64 x ∧ t = .int .i64 y ∧ Hid (RIRel a m u' v' x y) ∧ ∃ n, wr = w.drewN n) (fun u v _ _ _ => (intOf v).toNat)
    case atStart => exact ⟨a, m, 1 % m, 0, rfl, rfl, rfl, rfl, HS, n0, rfl⟩
    case round =>
      obtain ⟨u, v, x, y, rfl, rfl, rfl, rfl, HR, n, rfl⟩ := hrel
      by_cases hv : v = 0
      · subst hv
        have HD := Lib.hid (rIRel_done h1 HR.out HG.out HG1.out)
        clear HR
        go_wp2
        go_ret2
        exact ⟨x, true, rfl, HD.out.1, ⟨fun _ => ⟨x, HD.out.2⟩, fun _ => rfl⟩, n, rfl⟩
      · obtain ⟨⟨u0, v0, u1, v1, _⟩, x0, x1, y0, y1, _⟩ := HR.out
        have hvp : 0 < v := by omega
        have d1 : ((v : Int) == 0) = false := by simp [hv]
        have d2 : ((v : Int) != 0) = true := by simp [hv]
        obtain ⟨hst, s1, s2, s3, s4, s5⟩ := rIRel_step HR.out hvp
        obtain ⟨q, hq⟩ : ∃ q, u / v = q := ⟨_, rfl⟩
        rw [hq] at hst s1 s2 s3 s4 s5
        obtain ⟨qv, hqv⟩ : ∃ t, q * v = t := ⟨_, rfl⟩
        rw [hqv] at hst s3 s4 s5
        obtain ⟨r, hr⟩ : ∃ r, q % m = r := ⟨_, rfl⟩
        obtain ⟨p, hp⟩ : ∃ p, r * y % m = p := ⟨_, rfl⟩
        obtain ⟨z, hz⟩ : ∃ z, (x - p) % m = z := ⟨_, rfl⟩
        rw [hr, hp, hz] at hst
        have r0 : 0 ≤ r := by rw [← hr]; exact Int.emod_nonneg _ (by omega)
        have r1 : r < m := by rw [← hr]; exact Int.emod_lt_of_pos _ (by omega)
        have p0 : 0 ≤ p := by rw [← hp]; exact Int.emod_nonneg _ (by omega)
        have p1 : p < m := by rw [← hp]; exact Int.emod_lt_of_pos _ (by omega)
        have HST := Lib.hid hst
        have HRr := Lib.hid hr
        have HPp := Lib.hid hp
        have HZz := Lib.hid hz
        have hdif : IntKind.i64.wrap (x - p) = x - p := IntWalk.i64_in _ (by omega)
        clear hst HR hr hp hz hv
        go_wp2_with fail
        refine (rreduce_any q m r HRr (by omega) h2 (by omega) (by omega) _).mono ?_
        rintro e w' ⟨rfl, rfl⟩
        go_wp2_with fail
        refine (rmul_any r y m p HPp h2 r0 r1 y0 y1 _).mono ?_
        rintro e w' ⟨rfl, rfl⟩
        go_wp2_with fail
        refine (rreduce_any (x - p) m z HZz (by omega) h2 (by omega) (by omega) _).mono ?_
        rintro e w' ⟨rfl, rfl⟩
        go_wp2
        go_roundw
        case rel => exact ⟨v, u - qv, y, z, rfl, rfl, rfl, rfl, HST, _, rfl⟩
        case measure => simp [intOf]; omega
  · have d1 : (g == 1) = false := by simp [hg1]
    have d2 : (g != 1) = true := by simp [hg1]
    have HNO : Hid (∀ y, y * a % m ≠ 1) := Lib.hid (no_inv hg.2.2.1 hg.2.2.2.1 hg.1 hg1)
    have HD : Hid (IsInv a m 0) := Lib.hid ⟨by omega, by omega, .inr ⟨rfl, HNO.out⟩⟩
    clear hg hg1
    go_wp2
    go_ret2
    exact ⟨0, false, rfl, HD.out, ⟨fun h => (by cases h), fun ⟨y, hy⟩ => absurd hy (HNO.out y)⟩, n0, rfl⟩
noncomputable def invOf (a m : Int) : Int := @dite _ (∃ x, IsInv a m x) (Classical.propDecidable _) (fun h => Classical.choose h) (fun _ => 0)
noncomputable def invB (a m : Int) : Bool := @decide (∃ y, y * a % m = 1) (Classical.propDecidable _)
theorem invOf_eq {a m x : Int} (h : IsInv a m x) : invOf a m = x := by
  have he : ∃ x, IsInv a m x := ⟨x, h⟩
  unfold invOf
  rw [dif_pos he]
  exact isInv_unique (Classical.choose_spec he) h
theorem rinv_val (a m x : Int) (b : Bool) (hx : Hid (invOf a m = x)) (hb : Hid (invB a m = b)) (h1 : 2 ≤ m) (h2 : m < 2305843009213693952) (ha0 : 0 ≤ a) (ha : a < m) (w : World) :
    Calls Tryz.prog 137 #[.int .i64 a, .int .i64 m] w fun e w' => e = .returned (.tuple #[.int .i64 x, .bool b]) ∧ ∃ n, w' = w.drewN n :=
  (rinv_any a m h1 h2 ha0 ha w).mono fun e w' ⟨x', b', he, hi, hb', hn⟩ => by
    obtain rfl : x' = x := (invOf_eq hi).symm.trans hx.out
    obtain rfl : b' = b := by
      rw [← hb.out, invB, Bool.eq_iff_iff]
      simp only [decide_eq_true_eq]
      exact hb'
    exact ⟨he, hn⟩
end Go.Proofs.YtjnoaejikapmdaaGreatDoor
namespace Go.Proofs.YtjnoaejikapmdaaGreatDoor
open Go.RowKit SpM
set_option linter.unusedVariables false
set_option linter.unusedSimpArgs false
set_option maxRecDepth 20000
theorem pow_eq (a e m v : Int) (hv : Hid (pw a e m = v)) (h1 : 1 ≤ m) (h2 : m < 2305843009213693952) (ha0 : 0 ≤ a) (ha : a < m) (he0 : 0 ≤ e) (he : e < 9223372036854775808) (w : World) :
    Calls Tryz.prog 122 #[.int .i64 a, .int .i64 e, .int .i64 m] w fun e' w' => e' = .returned (.tuple #[.int .i64 v, .int .i64 0]) ∧ ∃ n, w' = w.drewN n := by
  rw [← hv.out]; exact pow_ok a e m h1 h2 ha0 ha he0 he w
theorem wmul_eq (a b m v : Int) (hv : Hid (a * b % m = v)) (h2 : m < 2305843009213693952) (ha0 : 0 ≤ a) (ha : a < m) (hb0 : 0 ≤ b) (hb : b < m) (w : World) :
    Calls Tryz.prog 52 #[.int .i64 a, .int .i64 b, .int .i64 m] w fun e w' => e = .returned (.tuple #[.int .i64 v, .int .i64 0]) ∧ ∃ n, w' = w.drewN n := by
  rw [← hv.out]; exact wmul_ok a b m h2 ha0 ha hb0 hb w
def prodF (P : Int) : Int → List Int → List Int → Int
  | acc, x :: xs, e :: es => prodF P (acc * pw x e P % P) xs es
  | acc, _, _ => acc
theorem prodF_step {P acc : Int} {k : Nat} {xs es : List Int} (hk : k < xs.length) (he : k < es.length) :
    prodF P acc (xs.drop k) (es.drop k) = prodF P (acc * pw (xs.getD k 0) (es.getD k 0) P % P) (xs.drop (k + 1)) (es.drop (k + 1)) := by
  rw [List.drop_eq_getElem_cons hk, List.drop_eq_getElem_cons he, prodF, List.getD_eq_getElem?_getD, List.getElem?_eq_getElem hk, List.getD_eq_getElem?_getD, List.getElem?_eq_getElem he]
  rfl
theorem prodF_start {P s V : Int} {xs es : List Int} (h : Hid (prodF P s xs es = V)) : Hid (prodF P s (xs.drop 0) (es.drop 0) = V) := Lib.hid (by
  rw [List.drop_zero, List.drop_zero]
  exact h.out)
theorem prodF_end {P acc V : Int} {k : Nat} {xs es : List Int} (hn : xs.length = k) (h : Hid (prodF P acc (xs.drop k) (es.drop k) = V)) : acc = V := by
  have h2 := h.out
  rw [← hn, List.drop_length] at h2
  exact h2
theorem scB_lo {Q x : Int} (h : scB Q x = true) : 0 ≤ x := by simp [scB] at h; exact h.1
theorem scB_hi {Q x : Int} (h : scB Q x = true) : x < Q := by simp [scB] at h; exact h.2
set_option maxHeartbeats 6400000 in
theorem lproduct_any (P Q G start : Int) (A : Option Addr) (xs : List Int) (n c : Nat) (E : Option Addr) (es : List Int) (m d : Nat) (V : Int) (hV : Hid (prodF P start xs es = V)) (hn : Hid (xs.length = n)) (hm : Hid (es.length = m)) (hnm : n ≤ m) (hbig : m < 1000000)
    (hx : Hid (xs.all (memG P Q) = true)) (he : Hid (es.all (scB Q) = true)) (hp2 : 2 ≤ P) (hp : P < 2305843009213693952) (hQ : Q < 9223372036854775808) (hs0 : 0 ≤ start) (hs1 : start < P) (w : World) (hA : Hid (Sl w A xs)) (hE : Hid (Sl w E es)) :
    Calls Tryz.prog 291 #[gv P Q G, .int .i64 start, .slice A n c, .slice E m d] w fun e' w' => e' = .returned (.int .i64 V) ∧ Below w.heap.size w w' := by
  have HBX := Lib.hid (below_box0 w (gObj P Q G))
  have HX0 := Lib.hid (gbox_alloc w P Q G)
  have HA0 := Lib.hid (hA.out.below HBX.out)
  have HE0 := Lib.hid (hE.out.below HBX.out)
  obtain ⟨W, hW⟩ : ∃ W, w.alloc (gObj P Q G) = W := ⟨_, rfl⟩
  rw [hW] at HX0 HA0 HE0 HBX
  have HW := Lib.hid hW
  clear hW hA hE
  go_enter Tryz.func291, Tryz.ntmps291
  go_wp2
  rw [HW.out]
  go_loopw [9, 17] (fun y i wr => ∃ (k : Nat) (acc : Int), k ≤ n ∧ y = .int .i64 acc ∧ i = .int .i64 k ∧ 0 ≤ acc ∧ acc < P ∧ Hid (prodF P acc (xs.drop k) (es.drop k) = V) ∧ Hid (Below W.heap.size W wr)) (fun _ i _ => n - (intOf i).toNat)
  case atStart => exact ⟨0, start, by omega, rfl, rfl, by omega, by omega, prodF_start hV, Lib.hid (Below.refl _ _)⟩
  case round =>
    obtain ⟨k, acc, hk, rfl, rfl, a0, a1, HJ, HBr⟩ := hrel
    by_cases hlt : k < n
    · have hkl : k < xs.length := by rw [hn.out]; exact hlt
      have hkm : k < m := by omega
      have hke : k < es.length := by rw [hm.out]; exact hkm
      obtain ⟨b, o, hA, hi0⟩ := HA0.out.below HBr.out k hkl
      obtain ⟨b2, o2, hE, hi1⟩ := HE0.out.below HBr.out k hke
      subst hA
      subst hE
      obtain ⟨c0, c1, c2⟩ := HX0.out.below HBr.out
      have hm1 := all_get hx.out hkl
      have hm2 := all_get he.out hke
      have hst := prodF_step (P := P) (acc := acc) hkl hke
      obtain ⟨x, hxx⟩ : ∃ x, xs.getD k 0 = x := ⟨_, rfl⟩
      obtain ⟨ex, hee⟩ : ∃ x, es.getD k 0 = x := ⟨_, rfl⟩
      rw [hxx] at hi0 hm1 hst
      rw [hee] at hi1 hm2 hst
      have x0 := memG_lo hm1
      have x1 := memG_hi hm1
      have e0 := scB_lo hm2
      have e1 := scB_hi hm2
      obtain ⟨p, hp1⟩ : ∃ p, pw x ex P = p := ⟨_, rfl⟩
      obtain ⟨p0, p1⟩ : 0 ≤ p ∧ p < P := by rw [← hp1]; exact pw_lt _ _ _ (by omega)
      rw [hp1] at hst
      obtain ⟨acc2, hac⟩ : ∃ a, acc * p % P = a := ⟨_, rfl⟩
      rw [hac] at hst
      have q0 : 0 ≤ acc2 := by rw [← hac]; exact Int.emod_nonneg _ (by omega)
      have q1 : acc2 < P := by rw [← hac]; exact Int.emod_lt_of_pos _ (by omega)
      have HJ2 : Hid (prodF P acc2 (xs.drop (k + 1)) (es.drop (k + 1)) = V) := Lib.hid (hst.symm.trans HJ.out)
      have HP1 := Lib.hid hp1
      have HAC := Lib.hid hac
      clear hm1 hm2 hst hxx hee hp1 hac hkl hke HJ
      go_wp2
      go_quiet ((go_at_call 122; exact Calls.quiet_of (pow_eq x ex P p HP1 (by omega) hp (by omega) x1 e0 (by omega) _)))
      go_wp2_with fail
      refine (wmul_eq acc p P acc2 HAC hp a0 a1 p0 p1 _).mono ?_
      rintro e w' ⟨rfl, n3, rfl⟩
      have HB2 : Hid (Below W.heap.size W (wr.drewN (nq + n3))) := Lib.hid (below_drawN HBr.out _)
      go_wp2
      go_roundw
      case rel => exact ⟨k + 1, acc2, by omega, rfl, by go_num, q0, q1, HJ2, HB2⟩
      case measure => simp [intOf]; omega
    · obtain rfl : k = n := by omega
      obtain rfl := prodF_end hn.out HJ
      have hbF := below_ext HBX.out HBr.out
      clear HJ hlt
      go_wp2
      go_ret
      exact ⟨rfl, hbF⟩
theorem OwnL.keep {w w' : World} {B : Nat} {v : Value} {xs : List Int} (h : OwnL w B v xs) (hb : Below w.heap.size w w') : OwnL w' B v xs := by
  obtain ⟨h1, h2⟩ := h
  refine ⟨h1, h2.imp id ?_⟩
  rintro ⟨g, cap, cur, rfl, hg, hh, rest⟩
  exact ⟨g, cap, cur, rfl, hg, (hb.block g (Array.getElem?_eq_some_iff.1 hh).1).trans hh, rest⟩
theorem OwnL.mono {w : World} {B B' : Nat} {v : Value} {xs : List Int} (h : OwnL w B v xs) (hb : B' ≤ B) : OwnL w B' v xs := by
  obtain ⟨h1, h2⟩ := h
  refine ⟨h1, h2.imp id ?_⟩
  rintro ⟨g, cap, cur, rfl, hg, rest⟩
  exact ⟨g, cap, cur, rfl, by omega, rest⟩
theorem takeMap_succ {f : Row → Int} {rows : List Row} {k : Nat} (hk : k < rows.length) : (rows.take (k + 1)).map f = (rows.take k).map f ++ [f (rows.getD k noRow)] := by
  rw [List.take_add_one, List.map_append, List.getElem?_eq_getElem hk, List.getD_eq_getElem?_getD, List.getElem?_eq_getElem hk]
  rfl
theorem takeMap_len {f : Row → Int} {rows : List Row} {k : Nat} (hk : k ≤ rows.length) : ((rows.take k).map f).length = k := by
  rw [List.length_map, List.length_take]; omega
theorem rowAll_get {f : Row → Bool} {xs : List Row} (h : xs.all f = true) {k : Nat} (hk : k < xs.length) : f (xs.getD k noRow) = true := by
  rw [List.getD_eq_getElem?_getD, List.getElem?_eq_getElem hk]
  exact List.all_eq_true.1 h _ (List.getElem_mem hk)
def ListOut (zs : List Int) (w : World) (e : Ending) (w' : World) : Prop := ∃ v, e = .returned v ∧ OwnL w' w.heap.size v zs ∧ Below w.heap.size w w'
set_option maxHeartbeats 6400000 in
theorem lproducts_any (P Q G : Int) (A : Option Addr) (rows : List Row) (n c : Nat) (E : Option Addr) (es : List Int) (m d : Nat) (hn : Hid (rows.length = n)) (hm : Hid (es.length = m)) (hbig : m < 1000000) (hbign : n < 1000000)
    (hx : Hid (rows.all (rowB P Q m) = true)) (he : Hid (es.all (scB Q) = true)) (hp2 : 2 ≤ P) (hp : P < 2305843009213693952) (hQ : Q < 9223372036854775808) (w : World) (hA : Hid (Rw w A rows)) (hE : Hid (Sl w E es)) :
    Calls Tryz.prog 250 #[gv P Q G, .slice A n c, .slice E m d] w (ListOut (rows.map fun r => prodF P 1 r.xs es) w) := by
  obtain ⟨i0, hi, hz0, hz1, hz2⟩ := info_parts intInfo
  have HBX := Lib.hid (below_box0 w (gObj P Q G))
  have HX0 := Lib.hid (gbox_alloc w P Q G)
  have HA0 := Lib.hid (hA.out.below HBX.out)
  have HE0 := Lib.hid (hE.out.below HBX.out)
  obtain ⟨W, hW⟩ : ∃ W, w.alloc (gObj P Q G) = W := ⟨_, rfl⟩
  rw [hW] at HX0 HA0 HE0 HBX
  have HW := Lib.hid hW
  clear hW hA hE
  go_enter Tryz.func250, Tryz.ntmps250
  go_wp2
  rw [HW.out]
  go_loopw [7, 12] (fun v i wr => ∃ k : Nat, k ≤ n ∧ i = .int .i64 k ∧ Hid (OwnL wr W.heap.size v ((rows.take k).map fun r => prodF P 1 r.xs es)) ∧ Hid (Below W.heap.size W wr)) (fun _ i _ => n - (intOf i).toNat)
  case atStart => exact ⟨0, by omega, rfl, Lib.hid (ownL_nil _ _), Lib.hid (Below.refl _ _)⟩
  case round =>
    obtain ⟨k, hk, rfl, HO, HBr⟩ := hrel
    by_cases hlt : k < n
    · have hkl : k < rows.length := by rw [hn.out]; exact hlt
      obtain ⟨⟨b, o, hA, hi0⟩, hok⟩ := HA0.out.below HBr.out k hkl
      subst hA
      obtain ⟨c0, c1, c2⟩ := HX0.out.below HBr.out
      have HEr := Lib.hid (HE0.out.below HBr.out)
      have hrb := rowAll_get hx.out hkl
      have HTS := Lib.hid (takeMap_succ (f := fun r => prodF P 1 r.xs es) hkl)
      obtain ⟨R, hR⟩ : ∃ R, rows.getD k noRow = R := ⟨_, rfl⟩
      rw [hR] at hi0 hrb hok HTS
      obtain ⟨p, rn, rc, xs⟩ := R
      simp only [rowB, Bool.and_eq_true, decide_eq_true_eq] at hrb
      obtain ⟨rfl, hmx⟩ := hrb
      have HL := Lib.hid hok.1
      have HS := Lib.hid hok.2
      have HMX := Lib.hid hmx
      obtain ⟨V, hV⟩ : ∃ V, prodF P 1 xs es = V := ⟨_, rfl⟩
      have HV_ := Lib.hid hV
      have HTS2 : Hid ((rows.take (k + 1)).map (fun r => prodF P 1 r.xs es) = (rows.take k).map (fun r => prodF P 1 r.xs es) ++ [V]) := Lib.hid (by rw [HTS.out, ← hV])
      have HTL := Lib.hid (takeMap_len (f := fun r => prodF P 1 r.xs es) (Nat.le_of_lt hkl))
      dsimp only [Row.val] at hi0
      clear hR hok hmx hV hkl HTS
      go_wp2_with fail
      refine (lproduct_any P Q G 1 p xs rn rc E es rn d V HV_ HL hm (Nat.le_refl _) hbig HMX he hp2 hp hQ (by omega) (by omega) _ HS HEr).mono ?_
      rintro e w2 ⟨rfl, hb0⟩
      have HO1 := Lib.hid (HO.out.keep hb0)
      have HB1 := Lib.hid (below_ext HBr.out hb0)
      have hown : w2.ownsRow W.heap.size 3 1 u7 k (((rows.take k).map fun r => prodF P 1 r.xs es).map (Value.int .i64)) := by
        have h3 := HO1.out
        unfold OwnL at h3
        rwa [HTL.out] at h3
      have hbs := HB1.out.size
      clear hb0 c0 c1 c2 hi0 HO
      go_wp2_with (at_builtin; refine wpList_append_own _ rfl _ _ 24 rfl W.heap.size 3 i0 (.int .i64 0) 1 8 Tryz.underlying24 hi hz0 hz1 hz2 rfl (by decide) _ _ _ rfl (hown.alloc _) ⟨w2.heap.size, 0, none⟩ 1 1 [.int .i64 V] rfl rfl (cell_one_new _ _ _) (ints_oneCell .i64 [V]) (by unfold maxLen; omega) (by omega) (by simp; omega) ?_; intro v' w3 hown1 hgrow1 _)
      have HO2 : Hid (OwnL w3 W.heap.size v' ((rows.take (k + 1)).map fun r => prodF P 1 r.xs es)) := Lib.hid (by
        rw [HTS2.out]
        exact OwnL.app HTL.out.symm hown1)
      have HB2 : Hid (Below W.heap.size W w3) := Lib.hid (HO1.out.below HB1.out hbs hgrow1)
      clear hown hown1 hgrow1
      go_roundw
      case rel => exact ⟨k + 1, by omega, by go_num, HO2, HB2⟩
      case measure => simp [intOf]; omega
    · obtain rfl : k = n := by omega
      have HF : Hid (OwnL wr W.heap.size u7 (rows.map fun r => prodF P 1 r.xs es)) := Lib.hid (by
        have h3 := HO.out
        rwa [← hn.out, List.take_length] at h3)
      have hbF := below_ext HBX.out HBr.out
      have hsz := HBX.out.size
      clear HO hlt
      go_wp2
      go_ret
      exact ⟨_, rfl, HF.out.mono hsz, hbF⟩
theorem validR_parts {P Q G : Int} {ys : List Int} {rows : List Row} (h : validR P Q G ys rows = true) :
    validG P Q G = true ∧ 1 ≤ ys.length ∧ ys.length ≤ 8 ∧ rows.length = ys.length ∧ ys.all (memG P Q) = true ∧ 1 ≤ rowN rows ∧ rowN rows ≤ 12 ∧ rows.all (rowB P Q (rowN rows)) = true := by
  simp only [validR, Bool.and_eq_true, decide_eq_true_eq] at h
  exact h
theorem sl_of_cells {w : World} {b : Nat} {xs : List Int} (h : Cells w b xs) : Sl w (some ⟨b, 0, none⟩) xs := fun k hk => ⟨b, 0, rfl, by rw [Nat.zero_add]; exact h k hk⟩
theorem scB_one {Q c : Int} (h0 : 0 ≤ c) (h1 : c < Q) : [c].all (scB Q) = true := by simp [scB]; omega
end Go.Proofs.YtjnoaejikapmdaaGreatDoor
namespace Go.Proofs.YtjnoaejikapmdaaGreatDoor
open Go.RowKit
theorem quiet_d {P : Program} {f : FuncId} {args : Array Value} {w : World} {n : Nat} {v : Value}
    (h : Calls P f args (w.drewN n) fun e w' => e = .returned v ∧ ∃ m, w' = (w.drewN n).drewN m) : Calls P f args (w.drewN n) fun e w'' => e = .returned v ∧ ∃ m, w'' = w.drewN m :=
  h.mono fun _ _ ⟨he, m, hm⟩ => ⟨he, n + m, by rw [hm, World.drewN_drewN]⟩
end Go.Proofs.YtjnoaejikapmdaaGreatDoor
namespace Go.Proofs.YtjnoaejikapmdaaGreatDoor
open Go.RowKit SpM
set_option linter.unusedVariables false
set_option linter.unusedSimpArgs false
set_option maxRecDepth 100000
theorem tmod_eq {a q v : Int} (h0 : 0 ≤ a) (h : a % q = v) : a.tmod q = v := by rw [Int.tmod_eq_emod_of_nonneg h0]; exact h
set_option maxHeartbeats 800000 in
theorem psub_any (q a b v : Int) (hv : Hid ((a - b + q) % q = v)) (h1 : 1 ≤ q) (h2 : q < 2305843009213693952) (a0 : 0 ≤ a) (a1 : a < q) (b0 : 0 ≤ b) (b1 : b < q) (w : World) :
    Calls Tryz.prog 126 #[.int .i64 q, .int .i64 a, .int .i64 b] w fun e' w' => e' = .returned (.int .i64 v) ∧ Below w.heap.size w w' := by
  have d1 : IntKind.i64.wrap (a - b) = a - b := IntWalk.i64_in _ (by omega)
  have d2 : IntKind.i64.wrap (a - b + q) = a - b + q := IntWalk.i64_in _ (by omega)
  have e1 : wrap64 (a - b) = a - b := IntWalk.wrap64_in _ (by omega)
  have e2 : wrap64 (a - b + q) = a - b + q := IntWalk.wrap64_in _ (by omega)
  have htm : (a - b + q).tmod q = v := tmod_eq (by omega) hv.out
  have v0 : 0 ≤ v := by rw [← hv.out]; exact Int.emod_nonneg _ (by omega)
  have v1 : v < q := by rw [← hv.out]; exact Int.emod_lt_of_pos _ (by omega)
  have hwt : IntKind.i64.wrap v = v := IntWalk.i64_in _ (by omega)
  have hQn : ¬ (q = 0) := by omega
  have hQz : ((q : Int) == 0) = false := by simp; omega
  go_enter Tryz.func126, Tryz.ntmps126
  go_wp2
  go_ret
  exact ⟨rfl, Below.refl _ _⟩
theorem pmulq_any (q a b v : Int) (hv : Hid (a * b % q = v)) (h2 : q < 2305843009213693952) (a0 : 0 ≤ a) (a1 : a < q) (b0 : 0 ≤ b) (b1 : b < q) (w : World) :
    Calls Tryz.prog 125 #[.int .i64 q, .int .i64 a, .int .i64 b] w fun e' w' => e' = .returned (.int .i64 v) ∧ Below w.heap.size w w' := by
  go_enter Tryz.func125, Tryz.ntmps125
  go_wp2_with fail
  refine (wmul_eq a b q v hv h2 a0 a1 b0 b1 _).mono ?_
  rintro e w' ⟨rfl, n3, rfl⟩
  have hbq := below_drawN (Below.refl w.heap.size w) n3
  go_wp2
  go_ret
  exact ⟨rfl, hbq⟩
theorem pinv_any (q a v : Int) (hv : Hid (invOf a q = v)) (h1 : 2 ≤ q) (h2 : q < 2305843009213693952) (a0 : 0 ≤ a) (a1 : a < q) (w : World) :
    Calls Tryz.prog 127 #[.int .i64 q, .int .i64 a] w fun e' w' => e' = .returned (.int .i64 v) ∧ 0 ≤ v ∧ v < q ∧ Below w.heap.size w w' := by
  go_enter Tryz.func127, Tryz.ntmps127
  go_wp2_with fail
  refine (winv_any a q h1 h2 a0 a1 _).mono ?_
  rintro e w' ⟨x, r, rfl, hx, n3, rfl⟩
  obtain rfl : x = v := (invOf_eq hx).symm.trans hv.out
  have x0 := hx.1
  have x1 := hx.2.1
  have hbq := below_drawN (Below.refl w.heap.size w) n3
  clear hx
  go_wp2
  go_ret
  exact ⟨rfl, x0, x1, hbq⟩
theorem isprime_ok (q : Int) (h2 : q < 2305843009213693952) (hp : Hid (isP q = true)) (w : World) (hv : Hid (Vars w)) :
    Calls Tryz.prog 143 #[.int .i64 q] w fun e' w' => e' = .returned (.bool true) ∧ Below w.heap.size w w' := by
  have d1 : decide (q < 2305843009213693952) = true := by simp; omega
  go_enter Tryz.func143, Tryz.ntmps143
  go_wp2_with fail
  refine (is_any q (by omega) true hp.out _ hv.out).mono ?_
  rintro e w' ⟨rfl, n3, rfl⟩
  have hbq := below_drawN (Below.refl w.heap.size w) n3
  go_wp2
  go_ret
  exact ⟨rfl, hbq⟩
theorem says_prs (q : Int) (a : Nat) (W : World) (hx : Hid (W.cell? ⟨a, 0, none⟩ = some (.int .i64 q))) :
    Says 197 #[.pointer (some ⟨a, 0, none⟩)] (fun x => !scB q x) W := fun x w1 hb => by
  show Calls Tryz.prog 197 #[.int .i64 x, .pointer (some ⟨a, 0, none⟩)] w1 fun e w' => e = .returned (.bool (!scB q x)) ∧ Below w1.heap.size w1 w'
  have c0 := cell_below hx.out hb
  by_cases h0 : x < 0
  · have e : scB q x = false := by simp [scB]; omega
    rw [e]
    have d0 : decide (x < 0) = true := by simp; omega
    clear hb e
    go_enter Tryz.func197, Tryz.ntmps197
    go_wp2
    go_ret
    exact ⟨rfl, Below.refl _ _⟩
  · have d0 : decide (x < 0) = false := by simp; omega
    obtain ⟨t, ht⟩ : ∃ t, decide (q ≤ x) = t := ⟨_, rfl⟩
    have e : scB q x = !t := by
      rw [← ht, scB, decide_eq_true (show (0 : Int) ≤ x by omega), Bool.true_and, ← decide_not]
      exact decide_eq_decide.2 (by omega)
    rw [e, Bool.not_not]
    clear hb e
    go_enter Tryz.func197, Tryz.ntmps197
    go_wp2
    go_ret
    exact ⟨by first | rfl | rw [ht], Below.refl _ _⟩
theorem residues_any (q : Int) (A : Option Addr) (xs : List Int) (n c : Nat) (r : Bool) (hr : Hid (xs.all (scB q) = r)) (hn : Hid (xs.length = n)) (hbig : Hid (n < 1000000)) (w : World) (hs : Hid (Sl w A xs)) :
    Calls Tryz.prog 134 #[.int .i64 q, .slice A n c] w fun e' w' => e' = .returned (.bool r) ∧ Below w.heap.size w w' := by
  have HX0 : Hid ((w.alloc (.cells #[.int .i64 q] 3)).cell? ⟨w.heap.size, 0, none⟩ = some (.int .i64 q)) := Lib.hid (cell_blk (heap_alloc_new _ _) 0)
  have HS0 := Lib.hid (hs.out.below (below_box0 w (.cells #[.int .i64 q] 3)))
  have HSy := Lib.hid (says_prs q w.heap.size _ HX0)
  have HP : Hid ((xs.any fun x => !scB q x) = !r) := Lib.hid (by rw [any_not_all, hr.out])
  clear hs
  go_enter Tryz.func134, Tryz.ntmps134
  go_wp2_with fail
  refine (cf_prs (.pointer (some ⟨w.heap.size, 0, none⟩)) (fun x => !scB q x) (!r) A xs n c HP hn hbig _ HS0 HSy).mono ?_
  rintro e w1 ⟨rfl, hb0⟩
  have hb1 := below_ext (below_box0 _ _) hb0
  clear hb0
  go_wp2
  go_ret
  exact ⟨by simp, hb1⟩
set_option maxHeartbeats 1600000 in
theorem index_no (A : Option Addr) (xs : List Int) (n c : Nat) (v : Int) (hn : Hid (xs.length = n)) (hbig : n < 1000000) (hno : Hid (∀ k, k < n → v ≠ xs.getD k 0)) (w : World) (hs : Hid (Sl w A xs)) :
    Calls Tryz.prog 252 #[.slice A n c, .int .i64 v] w fun e' w' => e' = .returned (.int .i64 (-1)) ∧ Below w.heap.size w w' := by
  go_enter Tryz.func252, Tryz.ntmps252
  go_wp2
  go_loopw [8] (fun i wr => ∃ k : Nat, k ≤ n ∧ i = .int .i64 k ∧ Hid (Below w.heap.size w wr)) (fun i _ => n - (intOf i).toNat)
  case atStart => exact ⟨0, by omega, rfl, Lib.hid (Below.refl _ _)⟩
  case round =>
    obtain ⟨k, hk, rfl, HBr⟩ := hrel
    by_cases hlt : k < n
    · have hkl : k < xs.length := by rw [hn.out]; exact hlt
      obtain ⟨b, o, hA, hi0⟩ := hs.out.below HBr.out k hkl
      subst hA
      have hne := hno.out k hlt
      obtain ⟨x, hx⟩ : ∃ x, xs.getD k 0 = x := ⟨_, rfl⟩
      rw [hx] at hi0 hne
      have hnq : (v == x) = false := by simpa using hne
      clear hx hkl hne
      go_wp2
      go_roundw
      case rel => exact ⟨k + 1, by omega, by go_num, HBr⟩
      case measure => simp [intOf]; omega
    · obtain rfl : k = n := by omega
      go_wp2
      go_ret
      exact ⟨rfl, HBr.out⟩
theorem contains_no (A : Option Addr) (xs : List Int) (n c : Nat) (v : Int) (hn : Hid (xs.length = n)) (hbig : n < 1000000) (hno : Hid (∀ k, k < n → v ≠ xs.getD k 0)) (w : World) (hs : Hid (Sl w A xs)) :
    Calls Tryz.prog 189 #[.slice A n c, .int .i64 v] w fun e' w' => e' = .returned (.bool false) ∧ Below w.heap.size w w' := by
  go_enter Tryz.func189, Tryz.ntmps189
  go_wp2_with fail
  refine (index_no A xs n c v hn hbig hno _ hs).mono ?_
  rintro e w1 ⟨rfl, hb0⟩
  go_wp2
  go_ret
  exact ⟨rfl, hb0⟩
theorem sl_take {w : World} {A : Option Addr} {xs : List Int} (h : Sl w A xs) (k : Nat) : Sl w A (xs.take k) := fun j hj => by
  have hj2 : j < k ∧ j < xs.length := by rw [List.length_take] at hj; omega
  obtain ⟨b, o, h1, h2⟩ := h j hj2.2
  refine ⟨b, o, h1, ?_⟩
  rw [h2, List.getD_eq_getElem?_getD, List.getD_eq_getElem?_getD, List.getElem?_take_of_lt hj2.1]
def NoTwice (xs : List Int) : Prop := ∀ i j, i < xs.length → j < i → xs.getD i 0 ≠ xs.getD j 0
set_option maxHeartbeats 3200000 in
theorem pcheck_ok (q : Int) (A : Option Addr) (xs : List Int) (n c : Nat) (O : Option Addr) (os : List Int) (m d : Nat) (h2 : q < 2305843009213693952) (hp : Hid (isP q = true)) (hn : Hid (xs.length = n)) (hbig : n ≤ 100) (hcap : n ≤ c) (hm : Hid (os.length = m)) (hmb : m ≤ 100)
    (hx : Hid (xs.all (scB q) = true)) (ho : Hid (os.all (scB q) = true)) (hnt : Hid (NoTwice xs)) (w : World) (hv : Hid (Vars w)) (hs : Hid (Sl w A xs)) (hO : Hid (Sl w O os)) :
    Calls Tryz.prog 124 #[.int .i64 q, .slice A n c, .slice O m d] w fun e' w' => e' = .returned (.int .i64 0) ∧ Below w.heap.size w w' := by
  have d1 : decide ((100 : Int) < (n : Int)) = false := by simp; omega
  go_enter Tryz.func124, Tryz.ntmps124
  go_wp2_with fail
  refine (isprime_ok q h2 hp _ hv).mono ?_
  rintro e w1 ⟨rfl, hb0⟩
  have HB1 := Lib.hid hb0
  clear hb0
  go_wp2_with fail
  refine (residues_any q A xs n c true hx hn (Lib.hid (by omega)) _ (Lib.hid (hs.out.below HB1.out))).mono ?_
  rintro e w2 ⟨rfl, hb0⟩
  have HB2 := Lib.hid (below_ext HB1.out hb0)
  clear hb0
  go_wp2_with fail
  refine (residues_any q O os m d true ho hm (Lib.hid (by omega)) _ (Lib.hid (hO.out.below HB2.out))).mono ?_
  rintro e w3 ⟨rfl, hb0⟩
  have HB3 := Lib.hid (below_ext HB2.out hb0)
  clear hb0
  go_wp2
  go_loopw [31] (fun i wr => ∃ k : Nat, k ≤ n ∧ i = .int .i64 k ∧ Hid (Below w.heap.size w wr)) (fun i _ => n - (intOf i).toNat)
  case atStart => exact ⟨0, by omega, rfl, HB3⟩
  case round =>
    obtain ⟨k, hk, rfl, HBr⟩ := hrel
    by_cases hlt : k < n
    · have hkl : k < xs.length := by rw [hn.out]; exact hlt
      have HSr := Lib.hid (hs.out.below HBr.out)
      obtain ⟨b, o, hA, hi0⟩ := HSr.out k hkl
      subst hA
      have hkc : k ≤ c := by omega
      have HT := Lib.hid (sl_take HSr.out k)
      have HTN : Hid ((xs.take k).length = k) := Lib.hid (by rw [List.length_take]; omega)
      have HNO : Hid (∀ j, j < k → xs.getD k 0 ≠ (xs.take k).getD j 0) := Lib.hid (fun j hj => by
        have := hnt.out k j hkl hj
        rwa [List.getD_eq_getElem?_getD (l := xs.take k), List.getElem?_take_of_lt hj, ← List.getD_eq_getElem?_getD])
      obtain ⟨x, hx9⟩ : ∃ x, xs.getD k 0 = x := ⟨_, rfl⟩
      rw [hx9] at hi0 HNO
      clear hx9 hkl
      go_wp2_with fail
      refine (contains_no (some ⟨b, o, none⟩) (xs.take k) k c x HTN (by omega) HNO _ HT).mono ?_
      rintro e w4 ⟨rfl, hb0⟩
      have HB4 := Lib.hid (below_ext HBr.out hb0)
      clear hb0
      go_wp2
      go_roundw
      case rel => exact ⟨k + 1, by omega, by go_num, HB4⟩
      case measure => simp [intOf]; omega
    · obtain rfl : k = n := by omega
      go_wp2
      go_ret
      exact ⟨rfl, HBr.out⟩
def tpM (q : Int) (xs : List Int) (i : Nat) (x : Int) : Nat → Int
  | 0 => 1
  | m + 1 => if m = i then tpM q xs i x m else tpM q xs i x m * ((x - xs.getD m 0 + q) % q) % q
theorem tpM_bounds {q : Int} (hq : 2 ≤ q) (xs : List Int) (i : Nat) (x : Int) : ∀ m, 0 ≤ tpM q xs i x m ∧ tpM q xs i x m < q
  | 0 => ⟨by rw [tpM]; omega, by rw [tpM]; omega⟩
  | m + 1 => by
    rw [tpM]
    split
    · exact tpM_bounds hq xs i x m
    · exact ⟨Int.emod_nonneg _ (by omega), Int.emod_lt_of_pos _ (by omega)⟩
noncomputable def wtI (q : Int) (xs : List Int) (t : Int) (i : Nat) : Int := tpM q xs i t xs.length * invOf (tpM q xs i (xs.getD i 0) xs.length) q % q
noncomputable def wtL (q : Int) (xs : List Int) (t : Int) (k : Nat) : List Int := (List.range k).map (wtI q xs t)
theorem wtL_length (q : Int) (xs : List Int) (t : Int) (k : Nat) : (wtL q xs t k).length = k := by simp [wtL]
theorem wtL_succ (q : Int) (xs : List Int) (t : Int) (k : Nat) : wtL q xs t (k + 1) = wtL q xs t k ++ [wtI q xs t k] := by simp [wtL, List.range_succ]
theorem wtL_get (q : Int) (xs : List Int) (t : Int) (k i : Nat) (h : i < k) : (wtL q xs t k).getD i 0 = wtI q xs t i := by
  rw [wtL, List.getD_eq_getElem?_getD, List.getElem?_map, List.getElem?_range h]; rfl
theorem wtI_bounds {q : Int} (hq : 2 ≤ q) (xs : List Int) (t : Int) (i : Nat) : 0 ≤ wtI q xs t i ∧ wtI q xs t i < q := ⟨Int.emod_nonneg _ (by omega), Int.emod_lt_of_pos _ (by omega)⟩
theorem sub_same (x y q : Int) : x + q - y = x - y + q := by omega
theorem inv_mod_one {q : Int} (hq : 2 ≤ q) : (1 : Int).tmod q = 1 := by rw [Int.tmod_eq_emod_of_nonneg (by omega)]; exact Int.emod_eq_of_lt (by omega) (by omega)
def WtOut (q : Int) (xs : List Int) (t : Int) (n : Nat) (w : World) (e : Ending) (w' : World) : Prop := ∃ v, e = .returned (.tuple #[v, .int .i64 0]) ∧ OwnL w' w.heap.size v (wtL q xs t n) ∧ Below w.heap.size w w'
set_option maxHeartbeats 12800000 in
theorem weights_any (q : Int) (A : Option Addr) (xs : List Int) (n c : Nat) (t : Int) (h2 : q < 2305843009213693952) (hp : Hid (isP q = true)) (hn : Hid (xs.length = n)) (hbig : n ≤ 100) (hx : Hid (xs.all (scB q) = true)) (t0 : 0 ≤ t) (t1 : t < q) (hcap : n ≤ c) (hnt : Hid (NoTwice xs)) (w : World) (hv : Hid (Vars w)) (hs : Hid (Sl w A xs)) :
    Calls Tryz.prog 51 #[.int .i64 q, .slice A n c, .int .i64 t] w (WtOut q xs t n w) := by
  obtain ⟨i0, hi, hz0, hz1, hz2⟩ := info_parts intInfo
  have q2 := isP_two hp.out
  have hq := below_box0 w (.cells #[.int .i64 t] 3)
  have HO := Lib.hid (sl_of_cells (cells1 w 3 t))
  have HVa := Lib.hid (hv.out.below hq)
  have HSa := Lib.hid (hs.out.below hq)
  have HBO : Hid ([t].all (scB q) = true) := Lib.hid (scB_one t0 t1)
  have HBa := Lib.hid hq
  clear hq hv hs
  go_enter Tryz.func51, Tryz.ntmps51
  go_wp2_with fail
  refine (pcheck_ok q A xs n c (some ⟨w.heap.size, 0, none⟩) [t] 1 1 h2 hp hn hbig hcap (Lib.hid rfl) (by omega) hx HBO hnt _ HVa HSa HO).mono ?_
  rintro e W ⟨rfl, hb0⟩
  have HBW := Lib.hid (below_ext HBa.out hb0)
  have HSW := Lib.hid (HSa.out.below hb0)
  have HZW := Lib.hid HBW.out.size
  clear hb0 HO HVa HSa
  go_wp2
  go_loopw [9, 26] (fun v i wr => ∃ k : Nat, k ≤ n ∧ i = .int .i64 k ∧ Hid (OwnL wr W.heap.size v (wtL q xs t k)) ∧ Hid (Below W.heap.size W wr)) (fun _ i _ => n - (intOf i).toNat)
  case atStart => exact ⟨0, by omega, rfl, Lib.hid (ownL_nil _ _), Lib.hid (Below.refl _ _)⟩
  case round =>
    obtain ⟨k, hk, rfl, HOr, HBr⟩ := hrel
    by_cases hlt : k < n
    · have hkl : k < xs.length := by rw [hn.out]; exact hlt
      obtain ⟨b, o, hA, hi0⟩ := HSW.out.below HBr.out k hkl
      subst hA
      have hm1 := all_get hx.out hkl
      obtain ⟨xk, hxk⟩ : ∃ x, xs.getD k 0 = x := ⟨_, rfl⟩
      rw [hxk] at hi0 hm1
      have k0 := scB_lo hm1
      have k1 := scB_hi hm1
      have HXK := Lib.hid hxk
      have hQn : ¬ (q = 0) := by omega
      have hQz : ((q : Int) == 0) = false := by simp; omega
      have h1m := inv_mod_one q2
      clear hxk hm1 hkl
      go_wp2
      go_quiet (fail)
      go_wp2
      clear hi0
      go_loopw [12, 13, 37] (fun a u j wz => ∃ m : Nat, m ≤ n ∧ j = .int .i64 m ∧ a = .int .i64 (tpM q xs k t m) ∧ u = .int .i64 (tpM q xs k xk m) ∧ Hid (Below wr.heap.size wr wz)) (fun _ _ j _ => n - (intOf j).toNat)
      case atStart => exact ⟨0, by omega, rfl, rfl, rfl, Lib.hid (by first | exact Below.refl _ _ | exact (Below.refl _ _).drew | exact below_drawN (Below.refl _ _) _)⟩
      case round =>
        obtain ⟨m, hm, rfl, rfl, rfl, HBz⟩ := hrel
        obtain ⟨a0, a1⟩ := tpM_bounds q2 xs k t m
        obtain ⟨u0, u1⟩ := tpM_bounds q2 xs k xk m
        by_cases hlm : m < n
        · have hml : m < xs.length := by rw [hn.out]; exact hlm
          obtain ⟨b2, o2, hA2, hi1⟩ := HSW.out.below (below_ext HBr.out HBz.out) m hml
          cases hA2
          have hm2 := all_get hx.out hml
          have sa : tpM q xs k t (m + 1) = if m = k then tpM q xs k t m else tpM q xs k t m * ((t - xs.getD m 0 + q) % q) % q := rfl
          have su : tpM q xs k xk (m + 1) = if m = k then tpM q xs k xk m else tpM q xs k xk m * ((xk - xs.getD m 0 + q) % q) % q := rfl
          obtain ⟨y, hy⟩ : ∃ x, xs.getD m 0 = x := ⟨_, rfl⟩
          rw [hy] at hi1 hm2 sa su
          have y0 := scB_lo hm2
          have y1 := scB_hi hm2
          obtain ⟨av, hav⟩ : ∃ x, tpM q xs k t m = x := ⟨_, rfl⟩
          obtain ⟨uv, huv⟩ : ∃ x, tpM q xs k xk m = x := ⟨_, rfl⟩
          rw [hav] at a0 a1 sa ⊢
          rw [huv] at u0 u1 su ⊢
          clear hy hm2 hml hav huv
          by_cases hmk : m = k
          · have dn : ((m : Int) != (k : Int)) = false := by simp [hmk]
            rw [if_pos hmk] at sa su
            have SA := Lib.hid sa
            have SU := Lib.hid su
            have HMK := Lib.hid hmk
            clear sa su hmk
            go_wp2
            go_roundw
            case rel => exact ⟨m + 1, by omega, by go_num, by rw [SA.out], by rw [SU.out], HBz⟩
            case measure => simp [intOf]; omega
          · have dn : ((m : Int) != (k : Int)) = true := by simp; omega
            rw [if_neg hmk] at sa su
            obtain ⟨s1, hs1⟩ : ∃ x, (t - y + q) % q = x := ⟨_, rfl⟩
            obtain ⟨s2, hs2⟩ : ∃ x, (xk - y + q) % q = x := ⟨_, rfl⟩
            rw [hs1] at sa
            rw [hs2] at su
            obtain ⟨p1, hp1⟩ : ∃ x, av * s1 % q = x := ⟨_, rfl⟩
            obtain ⟨p2, hp2⟩ : ∃ x, uv * s2 % q = x := ⟨_, rfl⟩
            rw [hp1] at sa
            rw [hp2] at su
            have z1 : 0 ≤ s1 := by rw [← hs1]; exact Int.emod_nonneg _ (by omega)
            have z2 : s1 < q := by rw [← hs1]; exact Int.emod_lt_of_pos _ (by omega)
            have z3 : 0 ≤ s2 := by rw [← hs2]; exact Int.emod_nonneg _ (by omega)
            have z4 : s2 < q := by rw [← hs2]; exact Int.emod_lt_of_pos _ (by omega)
            have SA := Lib.hid sa
            have SU := Lib.hid su
            have H1 := Lib.hid hs1
            have H2 := Lib.hid hs2
            have H3 := Lib.hid hp1
            have H4 := Lib.hid hp2
            clear sa su hs1 hs2 hp1 hp2 hmk
            go_wp2_with fail
            refine (psub_any q t y s1 H1 (by omega) h2 t0 t1 y0 y1 _).mono ?_
            rintro e wy1 ⟨rfl, g1⟩
            have G1 := Lib.hid g1
            clear g1
            go_wp2_with fail
            refine (pmulq_any q av s1 p1 H3 h2 a0 a1 z1 z2 _).mono ?_
            rintro e wy2 ⟨rfl, g2⟩
            have G2 := Lib.hid g2
            clear g2
            go_wp2_with fail
            refine (psub_any q xk y s2 H2 (by omega) h2 k0 k1 y0 y1 _).mono ?_
            rintro e wy3 ⟨rfl, g3⟩
            have G3 := Lib.hid g3
            clear g3
            go_wp2_with fail
            refine (pmulq_any q uv s2 p2 H4 h2 u0 u1 z3 z4 _).mono ?_
            rintro e wy4 ⟨rfl, g4⟩
            have G4 := Lib.hid g4
            clear g4
            have HB2 := Lib.hid (below_ext (below_ext (below_ext (below_ext HBz.out G1.out) G2.out) G3.out) G4.out)
            go_wp2
            go_roundw
            case rel => exact ⟨m + 1, by omega, by go_num, by rw [SA.out], by rw [SU.out], HB2⟩
            case measure => simp [intOf]; omega
        · obtain rfl : m = n := by omega
          have hlen := hn.out
          obtain ⟨av, hav⟩ : ∃ x, tpM q xs k t m = x := ⟨_, rfl⟩
          obtain ⟨uv, huv⟩ : ∃ x, tpM q xs k xk m = x := ⟨_, rfl⟩
          obtain ⟨iv, hiv⟩ : ∃ x, invOf uv q = x := ⟨_, rfl⟩
          obtain ⟨wv, hwv⟩ : ∃ x, av * iv % q = x := ⟨_, rfl⟩
          have HWI : Hid (wtI q xs t k = wv) := Lib.hid (by rw [wtI, hlen, HXK.out, hav, huv, hiv, hwv])
          rw [hav] at a0 a1 ⊢
          rw [huv] at u0 u1 ⊢
          have HIV := Lib.hid hiv
          have HWV := Lib.hid hwv
          have HOz := Lib.hid (HOr.out.keep HBz.out)
          have HBy := Lib.hid (below_ext HBr.out HBz.out)
          clear hlen hav huv hiv hwv HBz HBr HOr
          go_wp2_with fail
          refine (pinv_any q uv iv HIV q2 h2 u0 u1 _).mono ?_
          rintro e y1 ⟨rfl, v0, v1, g1⟩
          have HO1 := Lib.hid (HOz.out.keep g1)
          have HB1 := Lib.hid (below_ext HBy.out g1)
          clear g1 HOz HBy
          go_wp2_with fail
          refine (pmulq_any q av iv wv HWV h2 a0 a1 v0 v1 _).mono ?_
          rintro e y2 ⟨rfl, g1⟩
          have HO2 := Lib.hid (HO1.out.keep g1)
          have HB2 := Lib.hid (below_ext HB1.out g1)
          clear g1 HO1 HB1
          have hown : y2.ownsRow W.heap.size 3 1 u9 k ((wtL q xs t k).map (Value.int .i64)) := by
            have h3 := HO2.out
            unfold OwnL at h3
            rwa [wtL_length] at h3
          have hbs := HB2.out.size
          go_wp2_with (at_builtin; refine wpList_append_own _ rfl _ _ 24 rfl W.heap.size 3 i0 (.int .i64 0) 1 8 Tryz.underlying24 hi hz0 hz1 hz2 rfl (by decide) _ _ _ rfl (hown.alloc _) ⟨y2.heap.size, 0, none⟩ 1 1 [.int .i64 wv] rfl rfl (cell_one_new _ _ _) (ints_oneCell .i64 [wv]) (by unfold maxLen; omega) (by omega) (by simp; omega) ?_; intro v' y3 hown1 hgrow1 _)
          have HO3 : Hid (OwnL y3 W.heap.size v' (wtL q xs t (k + 1))) := Lib.hid (by
            rw [wtL_succ, HWI.out]
            exact OwnL.app (wtL_length q xs t k).symm hown1)
          have HB3 : Hid (Below W.heap.size W y3) := Lib.hid (HO2.out.below HB2.out hbs hgrow1)
          clear hown hown1 hgrow1 HO2 HB2
          go_roundw
          case rel => exact ⟨k + 1, by omega, by go_num, HO3, HB3⟩
          case measure => simp [intOf]; omega
    · obtain rfl : k = n := by omega
      have hF := below_ext HBW.out HBr.out
      have hO := (HOr.out).mono HZW.out
      have HF := Lib.hid hF
      have HOF := Lib.hid hO
      clear hF hO HOr HBr
      go_wp2
      go_ret2
      exact ⟨_, rfl, HOF.out, HF.out⟩
theorem inv_lo {a q v : Int} (hq : 2 ≤ q) (h : invOf a q = v) : 0 ≤ v ∧ v < q := by
  rw [← h]
  unfold invOf
  split
  · rename_i he; exact ⟨(Classical.choose_spec he).1, (Classical.choose_spec he).2.1⟩
  · omega
def RWtOut (q : Int) (xs : List Int) (t : Int) (n : Nat) (w : World) (e : Ending) (w' : World) : Prop := ∃ v, e = .returned v ∧ OwnL w' w.heap.size v (wtL q xs t n) ∧ Below w.heap.size w w'
set_option maxHeartbeats 12800000 in
theorem rweights_any (q : Int) (A : Option Addr) (xs : List Int) (n c : Nat) (t : Int) (h2 : q < 2305843009213693952) (hp : Hid (isP q = true)) (hn : Hid (xs.length = n)) (hbig : n ≤ 100) (hx : Hid (xs.all (scB q) = true)) (t0 : 0 ≤ t) (t1 : t < q) (w : World) (hs : Hid (Sl w A xs)) :
    Calls Tryz.prog 71 #[.int .i64 q, .slice A n c, .int .i64 t] w (RWtOut q xs t n w) := by
  obtain ⟨i0, hi, hz0, hz1, hz2⟩ := info_parts intInfo
  have q2 := isP_two hp.out
  go_enter Tryz.func71, Tryz.ntmps71
  go_wp2
  go_loopw [7, 8] (fun v i wr => ∃ k : Nat, k ≤ n ∧ i = .int .i64 k ∧ Hid (OwnL wr w.heap.size v (wtL q xs t k)) ∧ Hid (Below w.heap.size w wr)) (fun _ i _ => n - (intOf i).toNat)
  case atStart => exact ⟨0, by omega, rfl, Lib.hid (ownL_nil _ _), Lib.hid (Below.refl _ _)⟩
  case round =>
    obtain ⟨k, hk, rfl, HOr, HBr⟩ := hrel
    by_cases hlt : k < n
    · have hkl : k < xs.length := by rw [hn.out]; exact hlt
      have hm1 := all_get hx.out hkl
      obtain ⟨xk, hxk⟩ : ∃ x, xs.getD k 0 = x := ⟨_, rfl⟩
      rw [hxk] at hm1
      have k0 := scB_lo hm1
      have k1 := scB_hi hm1
      have HXK := Lib.hid hxk
      have hQn : ¬ (q = 0) := by omega
      have hQz : ((q : Int) == 0) = false := by simp; omega
      clear hxk hm1
      go_wp2
      go_loopw [9, 10, 11] (fun a u j wz => ∃ m : Nat, m ≤ n ∧ j = .int .i64 m ∧ a = .int .i64 (tpM q xs k t m) ∧ u = .int .i64 (tpM q xs k xk m) ∧ Hid (Below wr.heap.size wr wz)) (fun _ _ j _ => n - (intOf j).toNat)
      case atStart => exact ⟨0, by omega, rfl, rfl, rfl, Lib.hid (Below.refl _ _)⟩
      case round =>
        obtain ⟨m, hm, rfl, rfl, rfl, HBz⟩ := hrel
        obtain ⟨a0, a1⟩ := tpM_bounds q2 xs k t m
        obtain ⟨u0, u1⟩ := tpM_bounds q2 xs k xk m
        by_cases hlm : m < n
        · have hml : m < xs.length := by rw [hn.out]; exact hlm
          have HSz := Lib.hid (hs.out.below (below_ext HBr.out HBz.out))
          obtain ⟨b2, o2, hA2, hi1⟩ := HSz.out m hml
          obtain ⟨b3, o3, hA3, hi0⟩ := HSz.out k hkl
          subst hA2
          cases hA3
          rw [HXK.out] at hi0
          have hm2 := all_get hx.out hml
          have sa : tpM q xs k t (m + 1) = if m = k then tpM q xs k t m else tpM q xs k t m * ((t - xs.getD m 0 + q) % q) % q := rfl
          have su : tpM q xs k xk (m + 1) = if m = k then tpM q xs k xk m else tpM q xs k xk m * ((xk - xs.getD m 0 + q) % q) % q := rfl
          obtain ⟨y, hy⟩ : ∃ x, xs.getD m 0 = x := ⟨_, rfl⟩
          rw [hy] at hi1 hm2 sa su
          have y0 := scB_lo hm2
          have y1 := scB_hi hm2
          obtain ⟨av, hav⟩ : ∃ x, tpM q xs k t m = x := ⟨_, rfl⟩
          obtain ⟨uv, huv⟩ : ∃ x, tpM q xs k xk m = x := ⟨_, rfl⟩
          rw [hav] at a0 a1 sa ⊢
          rw [huv] at u0 u1 su ⊢
          clear hy hm2 hml hav huv
          by_cases hmk : m = k
          · have dn : ((m : Int) != (k : Int)) = false := by simp [hmk]
            rw [if_pos hmk] at sa su
            have SA := Lib.hid sa
            have SU := Lib.hid su
            have HMK := Lib.hid hmk
            clear sa su hmk hi0 hi1
            go_wp2
            go_roundw
            case rel => exact ⟨m + 1, by omega, by go_num, by rw [SA.out], by rw [SU.out], HBz⟩
            case measure => simp [intOf]; omega
          · have dn : ((m : Int) != (k : Int)) = true := by simp; omega
            rw [if_neg hmk] at sa su
            obtain ⟨s1, hs1⟩ : ∃ x, (t - y + q) % q = x := ⟨_, rfl⟩
            obtain ⟨s2, hs2⟩ : ∃ x, (xk - y + q) % q = x := ⟨_, rfl⟩
            rw [hs1] at sa
            rw [hs2] at su
            obtain ⟨p1, hp1⟩ : ∃ x, av * s1 % q = x := ⟨_, rfl⟩
            obtain ⟨p2, hp2⟩ : ∃ x, uv * s2 % q = x := ⟨_, rfl⟩
            rw [hp1] at sa
            rw [hp2] at su
            have z1 : 0 ≤ s1 := by rw [← hs1]; exact Int.emod_nonneg _ (by omega)
            have z2 : s1 < q := by rw [← hs1]; exact Int.emod_lt_of_pos _ (by omega)
            have z3 : 0 ≤ s2 := by rw [← hs2]; exact Int.emod_nonneg _ (by omega)
            have z4 : s2 < q := by rw [← hs2]; exact Int.emod_lt_of_pos _ (by omega)
            have r1 : (t + q - y).tmod q = s1 := tmod_eq (by omega) (by rw [sub_same]; exact hs1)
            have r2 : (xk + q - y).tmod q = s2 := tmod_eq (by omega) (by rw [sub_same]; exact hs2)
            have c1 : IntKind.i64.wrap (t + q) = t + q := IntWalk.i64_in _ (by omega)
            have c2 : IntKind.i64.wrap (t + q - y) = t + q - y := IntWalk.i64_in _ (by omega)
            have c3 : IntKind.i64.wrap (xk + q) = xk + q := IntWalk.i64_in _ (by omega)
            have c4 : IntKind.i64.wrap (xk + q - y) = xk + q - y := IntWalk.i64_in _ (by omega)
            have e1 : wrap64 (t + q) = t + q := IntWalk.wrap64_in _ (by omega)
            have e2 : wrap64 (t + q - y) = t + q - y := IntWalk.wrap64_in _ (by omega)
            have e3 : wrap64 (xk + q) = xk + q := IntWalk.wrap64_in _ (by omega)
            have e4 : wrap64 (xk + q - y) = xk + q - y := IntWalk.wrap64_in _ (by omega)
            have f1 : IntKind.i64.wrap s1 = s1 := IntWalk.i64_in _ (by omega)
            have f2 : IntKind.i64.wrap s2 = s2 := IntWalk.i64_in _ (by omega)
            have SA := Lib.hid sa
            have SU := Lib.hid su
            have H3 := Lib.hid hp1
            have H4 := Lib.hid hp2
            clear sa su hs1 hs2 hp1 hp2 hmk
            go_wp2_with fail
            refine (rmul_any av s1 q p1 H3 h2 a0 a1 z1 z2 _).mono ?_
            rintro e wy ⟨rfl, rfl⟩
            go_wp2
            go_quiet ((go_at_call 62; exact quiet_left (rmul_any uv s2 q p2 H4 h2 u0 u1 z3 z4 _)))
            have HB2 := Lib.hid (below_drawN HBz.out nq)
            go_wp2
            go_roundw
            case rel => exact ⟨m + 1, by omega, by go_num, by rw [SA.out], by rw [SU.out], HB2⟩
            case measure => simp [intOf]; omega
        · obtain rfl : m = n := by omega
          have hlen := hn.out
          obtain ⟨av, hav⟩ : ∃ x, tpM q xs k t m = x := ⟨_, rfl⟩
          obtain ⟨uv, huv⟩ : ∃ x, tpM q xs k xk m = x := ⟨_, rfl⟩
          obtain ⟨iv, hiv⟩ : ∃ x, invOf uv q = x := ⟨_, rfl⟩
          obtain ⟨wv, hwv⟩ : ∃ x, av * iv % q = x := ⟨_, rfl⟩
          have HWI : Hid (wtI q xs t k = wv) := Lib.hid (by rw [wtI, hlen, HXK.out, hav, huv, hiv, hwv])
          rw [hav] at a0 a1 ⊢
          rw [huv] at u0 u1 ⊢
          have HIV := Lib.hid hiv
          have HWV := Lib.hid hwv
          have HOz := Lib.hid (HOr.out.keep HBz.out)
          have HBy := Lib.hid (below_ext HBr.out HBz.out)
          obtain ⟨v0, v1⟩ := inv_lo (a := uv) q2 hiv
          clear hlen hav huv hiv hwv HBz HBr HOr
          go_wp2_with fail
          refine (rinv_val uv q iv _ HIV (Lib.hid rfl) q2 h2 u0 u1 _).mono ?_
          rintro e y1 ⟨rfl, n1, hy1⟩
          have g1 : Below wr.heap.size wr y1 := by rw [hy1]; exact below_drawN (Below.refl _ _) n1
          have HO1 := Lib.hid (HOz.out.keep g1)
          have HB1 := Lib.hid (below_ext HBy.out g1)
          clear g1 HOz HBy hy1
          go_wp2_with fail
          refine (rmul_any av iv q wv HWV h2 a0 a1 v0 v1 _).mono ?_
          rintro e y2 ⟨rfl, hy2⟩
          subst hy2
          have hown : y1.ownsRow w.heap.size 3 1 u7 k ((wtL q xs t k).map (Value.int .i64)) := by
            have h3 := HO1.out
            unfold OwnL at h3
            rwa [wtL_length] at h3
          have hbs := HB1.out.size
          go_wp2_with (at_builtin; refine wpList_append_own _ rfl _ _ 24 rfl w.heap.size 3 i0 (.int .i64 0) 1 8 Tryz.underlying24 hi hz0 hz1 hz2 rfl (by decide) _ _ _ rfl (hown.alloc _) ⟨y1.heap.size, 0, none⟩ 1 1 [.int .i64 wv] rfl rfl (cell_one_new _ _ _) (ints_oneCell .i64 [wv]) (by unfold maxLen; omega) (by omega) (by simp; omega) ?_; intro v' y3 hown1 hgrow1 _)
          have HO3 : Hid (OwnL y3 w.heap.size v' (wtL q xs t (k + 1))) := Lib.hid (by
            rw [wtL_succ, HWI.out]
            exact OwnL.app (wtL_length q xs t k).symm hown1)
          have HB3 : Hid (Below w.heap.size w y3) := Lib.hid (HO1.out.below HB1.out hbs hgrow1)
          clear hown hown1 hgrow1 HO1 HB1
          go_roundw
          case rel => exact ⟨k + 1, by omega, by go_num, HO3, HB3⟩
          case measure => simp [intOf]; omega
    · obtain rfl : k = n := by omega
      go_wp2
      go_ret
      exact ⟨_, rfl, HOr.out, HBr.out⟩
end Go.Proofs.YtjnoaejikapmdaaGreatDoor
