/- Contracts and lemmas: Rnd, Ply, Pev, Psm, Psn, Ppr, Pin, Pvl, TruA, DeaA, TruB, TruC, Two. -/
import Derived.RangeFuncBox
import Derived.RangeFuncLeaves
import Derived.RangeFuncCalls
import Derived.OrdersIn
import Derived.Shelf.Abstract
import Derived.WalkKit
import Derived.OwnWalkIn
import Derived.TacticsInMore
import Derived.LoopNIn
import Derived.LoopIn
import Derived.Maps.OwnSet
import Derived.Deep.AppendLies
import Derived.Test.YticegghameafgaaGreatDoorTp3
set_option linter.unusedVariables false
set_option linter.unusedSimpArgs false
set_option maxRecDepth 100000
set_option maxHeartbeats 25600000
namespace Go.Proofs.YticegghameafgaaGreatDoor
open Go Go.RowKit jq
theorem zf {n : Nat} {P : Program} {row : String} {args : Array Value} {w : World} {R : Value → World → Prop} (l : Nat) (h : Rows P row args w R) : RowsIn (Fence.wide.inRound l) n P row args w R :=
 fun c cs _ => let ⟨v, w', r, s⟩ := h c cs; ⟨v, w', r, stepsIn_wide.2 s⟩
theorem BJ {P : Program} {o : Oper} {a : Act} {w : World} {K : Act → World → Prop} {Q : Exit → Act → World → Prop} (l n : Nat) (hd : ∀ c, o.op ≠ .defer c) (h : o.wp P a w K Q) : o.wpIn (Fence.wide.inRound l) n P a w K Q := by
 refine ⟨fun _ _ => trivial, ?_⟩
 rw [Fence.inRound_round, Oper.semAt_some l a.eval o hd]
 unfold Oper.wp at h
 generalize (execOp a.eval o).run P w = r at *
 cases r with
 | ok x w' =>
  cases x <;> simp only [Oper.upon, Oper.uponIn] at h ⊢ <;>
   first
    | exact h
    | exact h.elim
    | exact ⟨fun e => (by cases e), CallsIn.inRound l (callsIn_wide.2 h)⟩
    | exact ⟨fun e => (by cases e), zf l h⟩
 | halt x w' => cases x <;> simp only [Oper.upon, Oper.uponIn] at h ⊢ <;> first | exact h | exact h.elim
def kD (ops : Array Oper) : Bool := ops.all fun o => match o.op with | .defer _ => false | _ => true
theorem qR {ops : Array Oper} (h : kD ops = true) {i : Nat} {o : Oper} (ho : ops[i]? = some o) (c : Call) : o.op ≠ .defer c := fun e => by
 unfold kD at h
 rw [Array.all_eq_true] at h
 obtain ⟨hi, hv⟩ := Array.getElem?_eq_some_iff.1 ho
 have h2 := h i hi
 rw [hv, e] at h2
 cases h2
section
variable {P : Program} {ops : Array Oper} {Q : Exit → Act → World → Prop} {md : Region.Mode}
theorem H9 {i : Nat} {a : Act} {w : World} {K K' : Act → World → Prop} (l n : Nat) (hd : kD ops = true) (hQ : ¬ LetsOut Q) (hK : ∀ a w, K a w → K' a w) (h : wpOp P ops Q i K a w) : wpOpIn (Fence.wide.inRound l) n P ops Q i K' a w := by
 unfold wpOp at h
 unfold wpOpIn
 cases ho : ops[i]? with
 | none => simp only [ho] at h ⊢; exact hK _ _ h
 | some o =>
  simp only [ho] at h ⊢
  split
  ·
   rename_i hw
   rw [if_pos hw] at h
   exact Oper.wpIn_mono hK (BJ l n (qR hd ho) (h.resolve_right fun e => hQ e.2))
  ·
   rename_i hw
   rw [if_neg hw] at h
   exact ⟨fun _ _ => trivial, hK _ _ h⟩
theorem yL (l n : Nat) (hd : kD ops = true) (hQ : ¬ LetsOut Q) : ∀ (fuel : Nat) (listed : Array Bool) (a : Act) (w : World), wpAny P md ops Q fuel listed a w → wpAnyIn (Fence.wide.inRound l) n P md ops Q fuel listed a w
 | 0, _, _, _, h => h
 | fuel + 1, _, _, _, h => ⟨h.1, fun i hi => H9 l n hd hQ (fun a w => yL l n hd hQ fuel _ a w) (h.2 i hi)⟩
theorem NF {id : Nat} {a : Act} {w : World} (l n : Nat) (B : World → Prop) (E : List Nat) (hQ : ¬ LetsOut Q) (hS : Hid (B w.drew)) (h : Hid (B w.drew) → gz P .any ops Q (fun u => Hid (B u)) E ops.size (Array.replicate ops.size false) a w.drew)
  (hd : kD ops = true := by kernel_rfl) (hm : P.follows .mixedOrders = true := by kernel_rfl) : (Code.region id ops true).wpIn (Fence.wide.inRound l) n P Q a w :=
 wpIn_region_any hm (yL l n hd hQ _ _ _ _ (jy _ _ _ _ (h hS)))
end
def Dh {α : Type} (f : Nat → α) (n k : Nat) : List α := (List.range k).map fun j => f (n - 1 - j)
theorem oI {α : Type} (f : Nat → α) (n k : Nat) : Dh f n (k + 1) = Dh f n k ++ [f (n - 1 - k)] := by simp [Dh, List.range_succ]
theorem wX {α : Type} (f : Nat → α) (n k : Nat) : (Dh f n k).length = k := by simp [Dh]
def yP (N y : Nat) (W W' : World) : Prop := W.heap.size ≤ W'.heap.size ∧ ∀ b, b < N → b ≠ y → W'.heap[b]? = W.heap[b]?
theorem yP.refl (N y : Nat) (W : World) : yP N y W W := ⟨Nat.le_refl _, fun _ _ _ => rfl⟩
theorem yP.trans {N y : Nat} {A B C : World} (h : yP N y A B) (k : yP N y B C) : yP N y A C := ⟨Nat.le_trans h.1 k.1, fun b h1 h2 => (k.2 b h1 h2).trans (h.2 b h1 h2)⟩
theorem FK {W W' : World} {b : Nat} (h : W'.heap[b]? = W.heap[b]?) (j : Nat) : W'.cell? ⟨b, j, none⟩ = W.cell? ⟨b, j, none⟩ := by simp [World.cell?, h]
theorem yP.cell {N y : Nat} {W W' : World} (h : yP N y W W') {b j : Nat} {v : Value} (h1 : b < N) (h2 : b ≠ y) (hc : W.cell? ⟨b, j, none⟩ = some v) : W'.cell? ⟨b, j, none⟩ = some v := (FK (h.2 b h1 h2) j).trans hc
attribute [local go_sem] Oper.semAt_some
theorem FN {α : Type} (f : Nat → α) (encs : α → Array Value) (n : Nat) (hn : 1 ≤ n) (l Bs n₀ y b off len cap : Nat) (zs : List Int) (hf : ∀ j, j < len → encs (f j) = #[.int .i64 (j : Int), .int .i64 (zs.getD j 0)]) (Ck : len ≤ 1000000) (hb : b < n₀) (hby : b ≠ y) (hB : Bs < n₀) (Ou : Bs ≠ y) (J Jx : List α → World → Prop)
  (hY : ∀ pre x W, J pre W → pre.length < len → YieldAt Fence.wide (n - 1) Tryz.prog l (encs x) W fun e W' =>
   (e = .returned (.bool true) ∧ J (pre ++ [x]) W' ∧ yP n₀ y W W') ∨ (e = .returned (.bool false) ∧ Jx (pre ++ [x]) W'))
  (W : World) (Mq : W.cell? ⟨Bs, 0, none⟩ = some (.slice (some ⟨b, off, none⟩) len cap)) (hc : ∀ j, j < len → W.cell? ⟨b, off + j, none⟩ = some (.int .i64 (zs.getD j 0))) (h0 : J [] W) :
  CallsIn Fence.wide n Tryz.prog 93 #[.func (.yield l) #[] #[], .pointer (some ⟨Bs, 0, none⟩)] W fun e W' => (∃ v, e = .returned v) ∧
   ((∃ ys, ys = Dh f len len ∧ J ys W') ∨ (∃ pre, (∃ k, k ≤ len ∧ pre = Dh f len k) ∧ Jx pre W')) := by
 refine callsIn_of_wp Tryz.func93 rfl trivial ?_ rfl
 simp only [Tryz.ntmps93, List.size_toArray, List.length_cons, List.length_nil, Nat.reduceAdd, Nat.reduceSub, Array.replicate_succ, Array.replicate_zero, List.push_toArray, List.append_toArray, List.nil_append, List.cons_append]
 gi_wp2
 gi_loopw [3] (fun i wr => ∃ k : Nat, k ≤ len ∧ i = .int .i64 ((len : Int) - 1 - (k : Int)) ∧ J (Dh f len k) wr ∧ yP n₀ y W wr)
  (fun i _ => (intOf i + 1).toNat)
 case atStart => exact ⟨0, Nat.zero_le _, by simp, h0, yP.refl _ _ _⟩
 case round =>
  obtain ⟨k, hk, rfl, hJs, hnx⟩ := hrel
  have hBw := hnx.cell hB Ou Mq
  by_cases hlt : k < len
  ·
   have hcx : wr.cell? ⟨b, off + (len - 1 - k), none⟩ = some (.int .i64 (zs.getD (len - 1 - k) 0)) := hnx.cell hb hby (hc _ (by omega))
   obtain ⟨j, hj⟩ : ∃ j, len - 1 - k = j := ⟨_, rfl⟩
   have e1 : (len : Int) - 1 - (k : Int) = (j : Int) := by omega
   rw [hj] at hcx
   have hj2 : j < len := by omega
   obtain ⟨v, hv⟩ : ∃ v, zs.getD j 0 = v := ⟨_, rfl⟩
   have hY2 := hY _ (f j) wr hJs (by rw [wX]; exact hlt)
   rw [hf j hj2, hv] at hY2
   obtain ⟨fn, tmps, assign, body, hy, hR⟩ := hY2
   rw [hv] at hcx
   have hv := aa hv
   rw [e1]
   gi_wp2
   refine hR.mono ?_
   rintro e W3 (⟨rfl, hJ3, hk3⟩ | ⟨rfl, hJx3⟩)
   ·
    gi_wp2
    go_roundw
    case rel => exact ⟨k + 1, by omega, by simp <;> omega, by rw [oI, hj]; exact hJ3, hnx.trans hk3⟩
    case measure => simp [intOf] <;> omega
   ·
    gi_wp2
    refine bodyPost_ret (results_none rfl _ _ _) rfl ?_
    exact ⟨⟨_, rfl⟩, .inr ⟨_, ⟨k + 1, by omega, by rw [oI, hj]⟩, hJx3⟩⟩
  ·
   obtain rfl : k = len := by omega
   have e1 : (k : Int) - 1 - (k : Int) = -1 := by omega
   rw [e1]
   gi_wp2
   go_end0
   exact ⟨⟨_, rfl⟩, .inl ⟨_, rfl, hJs⟩⟩
theorem Dg {α : Type} (n : Nat) (l Bs : Nat) (A : Option Addr) (cap : Nat) (J : List α → World → Prop) (W : World) (Mq : W.cell? ⟨Bs, 0, none⟩ = some (.slice A 0 cap)) (h0 : J [] W) :
  CallsIn Fence.wide n Tryz.prog 93 #[.func (.yield l) #[] #[], .pointer (some ⟨Bs, 0, none⟩)] W fun e W' => (∃ v, e = .returned v) ∧ J [] W' := by
 refine callsIn_of_wp Tryz.func93 rfl trivial ?_ rfl
 simp only [Tryz.ntmps93, List.size_toArray, List.length_cons, List.length_nil, Nat.reduceAdd, Nat.reduceSub, Array.replicate_succ, Array.replicate_zero, List.push_toArray, List.append_toArray, List.nil_append, List.cons_append]
 gi_wp2
 gi_loopw [3] (fun i wr => i = .int .i64 (-1) ∧ J [] wr) (fun _ _ => 0)
 case atStart => exact ⟨rfl, h0⟩
 case round =>
  obtain ⟨rfl, hJs⟩ := hrel
  gi_wp2
  go_end0
  exact ⟨⟨_, rfl⟩, hJs⟩
theorem I9 (n : Nat) (a : Option Addr) (len cap : Nat) (w : World) :
  CallsIn Fence.wide n Tryz.prog 72 #[.slice a len cap] w fun e w' => e = .returned (.func (.func 93) #[] #[.pointer (some ⟨w.heap.size, 0, none⟩)]) ∧ w' = w.alloc (.cells #[.slice a len cap] 30) := by
 refine callsIn_of_wp Tryz.func72 rfl trivial ?_ rfl
 simp only [Tryz.ntmps72, List.size_toArray, List.length_cons, List.length_nil, Nat.reduceAdd, Nat.reduceSub, Array.replicate_succ, Array.replicate_zero, List.push_toArray, List.append_toArray, List.nil_append, List.cons_append]
 gi_wp2
 go_ret
 exact ⟨rfl, rfl⟩
def GJ (N y : Nat) (W : World) (A : Option Addr) (zs : List Int) : Prop :=
 zs = [] ∨ ∃ b off, A = some ⟨b, off, none⟩ ∧ b < N ∧ b ≠ y ∧ ∀ j, j < zs.length → W.cell? ⟨b, off + j, none⟩ = some (.int .i64 (zs.getD j 0))
theorem Ce {w W : World} {N y : Nat} {A : Option Addr} {zs : List Int} (h : Sl w A zs) (hb : Below w.heap.size w W) (hN : w.heap.size ≤ N) (hy : w.heap.size ≤ y) : GJ N y W A zs := by
 by_cases e : zs.length = 0
 · exact .inl (List.length_eq_zero_iff.1 e)
 ·
  obtain ⟨b, o, h1, h2⟩ := h 0 (by omega)
  have hlt := World.block_lt_of_cell? _ _ h2
  dsimp only at hlt
  refine .inr ⟨b, o, h1, by omega, by omega, fun j hj => ?_⟩
  obtain ⟨b', o', h3, h4⟩ := h.below hb j hj
  rw [h1] at h3
  injection h3 with h3
  injection h3 with e1 e2
  rw [e1, e2]; exact h4
theorem zU {α : Type} (f : Nat → α) (encs : α → Array Value) (n : Nat) (hn : 1 ≤ n) (Bs N y : Nat) (A : Option Addr) (m cap : Nat) (zs : List Int) (hm : zs.length = m) (hf : ∀ j, j < m → encs (f j) = #[.int .i64 (j : Int), .int .i64 (zs.getD j 0)]) (Ck : m ≤ 1000000) (w : World) (Mq : Bs < w.heap.size) (hN : N ≤ w.heap.size) (hB : Bs < N) (Ou : Bs ≠ y)
  (hc : w.cell? ⟨Bs, 0, none⟩ = some (.slice A m cap)) (hI : GJ N y w A zs) :
  SeqStopsK Fence.wide n Tryz.prog 93 #[.pointer (some ⟨Bs, 0, none⟩)] encs (yP N y) (fun ys => ys = Dh f m m)
   (fun pre => ∃ k, k ≤ m ∧ pre = Dh f m k) m w := fun l J Jx W hW _ _ hY h0 => by
 have hc' := (hW.cell (p := ⟨Bs, 0, none⟩) Mq).trans hc
 rcases hI with rfl | ⟨b, off, rfl, hb, hby, hcs⟩
 ·
  obtain rfl : 0 = m := hm
  exact (Dg n l Bs A cap J W hc' h0).mono fun e W' ⟨he, hj⟩ => ⟨he, .inl ⟨_, rfl, hj⟩⟩
 · exact FN f encs n hn l Bs N y b off m cap zs hf Ck hb hby hB Ou J Jx hY W hc' (fun j hj => (hW.cell (p := ⟨b, off + j, none⟩) (Nat.lt_of_lt_of_le hb hN)).trans (hcs j (by omega))) h0
theorem Km {N y : Nat} (W : World) (l : Nat) (o : Obj) (h : N ≤ l) : yP N y W (W.putObj l o) :=
 ⟨by simp [World.putObj], fun b h1 h2 => by simp [World.putObj, Array.getElem?_setIfInBounds]; omega⟩
end Go.Proofs.YticegghameafgaaGreatDoor
namespace Go.Proofs.YticegghameafgaaGreatDoor
open Go.RowKit jq
theorem kH {q a : Int} (h1 : 2 ≤ q) (h : Un q a) : Cg q (fP a q * a) 1 := by
 obtain ⟨y, hy⟩ := h
 have h2 : lD a q (y % q) := ⟨Int.emod_nonneg _ (by omega), Int.emod_lt_of_pos _ (by omega), .inl (by
  rw [((Cg.mod q y).mul (Cg.refl q a)).eq, hy.eq]
  exact Int.emod_eq_of_lt (by omega) (by omega))⟩
 rw [tO h2]
 exact ((Cg.mod q y).mul (Cg.refl q a)).trans hy
abbrev cK (l : List Int) : Nat → Int := fun k => l.getD k 0
def rE (q : Int) (xs ys : List Int) (n : Nat) (f : List Int) : Prop :=
 ∃ kp : Nat → Int, (∀ m, m < n → Cg q (kp m * gp (cK xs) (cK xs m) m) (cK ys m - nw (cK xs) (cK ys) kp (cK xs m) m)) ∧ ∀ X, Cg q (pv f X) (nw (cK xs) (cK ys) kp X n)
theorem nS {xs ys k1 k2 : Nat → Int} {x : Int} : ∀ m, (∀ j, j < m → k1 j = k2 j) → nw xs ys k1 x m = nw xs ys k2 x m
 | 0, _ => rfl
 | m + 1, h => by rw [nw, nw, nS m fun j hj => h j (by omega), h m (by omega)]
theorem zA (q : Int) (xs ys : List Int) : rE q xs ys 0 [] := ⟨fun _ => 0, fun m h => absurd h (by omega), fun X => Cg.refl _ _⟩
theorem zB {q : Int} {xs ys f g f' : List Int} {n : Nat} {k : Int} (h : rE q xs ys n f) (hg : ∀ X, Cg q (pv g X) (gp (cK xs) X n)) (hk : Cg q (k * pv g (cK xs n)) (cK ys n - pv f (cK xs n)))
  (hf : ∀ X, Cg q (pv f' X) (pv f X + k * pv g X)) : rE q xs ys (n + 1) f' := by
 obtain ⟨kp, h1, h2⟩ := h
 have hc : ∀ m, m ≤ n → ∀ X, nw (cK xs) (cK ys) (fun m => if m = n then k else kp m) X m = nw (cK xs) (cK ys) kp X m := fun m hm X => nS m fun j hj => if_neg (by omega)
 refine ⟨fun m => if m = n then k else kp m, fun m hm => ?_, fun X => ?_⟩
 ·
  rw [hc m (by omega)]
  by_cases e : m = n
  ·
   subst e
   dsimp only
   rw [if_pos rfl]
   exact ((Cg.refl q k).mul (hg _).symm).trans (hk.trans ((Cg.refl _ _).sub (h2 _)))
  · dsimp only; rw [if_neg e]; exact h1 m (by omega)
 ·
  rw [nw, hc n (Nat.le_refl _), if_pos rfl]
  exact (hf X).trans ((h2 X).add ((Cg.refl q k).mul (hg X)))
theorem Gz {xs : Nat → Int} {i : Nat} : ∀ m, i < m → gp xs (xs i) m = 0
 | 0, h => absurd h (by omega)
 | m + 1, h => by
  rw [gp]
  by_cases e : i = m
  · subst e; rw [Int.sub_self, Int.mul_zero]
  · rw [Gz m (by omega), Int.zero_mul]
theorem BM {q : Int} {xs ys kp : Nat → Int} {n : Nat} (h : ∀ m, m < n → Cg q (kp m * gp xs (xs m) m) (ys m - nw xs ys kp (xs m) m)) {i : Nat} : ∀ m, i < m → m ≤ n → Cg q (nw xs ys kp (xs i) m) (ys i)
 | 0, h1, _ => absurd h1 (by omega)
 | m + 1, h1, h2 => by
  rw [nw]
  by_cases e : i = m
  ·
   subst e
   exact ((Cg.refl _ _).add (h i (by omega))).trans (Cg.of_eq (by omega))
  ·
   rw [Gz m (by omega), Int.mul_zero, Int.add_zero]
   exact BM h m (by omega) (by omega)
theorem yo {q : Int} {xs ys f : List Int} {n : Nat} (h : rE q xs ys n f) {i : Nat} (hi : i < n) : Cg q (pv f (cK xs i)) (cK ys i) := by
 obtain ⟨kp, h1, h2⟩ := h
 exact (h2 _).trans (BM h1 n hi (Nat.le_refl _))
noncomputable def smT (q t : Int) (xs ys : List Int) : Nat → Int
 | 0 => 0
 | m + 1 => (smT q t xs ys m + xH q xs t m * ys.getD m 0 % q) % q
theorem u_ {q : Int} (hq : 2 ≤ q) (t : Int) (xs ys : List Int) : ∀ k, 0 ≤ smT q t xs ys k ∧ smT q t xs ys k < q
 | 0 => ⟨by rw [smT]; omega, by rw [smT]; omega⟩
 | k + 1 => ⟨Int.emod_nonneg _ (by omega), Int.emod_lt_of_pos _ (by omega)⟩
theorem AU (q t : Int) (xs ys : List Int) : ∀ m, Cg q (smT q t xs ys m) (sm (fun k => xH q xs t k * cK ys k) m)
 | 0 => Cg.refl _ _
 | m + 1 => (Cg.mod _ _).trans ((AU q t xs ys m).add (Cg.mod _ _))
theorem Cb {q a b c : Int} (h1 : Cg q (a * c) 1) (h2 : Cg q (b * c) 1) : Cg q a b := by
 have q1 : Cg q (a * (b * c)) (a * 1) := (Cg.refl _ _).mul h2
 have q2 : Cg q ((a * c) * b) (1 * b) := h1.mul (Cg.refl _ _)
 rw [Int.mul_one] at q1; rw [Int.one_mul] at q2
 exact q1.symm.trans ((Cg.of_eq (by grind)).trans q2)
theorem ko {q : Int} {xs ys f : List Int} {n : Nat} (hq : 2 ≤ q) (hn : xs.length = n) (h : rE q xs ys n f) (hu : ∀ i j, i < n → j < n → i ≠ j → Un q (cK xs i - cK xs j)) (t : Int) : pv f t % q = smT q t xs ys n := by
 obtain ⟨kp, h1, h2⟩ := h
 have hun : ∀ m k, m ≤ n → k < m → Un q (tp (cK xs) k (cK xs k) m) := fun m k hm hk => Az m fun j hj hjk => hu k j (by omega) (by omega) (Ne.symm hjk)
 have hcg : Cg q (pv f t) (smT q t xs ys n) := by
  have hl := iB (u := fun m k => fP (tp (cK xs) k (cK xs k) m) q) h1 (fun m k hm hk => kH hq (hun m k hm hk)) n (Nat.le_refl _) t
  refine (h2 t).trans (hl.trans ((AQ n fun k hk => ?_).trans (AU q t xs ys n).symm))
  have e1 : Cg q (xH q xs t k) (tp (cK xs) k t n * fP (lK q xs k (cK xs k) n) q) := by
   rw [xH, hn]
   exact (Cg.mod _ _).trans ((nE q xs k t n).mul (Cg.refl _ _))
  have u1 : Cg q (fP (lK q xs k (cK xs k) n) q * lK q xs k (cK xs k) n) 1 := kH hq ((hun n k (Nat.le_refl _) hk).cg (nE q xs k _ n).symm)
  have u2 : Cg q (fP (lK q xs k (cK xs k) n) q) (fP (tp (cK xs) k (cK xs k) n) q) :=
   Cb (((Cg.refl _ _).mul (nE q xs k (cK xs k) n).symm).trans u1) (kH hq (hun n k (Nat.le_refl _) hk))
  exact (Cg.of_eq (by grind)).trans (((Cg.refl q (cK ys k)).mul ((Cg.refl _ _).mul u2.symm)).trans (((Cg.refl q (cK ys k)).mul e1.symm).trans (Cg.of_eq (by grind))))
 have hb := u_ hq t xs ys n
 rw [hcg.eq, Int.emod_eq_of_lt hb.1 hb.2]
structure Pl (q : Int) (m : Nat) (f : List Int) : Prop where
 sc : f.all (bf q) = true
 len : f.length ≤ m
 trim : f.length = 0 ∨ f.getD (f.length - 1) 0 ≠ 0
theorem Pl.nil (q : Int) (m : Nat) : Pl q m [] := ⟨rfl, Nat.zero_le _, .inl rfl⟩
theorem yM {q : Int} {f : List Int} {n : Nat} {v : Int} (h : f.all (bf q) = true) (hv : bf q v = true) : (f.set n v).all (bf q) = true := by
 rw [List.all_eq_true] at h ⊢
 intro x hx
 rcases List.mem_or_eq_of_mem_set hx with h1 | rfl
 · exact h _ h1
 · exact hv
theorem jZ {q x : Int} (h : 1 ≤ q) : bf q (x % q) = true := by
 have h1 : 0 ≤ x % q := Int.emod_nonneg _ (by omega)
 have h2 : x % q < q := Int.emod_lt_of_pos _ (by omega)
 simp [bf]; omega
theorem BA {q X c v : Int} {f : List Int} {n : Nat} (hn : n < f.length) (hv : (f.getD n 0 + c) % q = v) : Cg q (pv (f.set n v) X) (pv f X + c * X ^ n) := by
 rw [Bz X f n v hn]
 have h1 : Cg q v (f.getD n 0 + c) := (Cg.of_eq hv.symm).trans (Cg.mod _ _)
 exact ((Cg.refl q (pv f X)).add (((h1.sub (Cg.refl q (f.getD n 0))).mul (Cg.refl q (X ^ n))))).trans (Cg.of_eq (by rw [show f.getD n 0 + c - f.getD n 0 = c by omega]))
theorem zW {q : Int} (h : 1 ≤ q) (n : Nat) : (List.replicate n (0 : Int)).all (bf q) = true := by
 rw [List.all_eq_true]
 intro x hx
 rw [(List.mem_replicate.1 hx).2]
 simp [bf]; omega
end Go.Proofs.YticegghameafgaaGreatDoor
namespace Go.Proofs.YticegghameafgaaGreatDoor
open Go Go.RowKit jq
def yD (q x : Int) (zs : List Int) : Nat → Int
 | 0 => 0
 | k + 1 => (yD q x zs k * x % q + zs.getD (zs.length - 1 - k) 0) % q
theorem oq {q : Int} (hq : 1 ≤ q) (x : Int) (zs : List Int) : ∀ k, 0 ≤ yD q x zs k ∧ yD q x zs k < q
 | 0 => ⟨Int.le_refl _, by rw [yD]; omega⟩
 | k + 1 => ⟨Int.emod_nonneg _ (by omega), Int.emod_lt_of_pos _ (by omega)⟩
abbrev Jv (q : Int) := { v : Nat × Int // 0 ≤ v.2 ∧ v.2 < q }
def GD (q x : Int) (l : List (Jv q)) : Int := l.foldl (fun y c => (y * x % q + c.1.2) % q) 0
theorem ou (q x : Int) (l : List (Jv q)) (c : Jv q) : GD q x (l ++ [c]) = (GD q x l * x % q + c.1.2) % q := by simp [GD]
theorem wF {q : Int} (hq : 1 ≤ q) (x : Int) (l : List (Jv q)) : 0 ≤ GD q x l ∧ GD q x l < q := by
 rcases List.eq_nil_or_concat l with rfl | ⟨l', c, rfl⟩
 · exact ⟨Int.le_refl _, by show (0 : Int) < q; omega⟩
 ·
  rw [List.concat_eq_append, ou]
  exact ⟨Int.emod_nonneg _ (by omega), Int.emod_lt_of_pos _ (by omega)⟩
theorem yE {q : Int} (x : Int) (zs : List Int) (f : Nat → Jv q) (hf : ∀ j, (f j).1.2 = zs.getD j 0) (n : Nat) (hn : zs.length = n) : ∀ k, GD q x (Dh f n k) = yD q x zs k
 | 0 => rfl
 | k + 1 => by rw [oI, ou, yE x zs f hf n hn k, yD, hf, hn]
attribute [local go_sem] Oper.semAt_some
theorem lQ (q : Int) (A : Option Addr) (zs : List Int) (n c : Nat) (x : Int) (h1 : 1 ≤ q) (h2 : q < 2305843009213693952) (hs : Hid (zs.all (bf q) = true)) (hn : Hid (zs.length = n)) (hbig : n ≤ 1000000) (hx0 : 0 ≤ x) (hx1 : x < q) (w : World) (hS : Hid (Sl w A zs)) :
  Calls Tryz.prog 45 #[.int .i64 q, .slice A n c, .int .i64 x] w (Rt w (.int .i64 (yD q x zs n))) := by
 refine (callsIn_wide (n := 9)).1 ?_
 refine callsIn_of_wp_marks Tryz.func45 rfl trivial ?_ rfl
 simp only [Tryz.ntmps45, List.size_toArray, List.length_cons, List.length_nil, Nat.reduceAdd, Nat.reduceSub, Array.replicate_succ, Array.replicate_zero, List.push_toArray, List.append_toArray, List.nil_append, List.cons_append]
 gi_wp2_with (refine ⟨trivial, ?_⟩; gi_at_call 72; refine (I9 8 _ _ _ _).mono ?_; rintro e w' ⟨rfl, rfl⟩)
 obtain ⟨w1, HW, bB, kC⟩ := RQ (.cells #[.int .i64 q] 3) OB (.cells #[.int .i64 x] 3) OB (.cells #[.int .i64 0] 3) OB (.cells #[.slice A n c] 30) Tm w
 have hsz : w1.heap.size = w.heap.size + 4 := by rw [← HW.out]; simp
 have hyb : w1.heap[w.heap.size + 2]? = some (.cells #[.int .i64 0] 3) := by
  rw [← HW.out, Below.heap_alloc _ _ _ (by simp), show w.heap.size + 2 = ((w.alloc (.cells #[.int .i64 q] 3)).alloc (.cells #[.int .i64 x] 3)).heap.size by simp]
  exact heap_alloc_new _ _
 obtain ⟨c0, c1, c2, c3⟩ := kC.out _ (iH w1)
 have f2 : w1.frozen? ⟨w.heap.size + 2, 0, none⟩ = false := bn hyb 0
 have hsc : ∀ j, 0 ≤ zs.getD j 0 ∧ zs.getD j 0 < q := fun j => by
  by_cases hj : j < zs.length
  ·
   have h9 := (List.all_eq_true.1 hs.out) (zs.getD j 0) (by rw [List.getD_eq_getElem?_getD, List.getElem?_eq_getElem hj]; exact List.getElem_mem _)
   simpa [bf] using h9
  ·
   rw [List.getD_eq_getElem?_getD, List.getElem?_eq_none (by omega)]
   exact ⟨Int.le_refl _, by show (0 : Int) < q; omega⟩
 obtain ⟨f, Qb⟩ : ∃ f : Nat → Jv q, ∀ j, (f j).1 = (j, zs.getD j 0) := ⟨fun j => ⟨(j, zs.getD j 0), hsc j⟩, fun _ => rfl⟩
 simp only [show w.heap.size + 1 + 1 = w.heap.size + 2 from rfl, show w.heap.size + 2 + 1 = w.heap.size + 3 from rfl]
 rw [HW.out]
 have hQn : ¬ (q = 0) := by omega
 have JH : ((q : Int) == 0) = false := by simp; omega
 refine wpIn_rangeFunc_ownG rfl (show 1 ≤ 9 by decide) (gf := 93) (lb := #[.pointer (some ⟨w.heap.size + 3, 0, none⟩)]) rfl trivial (enters_of Tryz.func93 (by kernel_rfl) rfl)
  (zU f (fun v : Jv q => #[Value.int .i64 (v.1.1 : Int), Value.int .i64 v.1.2]) 8 (by decide) (w.heap.size + 3) (w.heap.size + 4) (w.heap.size + 2) A n c zs hn.out (fun j _ => by rw [Qb j]) hbig w1 (by omega) (by omega) (by omega) (by omega) c3 (Ce hS.out bB.out (by omega) (by omega)))
  (fun h k => h.trans k) (fun W l o o' hl _ _ _ => Km W l o' (by omega)) (Below.refl _ _) (fun _ => rfl)
  (fun pre W => W.cell? ⟨w.heap.size + 2, 0, none⟩ = some (.int .i64 (GD q x pre)) ∧ W.frozen? ⟨w.heap.size + 2, 0, none⟩ = false ∧ W.cell? ⟨w.heap.size, 0, none⟩ = some (.int .i64 q) ∧ W.cell? ⟨w.heap.size + 1, 0, none⟩ = some (.int .i64 x) ∧ Below w.heap.size w W ∧ w.heap.size + 4 ≤ W.heap.size)
  (fun _ _ _ => False)
  (fun s W W' row hs hg hr => ⟨cell_kept hs.1 hg (fun r e => (hr r e).2), (frozen_kept hs.1 hg (fun r e => (hr r e).2)).trans hs.2.1, cell_kept hs.2.2.1 hg (fun r e => (hr r e).2), cell_kept hs.2.2.2.1 hg (fun r e => (hr r e).2), hs.2.2.2.2.1.grown hg hs.2.2.2.2.1.size (fun k e => by have := (hr k e).1; omega), Nat.le_trans hs.2.2.2.2.2 hg.size⟩)
  (fun _ _ _ _ _ hs _ _ => hs)
  ⟨c2, f2, c0, c1, bB.out, by omega⟩
  (fun v => { tmps := #[.int .i64 q, .slice A n c, .int .i64 x, .pointer (some ⟨w.heap.size, 0, none⟩), undef, .pointer (some ⟨w.heap.size + 1, 0, none⟩), .int .i64 0, .pointer (some ⟨w.heap.size + 2, 0, none⟩), undef, .int .i64 v.1.2, .slice A n c, .func (.func 93) #[] #[.pointer (some ⟨w.heap.size + 3, 0, none⟩)], .int .i64 (v.1.1 : Int), .int .i64 v.1.2, undef, undef, undef, undef, undef, undef, undef, undef, undef], defers := [] }) ?assign ?body ?done ?stop
 case assign =>
  intro l x W K hK
  gi_wp2
  exact hK
 case body =>
  rintro l pre ⟨⟨ix, v⟩, v0, v1⟩ W ⟨hy, hf, hq, hx, hB, U5⟩ _
  dsimp only at v0 v1 ⊢
  obtain ⟨Y, hY⟩ : ∃ Y, GD q x pre = Y := ⟨_, rfl⟩
  obtain ⟨Y0, Y1⟩ := wF h1 x pre
  rw [hY] at hy Y0 Y1
  obtain ⟨M, hM⟩ : ∃ M, Y * x % q = M := ⟨_, rfl⟩
  have M0 : 0 ≤ M := by rw [← hM]; exact Int.emod_nonneg _ (by omega)
  have M1 : M < q := by rw [← hM]; exact Int.emod_lt_of_pos _ (by omega)
  obtain ⟨R, hR⟩ : ∃ R, (M + v) % q = R := ⟨_, rfl⟩
  have R0 : 0 ≤ R := by rw [← hR]; exact Int.emod_nonneg _ (by omega)
  have R1 : R < q := by rw [← hR]; exact Int.emod_lt_of_pos _ (by omega)
  have HR := aa hR
  have HM := aa hM
  have HY := aa hY
  have d1 : IntKind.i64.wrap (M + v) = M + v := IntWalk.i64_in _ (by omega)
  have e1 : wrap64 (M + v) = M + v := IntWalk.wrap64_in _ (by omega)
  have Ku : (M + v).tmod q = R := iZ (by omega) hR
  have hwt : IntKind.i64.wrap R = R := IntWalk.i64_in _ (by omega)
  have Iq : wrap64 R = R := IntWalk.wrap64_in _ (by omega)
  clear hR hM hY
  have hO : Hid (∀ u, Hid (Below W.heap.size W u) → u.cell? ⟨w.heap.size, 0, none⟩ = some (.int .i64 q) ∧ u.cell? ⟨w.heap.size + 2, 0, none⟩ = some (.int .i64 Y) ∧ u.cell? ⟨w.heap.size + 1, 0, none⟩ = some (.int .i64 x)) :=
   aa (fun u h => ⟨(h.out.cell (World.block_lt_of_cell? _ _ hq)).trans hq, (h.out.cell (World.block_lt_of_cell? _ _ hy)).trans hy, (h.out.cell (World.block_lt_of_cell? _ _ hx)).trans hx⟩)
  refine wpIn_block ?_
  refine NF l _ (fun u => Below W.heap.size W u) [8] (fun ⟨_, _, h⟩ => h) (aa (Below.refl _ _).drew) (fun hHeld => ?_)
  refine jT 0 1 2 4 ?_
  refine sD 6 ?_
  have FB := hHeld
  refine mP 3 fun K hK => ?_
  go_simp
  refine (fD q Y x M HM h2 Y0 Y1 hx0 hx1 _).mono ?_
  rintro e u1 ⟨rfl, hq1⟩
  have rP := aa (ag FB.out hq1)
  refine hK.out _ _ rP (fun hHeld => ?_)
  clear hK K
  try simp only [qq]
  refine sD 5 ?_
  refine sD 7 ?_
  refine JA 8 fun K hK => ?_
  have NB := (rP.out.cell (World.block_lt_of_cell? _ _ hy)).trans hy
  have Oy := (rP.out.frozen (World.block_lt_of_cell? _ _ hy)).trans hf
  go_simp
  refine hK.out _ _ ?_
  clear hK K
  try simp only [qq]
  refine AA ?_
  have hyl := World.block_lt_of_cell? _ _ hy
  dsimp only at hyl
  have hz := rP.out.size
  have q7 := (rP.out.cell (World.block_lt_of_cell? _ _ hq)).trans hq
  have x7 := (rP.out.cell (World.block_lt_of_cell? _ _ hx)).trans hx
  show KeepsFrom _ _ _ ∧ yP _ _ _ _ ∧ _
  refine ⟨⟨by simpa using hz, fun k o hk hko _ => (Go.Deep.blk_setCell_other _ _ _ _ (show k ≠ w.heap.size + 2 by omega)).trans ((rP.out.block k (Array.getElem?_eq_some_iff.1 hko).1).trans hko)⟩,
   ⟨by simpa using hz, fun b b1 b2 => (Go.Deep.blk_setCell_other _ _ _ _ b2).trans (rP.out.block b (by have := hB.size; omega))⟩, ?_⟩
  refine ⟨?_, ?_, ?_, ?_, ?_, by simp; omega⟩
  ·
   rw [ou, HY.out]
   show _ = some (Value.int .i64 ((Y * x % q + v) % q))
   rw [HM.out, HR.out]
   exact World.cell?_setCell_same _ _ _ NB
  · rw [World.frozen?_setCell]; exact Oy
  · rw [World.cell?_setCell_other _ _ _ _ (by simp)]; exact q7
  · rw [World.cell?_setCell_other _ _ _ _ (by simp)]; exact x7
  · exact (hB.trans (rP.out.mono hB.size)).setCell (by show w.heap.size ≤ w.heap.size + 2; omega) _
 case done =>
  rintro D ys W hD rfl ⟨hy, _, _, _, hB, _⟩ hK
  rw [yE x zs f (fun j => by rw [Qb j]) n hn.out n] at hy
  obtain ⟨V, hV⟩ : ∃ V, yD q x zs n = V := ⟨_, rfl⟩
  rw [hV] at hy ⊢
  gi_wp2
  refine ⟨by simp, .inl ⟨_, _, rfl, run_takeDeferred hK, ?_⟩⟩
  exact ⟨_, results_tmp rfl _ _ _, by rw [hV]; rfl, hB.trans (belowK_b (w := w) (Nat.le_refl _) W D _ _ (by omega) hK rfl rfl)⟩
 case stop =>
  rintro D c pre W _ _ h _
  exact h.elim
end Go.Proofs.YticegghameafgaaGreatDoor
namespace Go.Proofs.YticegghameafgaaGreatDoor
open Go.RowKit jq
theorem CS (q x : Int) (zs : List Int) : ∀ k, k ≤ zs.length → yD q x zs k = hv q (zs.drop (zs.length - k)) x
 | 0, _ => by rw [Nat.sub_zero, List.drop_length]; rfl
 | k + 1, h => by
  have e : zs.length - (k + 1) + 1 = zs.length - k := by omega
  rw [yD, CS q x zs k (by omega), show zs.length - 1 - k = zs.length - (k + 1) by omega, Fg (k := zs.length - (k + 1)) (by omega), e]
theorem wE {q : Int} (hq : 1 ≤ q) (x : Int) (zs : List Int) (n : Nat) (hn : zs.length = n) : yD q x zs n = pv zs x % q := by
 rw [CS q x zs n (by omega), hn, Nat.sub_self, List.drop_zero, Kt (by omega)]
def dP (xs : List Int) : Nat → Nat
 | 0 => 0
 | k + 1 => if xs.getD k 0 = 0 then dP xs k else k + 1
theorem sw (xs : List Int) : ∀ k, dP xs k ≤ k
 | 0 => Nat.le_refl _
 | k + 1 => by rw [dP]; split; exact Nat.le_succ_of_le (sw xs k); exact Nat.le_refl _
theorem sj (xs : List Int) (X : Int) : ∀ k, k ≤ xs.length → pv (xs.take (dP xs k)) X = pv (xs.take k) X
 | 0, _ => rfl
 | k + 1, h => by
  rw [dP]
  split
  · rename_i h0; rw [sj xs X k (by omega), EN h h0]
  · rfl
theorem nD (xs : List Int) : ∀ k, dP xs k = 0 ∨ xs.getD (dP xs k - 1) 0 ≠ 0
 | 0 => .inl rfl
 | k + 1 => by
  rw [dP]
  split
  · exact nD xs k
  · rename_i h0; exact .inr (by rw [Nat.add_sub_cancel]; exact h0)
def mF (q : Int) (m : Nat) (v : Int → Int) (w : World) (e : Ending) (w' : World) : Prop := ∃ A c L, e = .returned (.slice A L.length c) ∧ Sl w' A L ∧ Pl q m L ∧ (∀ X, Cg q (pv L X) (v X)) ∧ Below w.heap.size w w'
theorem AB {q : Int} {xs : List Int} (h : xs.all (bf q) = true) (k : Nat) : (xs.take k).all (bf q) = true := by
 rw [List.all_eq_true] at h ⊢
 exact fun x hx => h x (List.mem_of_mem_take hx)
theorem x9 {q : Int} {xs : List Int} {n m : Nat} (hn : xs.length = n) (hm : n ≤ m) (h : xs.all (bf q) = true) : Pl q m (xs.take (dP xs n)) ∧ ∀ X, Cg q (pv (xs.take (dP xs n)) X) (pv xs X) := by
 have h1 := sw xs n
 have hl : (xs.take (dP xs n)).length = dP xs n := by rw [List.length_take]; omega
 refine ⟨⟨AB h _, by omega, ?_⟩, fun X => Cg.of_eq ?_⟩
 ·
  rw [hl]
  rcases nD xs n with e | e
  · exact .inl e
  ·
   by_cases e0 : dP xs n = 0
   · exact .inl e0
   ·
    refine .inr ?_
    rw [List.getD_eq_getElem?_getD, List.getElem?_take_of_lt (by omega), ← List.getD_eq_getElem?_getD]; exact e
 · rw [sj xs X n (by omega), List.take_of_length_le (by omega)]
theorem gF (q : Int) (A : Option Addr) (xs : List Int) (n c m : Nat) (hn : Hid (xs.length = n)) (hnc : n ≤ c) (hm : n ≤ m) (hbig : n < 1000000) (hs : Hid (xs.all (bf q) = true)) (w : World) (hS : Hid (Sl w A xs)) :
  Calls Tryz.prog 64 #[.slice A n c] w (mF q m (pv xs) w) := by
 go_in
 go_wp2
 go_loopw [3] (fun i wr => ∃ k : Nat, k ≤ n ∧ i = .int .i64 k ∧ dP xs n = dP xs k ∧ Hid (Below w.heap.size w wr)) (fun i _ => (intOf i).toNat)
 case atStart => exact ⟨n, by omega, rfl, rfl, aa (Below.refl _ _)⟩
 case round =>
  obtain ⟨k, hk, rfl, htr, aB⟩ := hrel
  have mH := aa (hS.out.below aB.out)
  by_cases h0 : k = 0
  ·
   subst h0
   have HM := aa (x9 hn.out hm hs.out)
   rw [htr] at HM
   clear htr
   have HST : Hid (Sl wr A (xs.take 0)) := aa (ja mH.out 0)
   have hd : decide ((0 : Int) < ((0 : Nat) : Int)) = false := by simp
   go_wp2_with fail
   refine (jM A (xs.take 0) 0 c (aa rfl) (by omega) _ HST).mono ?_
   rintro e w2 ⟨A2, c2, rfl, hs2, _, hb2⟩
   have HQ := aa (ag aB.out hb2)
   have Lf := aa hs2
   clear hs2 hb2
   go_wp2
   go_ret
   exact ⟨A2, c2, _, rfl, Lf.out, HM.out.1, HM.out.2, HQ.out⟩
  ·
   obtain ⟨j, rfl⟩ : ∃ j, k = j + 1 := ⟨k - 1, by omega⟩
   have hjn : j < n := by omega
   have e1 : ((j + 1 : Nat) : Int) - 1 = (j : Int) := by omega
   have e2 : (j : Int) + 1 - 1 = (j : Int) := by omega
   have d1 : decide ((0 : Int) < ((j + 1 : Nat) : Int)) = true := by simp <;> omega
   obtain ⟨b, o, hA, hi0⟩ := mH.out j (by rw [hn.out]; omega)
   subst hA
   obtain ⟨v, hv⟩ : ∃ v, xs.getD j 0 = v := ⟨_, rfl⟩
   rw [hv] at hi0
   by_cases hv0 : v = 0
   ·
    have dz : ((v : Int) == 0) = true := by simpa using hv0
    have Fh : dP xs n = dP xs j := by rw [htr, dP, if_pos (by rw [hv]; exact hv0)]
    clear htr hv
    go_wp2
    go_roundw
    case rel => exact ⟨j, by omega, rfl, Fh, aB⟩
    case measure => simp [intOf] <;> omega
   ·
    have dz : ((v : Int) == 0) = false := by simpa using hv0
    have Fh : dP xs n = j + 1 := by rw [htr, dP, if_neg (by rw [hv]; exact hv0)]
    have HM := aa (x9 hn.out hm hs.out)
    rw [Fh] at HM
    have HL : Hid ((xs.take (j + 1)).length = j + 1) := aa (by rw [List.length_take, hn.out]; omega)
    have HST : Hid (Sl wr (some ⟨b, o, none⟩) (xs.take (j + 1))) := aa (ja mH.out (j + 1))
    have hjc : j + 1 ≤ c := by omega
    clear htr Fh hv
    go_wp2_with fail
    refine (jM (some ⟨b, o, none⟩) (xs.take (j + 1)) (j + 1) c HL (by omega) _ HST).mono ?_
    rintro e w2 ⟨A2, c2, rfl, hs2, _, hb2⟩
    have HQ := aa (ag aB.out hb2)
    have Lf := aa hs2
    clear hs2 hb2
    go_wp2
    go_ret
    exact ⟨A2, c2, _, by rw [HL.out]; rfl, Lf.out, HM.out.1, HM.out.2, HQ.out⟩
def Rl (w : World) (g : Nat) (xs : List Int) : Prop := (∀ j, j < xs.length → w.cell? ⟨g, j, none⟩ = some (.int .i64 (xs.getD j 0))) ∧ ∀ j, w.frozen? ⟨g, j, none⟩ = false
theorem Rl.set {w : World} {g k : Nat} {xs : List Int} (h : Rl w g xs) (hk : k < xs.length) (v : Int) : Rl (w.setCell ⟨g, k, none⟩ (.int .i64 v)) g (xs.set k v) := by
 refine ⟨fun j hj => ?_, fun j => by rw [World.frozen?_setCell]; exact h.2 j⟩
 rw [List.length_set] at hj
 by_cases e : j = k
 ·
  subst e
  rw [World.cell?_setCell_same _ _ _ (h.1 j hj), List.getD_eq_getElem?_getD, List.getElem?_set_self hk]; rfl
 · rw [World.cell?_setCell_other _ _ _ _ (by intro e2; injection e2 with _ e3; omega), h.1 j hj, List.getD_eq_getElem?_getD, List.getD_eq_getElem?_getD, List.getElem?_set_ne (by omega)]
theorem Rl.below {w w' : World} {g : Nat} {xs : List Int} (h : Rl w g xs) (hb : Below w.heap.size w w') (hg : g < w.heap.size) : Rl w' g xs :=
 ⟨fun j hj => (hb.cell (p := ⟨g, j, none⟩) hg).trans (h.1 j hj), fun j => (hb.frozen (p := ⟨g, j, none⟩) hg).trans (h.2 j)⟩
theorem Rl.sl {w : World} {g : Nat} {xs : List Int} (h : Rl w g xs) : Sl w (some ⟨g, 0, none⟩) xs := fun k hk => ⟨g, 0, rfl, by rw [Nat.zero_add]; exact h.1 k hk⟩
theorem bq.rl {w : World} {B : Nat} {v : Value} {xs : List Int} (h : bq w B v xs) (hne : 0 < xs.length) : ∃ g cap, v = .slice (some ⟨g, 0, none⟩) xs.length cap ∧ B ≤ g ∧ xs.length ≤ cap ∧ Rl w g xs ∧ g < w.heap.size := by
 obtain ⟨h1, h2⟩ := h
 rcases h2 with ⟨_, h0⟩ | ⟨g, cap, cur, rfl, hg, hh, hn, hc, hs, ht⟩
 · omega
 ·
  refine ⟨g, cap, rfl, hg, by omega, ⟨fun j hj => ?_, fun j => bn hh j⟩, (Array.getElem?_eq_some_iff.1 hh).1⟩
  rw [ax hh]
  have e : cur.toList[j]? = (xs.map (Value.int .i64))[j]? := by
   rw [← ht, List.getElem?_take_of_lt (by omega)]
  rw [← Array.getElem?_toList, e, List.getElem?_map, List.getElem?_eq_getElem hj, List.getD_eq_getElem?_getD, List.getElem?_eq_getElem hj]
  rfl
theorem yH (A : Option Addr) (xs : List Int) (n c : Nat) (hn : Hid (xs.length = n)) (h0 : 0 < n) (hbig : n < 1000000) (w : World) (hA : Hid (Sl w A xs)) :
  Calls Tryz.prog 74 #[.slice A n c] w fun e w' => ∃ g cap, e = .returned (.slice (some ⟨g, 0, none⟩) n cap) ∧ w.heap.size ≤ g ∧ n ≤ cap ∧ Rl w' g xs ∧ g < w'.heap.size ∧ Below w.heap.size w w' := by
 have hn' := hn.out
 obtain ⟨b1, o1, rfl, hc1⟩ := hA.out.at0 (by omega)
 refine (Tryz.slices_Clone_int b1 o1 n c xs w (by omega) (by omega) hc1).mono ?_
 rintro e w' ⟨v', rfl, ho, _, hb⟩
 rw [List.take_of_length_le (by omega), ← hn'] at ho
 obtain ⟨g, cc, hv, hg, hcc, hr, hl⟩ := bq.rl (xs := xs) ho (by omega)
 exact ⟨g, cc, by rw [hv, hn'], hg, by omega, hr, hl, hb⟩
def dX (q : Int) (a b : List Int) : Nat → List Int
 | 0 => a
 | k + 1 => (dX q a b k).set k ((a.getD k 0 + b.getD k 0) % q)
theorem fo (q : Int) (a b : List Int) : ∀ k, (dX q a b k).length = a.length
 | 0 => rfl
 | k + 1 => by rw [dX, List.length_set, fo q a b k]
theorem lC (q : Int) (a b : List Int) : ∀ k j, k ≤ j → (dX q a b k).getD j 0 = a.getD j 0
 | 0, _, _ => rfl
 | k + 1, j, h => by
  rw [dX, List.getD_eq_getElem?_getD, List.getElem?_set_ne (by omega), ← List.getD_eq_getElem?_getD]
  exact lC q a b k j (by omega)
theorem oL {q : Int} (hq : 1 ≤ q) (a b : List Int) (h : a.all (bf q) = true) : ∀ k, (dX q a b k).all (bf q) = true
 | 0 => h
 | k + 1 => by rw [dX]; exact yM (oL hq a b h k) (jZ hq)
theorem rD {q : Int} (a b : List Int) (X : Int) : ∀ k, k ≤ a.length → k ≤ b.length → Cg q (pv (dX q a b k) X) (pv a X + pv (b.take k) X)
 | 0, _, _ => Cg.of_eq (by rw [dX, List.take_zero, pv]; omega)
 | k + 1, h1, h2 => by
  rw [dX, jd X b k (by omega)]
  refine (BA (by rw [fo]; omega) (by rw [lC q a b k k (Nat.le_refl _)])).trans ?_
  exact ((rD a b X k (by omega) (by omega)).add (Cg.refl _ _)).trans (Cg.of_eq (by omega))
theorem mF.to {q : Int} {m : Nat} {v v' : Int → Int} {w0 w w' : World} {e : Ending} (h : mF q m v w e w') (hv : ∀ X, Cg q (v X) (v' X)) (hb : Below w0.heap.size w0 w) : mF q m v' w0 e w' := by
 obtain ⟨A, c, L, h1, h2, h3, h4, h5⟩ := h
 exact ⟨A, c, L, h1, h2, h3, fun X => (h4 X).trans (hv X), hb.trans (h5.mono hb.size)⟩
theorem bV {q : Int} {xs : List Int} (h : xs.all (bf q) = true) {k : Nat} (hk : k < xs.length) : 0 ≤ xs.getD k 0 ∧ xs.getD k 0 < q := by
 have h9 := (List.all_eq_true.1 h) (xs.getD k 0) (by rw [List.getD_eq_getElem?_getD, List.getElem?_eq_getElem hk]; exact List.getElem_mem _)
 simpa [bf] using h9
theorem H8 (q : Int) (A : Option Addr) (xs : List Int) (n c : Nat) (B : Option Addr) (ys : List Int) (m d M : Nat) (h1 : 1 ≤ q) (h2 : q < 2305843009213693952) (hn : Hid (xs.length = n)) (hm : Hid (ys.length = m)) (hM : n ≤ M) (hnm : m ≤ n) (hbig : n < 1000000) (hx : Hid (xs.all (bf q) = true)) (hy : Hid (ys.all (bf q) = true)) (w : World) (hS : Hid (Sl w A xs)) (hT : Hid (Sl w B ys)) :
  Calls Tryz.prog 47 #[.int .i64 q, .slice A n c, .slice B m d] w (mF q M (fun X => pv xs X + pv ys X) w) := by
 have d0 : decide ((n : Int) < (m : Int)) = false := by simp; omega
 have hQn : ¬ (q = 0) := by omega
 have JH : ((q : Int) == 0) = false := by simp; omega
 have Aa : Hid (∀ X, Cg q (pv (dX q xs ys m) X) (pv xs X + pv ys X)) := aa (fun X => by
  have h9 := rD (q := q) xs ys X m (by rw [hn.out]; omega) (by rw [hm.out]; exact Nat.le_refl _)
  rwa [List.take_of_length_le (by rw [hm.out]; exact Nat.le_refl _)] at h9)
 have J3 : Hid ((dX q xs ys m).all (bf q) = true) := aa (oL h1 xs ys hx.out m)
 have ng : Hid ((dX q xs ys m).length = n) := aa (by rw [fo]; exact hn.out)
 by_cases h0 : n = 0
 ·
  subst h0
  obtain rfl : m = 0 := by omega
  go_in
  go_wp2_with fail
  refine (jM A xs 0 c hn (by omega) _ hS).mono ?_
  rintro e w2 ⟨A2, c2, rfl, hs2, _, hb2⟩
  have HQ := aa hb2
  have Lf : Hid (Sl w2 A2 (dX q xs ys 0)) := aa hs2
  clear hs2 hb2
  go_wp2
  go_loopw [21] (fun i wr => i = .int .i64 0 ∧ wr = w2) (fun _ _ => 0)
  case atStart => exact ⟨rfl, rfl⟩
  case round =>
   obtain ⟨rfl, rfl⟩ := hrel
   go_wp2_with fail
   refine (gF q A2 (dX q xs ys 0) 0 c2 M ng (by omega) (by omega) (by omega) J3 _ Lf).mono ?_
   rintro e w3 ⟨A3, c3, L3, rfl, hs3, hp3, hv3, hb3⟩
   have HR := aa hs3
   have HP := aa hp3
   have HV := aa hv3
   have HB3 := aa (ag HQ.out hb3)
   clear hs3 hp3 hv3 hb3
   go_wp2
   go_ret
   exact ⟨A3, c3, L3, rfl, HR.out, HP.out, fun X => (HV.out X).trans (Aa.out X), HB3.out⟩
 ·
  go_in
  go_wp2_with fail
  refine (yH A xs n c hn (by omega) hbig _ hS).mono ?_
  rintro e w2 ⟨g, cap, rfl, hg, hcap, hr2, hgl, hb2⟩
  have HQ := aa hb2
  have O3 := aa hr2
  have hgw : w.heap.size ≤ g := hg
  clear hr2 hb2 hg
  go_wp2
  go_loopw [21] (fun i wr => ∃ k : Nat, k ≤ m ∧ i = .int .i64 k ∧ Hid (Rl wr g (dX q xs ys k)) ∧ Hid (Below w.heap.size w wr)) (fun i _ => m - (intOf i).toNat)
  case atStart => exact ⟨0, by omega, rfl, O3, HQ⟩
  case round =>
   obtain ⟨k, hk, rfl, F6, aB⟩ := hrel
   by_cases hlt : k < m
   ·
    have La := aa (hT.out.below aB.out)
    obtain ⟨b, o, hB, hi0⟩ := La.out k (by rw [hm.out]; exact hlt)
    subst hB
    have hkn : k < n := by omega
    have hi1 : wr.cell? ⟨g, k, none⟩ = some (.int .i64 (xs.getD k 0)) := by rw [← lC q xs ys k k (Nat.le_refl _)]; exact F6.out.1 k (by rw [fo, hn.out]; exact hkn)
    have fz := F6.out.2 k
    obtain ⟨x0, x1⟩ := bV hx.out (k := k) (by rw [hn.out]; exact hkn)
    obtain ⟨y0, y1⟩ := bV hy.out (k := k) (by rw [hm.out]; exact hlt)
    have HN := aa (F6.out.set (k := k) (by rw [fo, hn.out]; exact hkn) ((xs.getD k 0 + ys.getD k 0) % q))
    have KJ : (dX q xs ys k).set k ((xs.getD k 0 + ys.getD k 0) % q) = dX q xs ys (k + 1) := rfl
    rw [KJ] at HN
    clear KJ
    obtain ⟨x, hxv⟩ : ∃ x, xs.getD k 0 = x := ⟨_, rfl⟩
    obtain ⟨y, hyv⟩ : ∃ y, ys.getD k 0 = y := ⟨_, rfl⟩
    rw [hxv] at hi1 HN x0 x1
    rw [hyv] at hi0 HN y0 y1
    obtain ⟨R, hR⟩ : ∃ R, (x + y) % q = R := ⟨_, rfl⟩
    rw [hR] at HN
    have R0 : 0 ≤ R := by rw [← hR]; exact Int.emod_nonneg _ (by omega)
    have R1 : R < q := by rw [← hR]; exact Int.emod_lt_of_pos _ (by omega)
    have e1 : IntKind.i64.wrap (x + y) = x + y := IntWalk.i64_in _ (by omega)
    have e2 : wrap64 (x + y) = x + y := IntWalk.wrap64_in _ (by omega)
    have Ku : (x + y).tmod q = R := iZ (by omega) hR
    have hwt : IntKind.i64.wrap R = R := IntWalk.i64_in _ (by omega)
    have Iq : wrap64 R = R := IntWalk.wrap64_in _ (by omega)
    have HB2 : Hid (Below w.heap.size w (wr.setCell ⟨g, k, none⟩ (.int .i64 R))) := aa (aB.out.setCell hgw _)
    clear hxv hyv hR
    go_wp2
    go_roundw
    case rel => exact ⟨k + 1, by omega, by go_num, HN, HB2⟩
    case measure => simp [intOf]; omega
   ·
    obtain rfl : k = m := by omega
    have D7 : Hid (Sl wr (some ⟨g, 0, none⟩) (dX q xs ys k)) := aa F6.out.sl
    go_wp2_with fail
    refine (gF q (some ⟨g, 0, none⟩) (dX q xs ys k) n cap M ng hcap hM hbig J3 _ D7).mono ?_
    rintro e w3 ⟨A3, c3, L3, rfl, hs3, hp3, hv3, hb3⟩
    have HR := aa hs3
    have HP := aa hp3
    have HV := aa hv3
    have HB3 := aa (ag aB.out hb3)
    clear hs3 hp3 hv3 hb3
    go_wp2
    go_ret
    exact ⟨A3, c3, L3, rfl, HR.out, HP.out, fun X => (HV.out X).trans (Aa.out X), HB3.out⟩
theorem H7 (q : Int) (A : Option Addr) (xs : List Int) (n c : Nat) (B : Option Addr) (ys : List Int) (m d M : Nat) (h1 : 1 ≤ q) (h2 : q < 2305843009213693952) (hn : Hid (xs.length = n)) (hm : Hid (ys.length = m)) (hM : n ≤ M) (hnm : m < n) (hbig : n < 1000000) (hx : Hid (xs.all (bf q) = true)) (hy : Hid (ys.all (bf q) = true)) (w : World) (hS : Hid (Sl w A xs)) (hT : Hid (Sl w B ys)) :
  Calls Tryz.prog 47 #[.int .i64 q, .slice B m d, .slice A n c] w (mF q M (fun X => pv xs X + pv ys X) w) := by
 have d0 : decide ((m : Int) < (n : Int)) = true := by simp; omega
 have hQn : ¬ (q = 0) := by omega
 have JH : ((q : Int) == 0) = false := by simp; omega
 have Aa : Hid (∀ X, Cg q (pv (dX q xs ys m) X) (pv xs X + pv ys X)) := aa (fun X => by
  have h9 := rD (q := q) xs ys X m (by rw [hn.out]; omega) (by rw [hm.out]; exact Nat.le_refl _)
  rwa [List.take_of_length_le (by rw [hm.out]; exact Nat.le_refl _)] at h9)
 have J3 : Hid ((dX q xs ys m).all (bf q) = true) := aa (oL h1 xs ys hx.out m)
 have ng : Hid ((dX q xs ys m).length = n) := aa (by rw [fo]; exact hn.out)
 by_cases h0 : n = 0
 · omega
 ·
  go_in
  go_wp2_with fail
  refine (yH A xs n c hn (by omega) hbig _ hS).mono ?_
  rintro e w2 ⟨g, cap, rfl, hg, hcap, hr2, hgl, hb2⟩
  have HQ := aa hb2
  have O3 := aa hr2
  have hgw : w.heap.size ≤ g := hg
  clear hr2 hb2 hg
  go_wp2
  go_loopw [21] (fun i wr => ∃ k : Nat, k ≤ m ∧ i = .int .i64 k ∧ Hid (Rl wr g (dX q xs ys k)) ∧ Hid (Below w.heap.size w wr)) (fun i _ => m - (intOf i).toNat)
  case atStart => exact ⟨0, by omega, rfl, O3, HQ⟩
  case round =>
   obtain ⟨k, hk, rfl, F6, aB⟩ := hrel
   by_cases hlt : k < m
   ·
    have La := aa (hT.out.below aB.out)
    obtain ⟨b, o, hB, hi0⟩ := La.out k (by rw [hm.out]; exact hlt)
    subst hB
    have hkn : k < n := by omega
    have hi1 : wr.cell? ⟨g, k, none⟩ = some (.int .i64 (xs.getD k 0)) := by rw [← lC q xs ys k k (Nat.le_refl _)]; exact F6.out.1 k (by rw [fo, hn.out]; exact hkn)
    have fz := F6.out.2 k
    obtain ⟨x0, x1⟩ := bV hx.out (k := k) (by rw [hn.out]; exact hkn)
    obtain ⟨y0, y1⟩ := bV hy.out (k := k) (by rw [hm.out]; exact hlt)
    have HN := aa (F6.out.set (k := k) (by rw [fo, hn.out]; exact hkn) ((xs.getD k 0 + ys.getD k 0) % q))
    have KJ : (dX q xs ys k).set k ((xs.getD k 0 + ys.getD k 0) % q) = dX q xs ys (k + 1) := rfl
    rw [KJ] at HN
    clear KJ
    obtain ⟨x, hxv⟩ : ∃ x, xs.getD k 0 = x := ⟨_, rfl⟩
    obtain ⟨y, hyv⟩ : ∃ y, ys.getD k 0 = y := ⟨_, rfl⟩
    rw [hxv] at hi1 HN x0 x1
    rw [hyv] at hi0 HN y0 y1
    obtain ⟨R, hR⟩ : ∃ R, (x + y) % q = R := ⟨_, rfl⟩
    rw [hR] at HN
    have R0 : 0 ≤ R := by rw [← hR]; exact Int.emod_nonneg _ (by omega)
    have R1 : R < q := by rw [← hR]; exact Int.emod_lt_of_pos _ (by omega)
    have e1 : IntKind.i64.wrap (x + y) = x + y := IntWalk.i64_in _ (by omega)
    have e2 : wrap64 (x + y) = x + y := IntWalk.wrap64_in _ (by omega)
    have Ku : (x + y).tmod q = R := iZ (by omega) hR
    have hwt : IntKind.i64.wrap R = R := IntWalk.i64_in _ (by omega)
    have Iq : wrap64 R = R := IntWalk.wrap64_in _ (by omega)
    have HB2 : Hid (Below w.heap.size w (wr.setCell ⟨g, k, none⟩ (.int .i64 R))) := aa (aB.out.setCell hgw _)
    clear hxv hyv hR
    go_wp2
    go_roundw
    case rel => exact ⟨k + 1, by omega, by go_num, HN, HB2⟩
    case measure => simp [intOf]; omega
   ·
    obtain rfl : k = m := by omega
    have D7 : Hid (Sl wr (some ⟨g, 0, none⟩) (dX q xs ys k)) := aa F6.out.sl
    go_wp2_with fail
    refine (gF q (some ⟨g, 0, none⟩) (dX q xs ys k) n cap M ng hcap hM hbig J3 _ D7).mono ?_
    rintro e w3 ⟨A3, c3, L3, rfl, hs3, hp3, hv3, hb3⟩
    have HR := aa hs3
    have HP := aa hp3
    have HV := aa hv3
    have HB3 := aa (ag aB.out hb3)
    clear hs3 hp3 hv3 hb3
    go_wp2
    go_ret
    exact ⟨A3, c3, L3, rfl, HR.out, HP.out, fun X => (HV.out X).trans (Aa.out X), HB3.out⟩
theorem BC (q : Int) (A : Option Addr) (xs : List Int) (n c : Nat) (B : Option Addr) (ys : List Int) (m d M : Nat) (h1 : 1 ≤ q) (h2 : q < 2305843009213693952) (hn : Hid (xs.length = n)) (hm : Hid (ys.length = m)) (hM : n ≤ M) (hM2 : m ≤ M) (hbig : M < 1000000) (hx : Hid (xs.all (bf q) = true)) (hy : Hid (ys.all (bf q) = true)) (w : World) (hS : Hid (Sl w A xs)) (hT : Hid (Sl w B ys)) :
  Calls Tryz.prog 47 #[.int .i64 q, .slice A n c, .slice B m d] w (mF q M (fun X => pv xs X + pv ys X) w) := by
 by_cases h : m ≤ n
 · exact H8 q A xs n c B ys m d M h1 h2 hn hm hM h (by omega) hx hy w hS hT
 · exact (H7 q B ys m d A xs n c M h1 h2 hm hn hM2 (by omega) (by omega) hy hx w hT hS).mono fun e w' h => h.to (fun X => Cg.of_eq (Int.add_comm _ _)) (Below.refl _ _)
def rQ (q x : Int) (ys : List Int) (i : Nat) (L : List Int) : Nat → List Int
 | 0 => L
 | k + 1 => (rQ q x ys i L k).set (i + k) (((rQ q x ys i L k).getD (i + k) 0 + x * ys.getD k 0 % q) % q)
def oV (q : Int) (xs ys : List Int) (N : Nat) : Nat → List Int
 | 0 => List.replicate N 0
 | i + 1 => rQ q (xs.getD i 0) ys i (oV q xs ys N i) ys.length
theorem mR (q x : Int) (ys : List Int) (i : Nat) (L : List Int) : ∀ k, (rQ q x ys i L k).length = L.length
 | 0 => rfl
 | k + 1 => by rw [rQ, List.length_set, mR q x ys i L k]
theorem mU (q : Int) (xs ys : List Int) (N : Nat) : ∀ i, (oV q xs ys N i).length = N
 | 0 => List.length_replicate
 | i + 1 => by rw [oV, mR, mU q xs ys N i]
theorem qM {q x : Int} (hq : 1 ≤ q) (ys : List Int) (i : Nat) {L : List Int} (h : L.all (bf q) = true) : ∀ k, (rQ q x ys i L k).all (bf q) = true
 | 0 => h
 | k + 1 => by rw [rQ]; exact yM (qM hq ys i h k) (jZ hq)
theorem qN {q : Int} (hq : 1 ≤ q) (xs ys : List Int) (N : Nat) : ∀ i, (oV q xs ys N i).all (bf q) = true
 | 0 => zW hq N
 | i + 1 => qM hq ys i (qN hq xs ys N i) _
theorem BD {q x : Int} (ys : List Int) (i : Nat) (L : List Int) (X : Int) : ∀ k, i + k ≤ L.length → k ≤ ys.length → Cg q (pv (rQ q x ys i L k) X) (pv L X + x * X ^ i * pv (ys.take k) X)
 | 0, _, _ => Cg.of_eq (by rw [rQ, List.take_zero, pv]; omega)
 | k + 1, h1, h2 => by
  rw [rQ, jd X ys k (by omega)]
  refine (BA (by rw [mR]; omega) rfl).trans ?_
  refine ((BD ys i L X k (by omega) (by omega)).add ((Cg.mod _ _).mul (Cg.refl _ _))).trans (Cg.of_eq ?_)
  rw [Int.pow_add]
  grind
theorem BF {q : Int} (xs ys : List Int) (N : Nat) (X : Int) (hN : xs.length + ys.length ≤ N + 1) (hy : 1 ≤ ys.length) : ∀ i, i ≤ xs.length → Cg q (pv (oV q xs ys N i) X) (pv (xs.take i) X * pv ys X)
 | 0, _ => Cg.of_eq (by rw [oV, sQ, List.take_zero, pv, Int.zero_mul])
 | i + 1, h => by
  rw [oV, jd X xs i (by omega)]
  refine (BD ys i _ X ys.length (by rw [mU]; omega) (Nat.le_refl _)).trans ?_
  rw [List.take_of_length_le (Nat.le_refl _)]
  refine ((BF xs ys N X hN hy i (by omega)).add (Cg.refl _ _)).trans (Cg.of_eq ?_)
  grind
theorem ED (w : World) (T : TypeId) (n : Nat) : Rl (w.alloc (.cells (madeCells #[.int .i64 0] n) T)) w.heap.size (List.replicate n 0) := by
 obtain ⟨h1, h2⟩ := zg w T n
 refine ⟨fun j hj => ?_, h2⟩
 rw [List.length_replicate] at hj
 rw [h1 j hj, List.getD_eq_getElem?_getD, List.getElem?_replicate, if_pos hj]; rfl
theorem pX (q : Int) (A : Option Addr) (xs : List Int) (n c : Nat) (B : Option Addr) (ys : List Int) (m d M : Nat) (h1 : 1 ≤ q) (h2 : q < 2305843009213693952) (hn : Hid (xs.length = n)) (hm : Hid (ys.length = m)) (hM : n + m ≤ M + 1) (hbig : M < 100000) (hx : Hid (xs.all (bf q) = true)) (hy : Hid (ys.all (bf q) = true)) (w : World) (hS : Hid (Sl w A xs)) (hT : Hid (Sl w B ys)) :
  Calls Tryz.prog 48 #[.int .i64 q, .slice A n c, .slice B m d] w (mF q M (fun X => pv xs X * pv ys X) w) := by
 by_cases hn0 : n = 0
 ·
  subst hn0
  have e0 : xs = [] := List.eq_nil_of_length_eq_zero hn.out
  subst e0
  go_in
  go_wp2
  go_ret
  exact ⟨none, 0, [], rfl, sl0 _ _, Pl.nil q M, fun X => Cg.of_eq (by show (0 : Int) = 0 * _; rw [Int.zero_mul]), Below.refl _ _⟩
 by_cases hm0 : m = 0
 ·
  subst hm0
  have e0 : ys = [] := List.eq_nil_of_length_eq_zero hm.out
  subst e0
  have dn : ((n : Int) == 0) = false := by simp; omega
  go_in
  go_wp2
  go_ret
  exact ⟨none, 0, [], rfl, sl0 _ _, Pl.nil q M, fun X => Cg.of_eq (by show (0 : Int) = _ * 0; rw [Int.mul_zero]), Below.refl _ _⟩
 have dn : ((n : Int) == 0) = false := by simp; omega
 have dm : ((m : Int) == 0) = false := by simp; omega
 obtain ⟨N, hN⟩ : ∃ N, n + m - 1 = N := ⟨_, rfl⟩
 have eN : (n : Int) + (m : Int) - 1 = (N : Int) := by omega
 have hmm := fun W => run_make_row' (P := Tryz.prog) 30 3 (.int .i64 0) 8 Tryz.underlying30 gW rfl .i64 .i64 N (by omega) (by omega) W
 have mI := aa (ED w 3 N)
 have Aa : Hid (∀ X, Cg q (pv (oV q xs ys N n) X) (pv xs X * pv ys X)) := aa (fun X => by
  have h9 := BF (q := q) xs ys N X (by rw [hn.out, hm.out]; omega) (by rw [hm.out]; omega) n (by rw [hn.out]; exact Nat.le_refl _)
  rwa [List.take_of_length_le (by rw [hn.out]; exact Nat.le_refl _)] at h9)
 have J3 : Hid ((oV q xs ys N n).all (bf q) = true) := aa (qN h1 xs ys N n)
 have ng : Hid ((oV q xs ys N n).length = N) := aa (mU q xs ys N n)
 have hQn : ¬ (q = 0) := by omega
 have JH : ((q : Int) == 0) = false := by simp; omega
 go_in
 go_wp2
 obtain ⟨W, hW⟩ : ∃ W, w.alloc (.cells (madeCells #[.int .i64 0] N) 3) = W := ⟨_, rfl⟩
 have rO : Hid (Below w.heap.size w W) := aa (by rw [← hW]; exact af _ _)
 rw [hW] at mI ⊢
 clear hW hmm
 go_loopw [29] (fun i wr => ∃ k : Nat, k ≤ n ∧ i = .int .i64 k ∧ Hid (Rl wr w.heap.size (oV q xs ys N k)) ∧ Hid (Below w.heap.size w wr)) (fun i _ => n - (intOf i).toNat)
 case atStart => exact ⟨0, by omega, rfl, mI, rO⟩
 case round =>
  obtain ⟨i, hi, rfl, QY, PG⟩ := hrel
  by_cases hin : i < n
  ·
   have TG := aa (hS.out.below PG.out)
   obtain ⟨b, o, hA, hi0⟩ := TG.out i (by rw [hn.out]; exact hin)
   subst hA
   obtain ⟨x0, x1⟩ := bV hx.out (k := i) (by rw [hn.out]; exact hin)
   obtain ⟨x, hxv⟩ : ∃ x, xs.getD i 0 = x := ⟨_, rfl⟩
   have TR : Hid (oV q xs ys N (i + 1) = rQ q x ys i (oV q xs ys N i) m) := aa (by rw [oV, hxv, hm.out])
   rw [hxv] at hi0 x0 x1
   clear hxv mI rO
   go_wp2
   go_loopw [36] (fun j wr => ∃ k : Nat, k ≤ m ∧ j = .int .i64 k ∧ Hid (Rl wr w.heap.size (rQ q x ys i (oV q xs ys N i) k)) ∧ Hid (Below w.heap.size w wr)) (fun j _ => m - (intOf j).toNat)
   case atStart => exact ⟨0, by omega, rfl, QY, PG⟩
   case round =>
    obtain ⟨k, hk, rfl, Ll, Gg⟩ := hrel
    by_cases hkm : k < m
    ·
     have TB := aa (hT.out.below Gg.out)
     obtain ⟨b2, o2, hB, hk0⟩ := TB.out k (by rw [hm.out]; exact hkm)
     subst hB
     obtain ⟨y0, y1⟩ := bV hy.out (k := k) (by rw [hm.out]; exact hkm)
     obtain ⟨J, hJ⟩ : ∃ J, i + k = J := ⟨_, rfl⟩
     have eJ : (i : Int) + (k : Int) = (J : Int) := by omega
     have Ot : J < N := by omega
     have Pd : Hid ((rQ q x ys i (oV q xs ys N i) k).length = N) := aa (by rw [mR, mU])
     have hz0 := Ll.out.1 J (by rw [Pd.out]; exact Ot)
     have R5 := Ll.out.2 J
     obtain ⟨z0, z1⟩ := bV (qM (x := x) h1 ys i (qN h1 xs ys N i) k) (k := J) (by rw [Pd.out]; exact Ot)
     obtain ⟨y, hyv⟩ : ∃ y, ys.getD k 0 = y := ⟨_, rfl⟩
     obtain ⟨z, hzv⟩ : ∃ z, (rQ q x ys i (oV q xs ys N i) k).getD J 0 = z := ⟨_, rfl⟩
     have DF : Hid (rQ q x ys i (oV q xs ys N i) (k + 1) = (rQ q x ys i (oV q xs ys N i) k).set J ((z + x * y % q) % q)) := aa (by rw [rQ, hJ, hyv, hzv])
     rw [hyv] at hk0 y0 y1
     rw [hzv] at hz0 z0 z1
     obtain ⟨m1, hm1⟩ : ∃ m1, x * y % q = m1 := ⟨_, rfl⟩
     have Ue := aa hm1
     have a0 : 0 ≤ m1 := by rw [← hm1]; exact Int.emod_nonneg _ (by omega)
     have a1 : m1 < q := by rw [← hm1]; exact Int.emod_lt_of_pos _ (by omega)
     rw [hm1] at DF
     obtain ⟨R, hR⟩ : ∃ R, (z + m1) % q = R := ⟨_, rfl⟩
     rw [hR] at DF
     have e1 : IntKind.i64.wrap (z + m1) = z + m1 := IntWalk.i64_in _ (by omega)
     have e2 : wrap64 (z + m1) = z + m1 := IntWalk.wrap64_in _ (by omega)
     have Ku : (z + m1).tmod q = R := iZ (by omega) hR
     have R0 : 0 ≤ R := by rw [← hR]; exact Int.emod_nonneg _ (by omega)
     have R1 : R < q := by rw [← hR]; exact Int.emod_lt_of_pos _ (by omega)
     have hwt : IntKind.i64.wrap R = R := IntWalk.i64_in _ (by omega)
     have Iq : wrap64 R = R := IntWalk.wrap64_in _ (by omega)
     have e3 : IntKind.i64.wrap (J : Int) = (J : Int) := IntWalk.i64_in _ (by omega)
     have e4 : wrap64 (J : Int) = (J : Int) := IntWalk.wrap64_in _ (by omega)
     clear hyv hzv hm1 hR hJ
     go_upto_region 10 with (fail)
     have hO : Hid (∀ u, Hid (Below wr.heap.size wr u) → u.cell? ⟨w.heap.size, J, none⟩ = some (.int .i64 z)) := aa (fun u h => (h.out.cell (World.block_lt_of_cell? _ _ hz0)).trans hz0)
     refine Md (fun u => Below wr.heap.size wr u) [18] (aa (Below.refl _ _).drew) (fun hHeld => ?_)
     refine jT 0 1 2 3 ?_
     refine jT 4 5 6 7 ?_
     refine jT 8 9 10 11 ?_
     refine sD 12 ?_
     refine sD 15 ?_
     have FB := hHeld
     refine mP 13 fun K hK => ?_
     go_simp
     refine (fD q x y m1 Ue h2 x0 x1 y0 y1 _).mono ?_
     rintro e u1 ⟨rfl, hq1⟩
     have rP := aa (ag FB.out hq1)
     refine hK.out _ _ rP (fun hHeld => ?_)
     clear hK K
     try simp only [qq]
     refine sD 14 ?_
     refine sD 16 ?_
     refine sD 17 ?_
     refine JA 18 fun K hK => ?_
     have NB := (rP.out.cell (World.block_lt_of_cell? _ _ hz0)).trans hz0
     have Oy := (rP.out.frozen (World.block_lt_of_cell? _ _ hz0)).trans R5
     have lH : Hid (Below w.heap.size w (u1.setCell ⟨w.heap.size, J, none⟩ (.int .i64 R))) := aa ((ag Gg.out rP.out).setCell (Nat.le_refl _) _)
     have TL : Hid (Rl (u1.setCell ⟨w.heap.size, J, none⟩ (.int .i64 R)) w.heap.size (rQ q x ys i (oV q xs ys N i) (k + 1))) := aa (by
      rw [DF.out]
      exact (Ll.out.below rP.out (World.block_lt_of_cell? _ _ hz0)).set (by rw [Pd.out]; exact Ot) R)
     go_simp
     refine hK.out _ _ ?_
     clear hK K
     try simp only [qq]
     refine AA ?_
     clear NB Oy
     go_wp2
     go_roundw
     case rel => exact ⟨k + 1, by omega, by go_num, TL, lH⟩
     case measure => simp [intOf]; omega
    ·
     obtain rfl : k = m := by omega
     rw [← TR.out] at Ll
     go_wp2
     go_roundw
     case rel => exact ⟨i + 1, by omega, by go_num, Ll, Gg⟩
     case measure => simp [intOf]; omega
  ·
   obtain rfl : i = n := by omega
   have D7 : Hid (Sl wr (some ⟨w.heap.size, 0, none⟩) (oV q xs ys N i)) := aa QY.out.sl
   go_wp2_with fail
   refine (gF q (some ⟨w.heap.size, 0, none⟩) (oV q xs ys N i) N N M ng (Nat.le_refl _) (by omega) (by omega) J3 _ D7).mono ?_
   rintro e w3 ⟨A3, c3, L3, rfl, hs3, hp3, hv3, hb3⟩
   have HR := aa hs3
   have HP := aa hp3
   have HV := aa hv3
   have HB3 := aa (ag PG.out hb3)
   clear hs3 hp3 hv3 hb3
   go_wp2
   go_ret
   exact ⟨A3, c3, L3, rfl, HR.out, HP.out, fun X => (HV.out X).trans (Aa.out X), HB3.out⟩
def KZ (q : Int) (xs ys : List Int) (n : Nat) (w : World) (e : Ending) (w' : World) : Prop := ∃ A c L, e = .returned (.tuple #[.slice A L.length c, .int .i64 0]) ∧ Sl w' A L ∧ Pl q n L ∧ rE q xs ys n L ∧ Below w.heap.size w w'
theorem BB (k X : Int) : pv [k] X = k := by show k + X * 0 = k; omega
theorem H6 (a X : Int) : pv [a, 1] X = a + X := by show a + X * (1 + X * 0) = a + X; simp
theorem x_ (q : Int) (A : Option Addr) (xs : List Int) (n c : Nat) (B : Option Addr) (ys : List Int) (d : Nat) (h2 : q < 2305843009213693952) (hp : Hid (dR q = true)) (hn : Hid (xs.length = n)) (hm : Hid (ys.length = n)) (hbig : n ≤ 100) (hcap : n ≤ c)
  (hx : Hid (xs.all (bf q) = true)) (hy : Hid (ys.all (bf q) = true)) (hnt : Hid (bY xs)) (hu : Hid (∀ i j, i < n → j < n → i ≠ j → Un q (cK xs i - cK xs j))) (w : World) (hv : Hid (Vars w)) (hS : Hid (Sl w A xs)) (hT : Hid (Sl w B ys)) :
  Calls Tryz.prog 12 #[.int .i64 q, .slice A n c, .slice B n d] w (KZ q xs ys n w) := by
 have q2 := eH hp.out
 have q1 : 1 ≤ q := by omega
 have dn : ((n : Int) != (n : Int)) = false := by simp
 go_in
 go_wp2_with fail
 refine (pY q A xs n c B ys n d h2 hp hn hbig hcap hm hbig hx hy hnt _ hv hS hT).mono ?_
 rintro e W ⟨rfl, hb0⟩
 have rO := aa hb0
 clear hb0
 go_wp2
 have hb1 := af W (.cells #[.int .i64 1] 3)
 have D8 : Hid (Sl (W.alloc (.cells #[.int .i64 1] 3)) (some ⟨W.heap.size, 0, none⟩) [1]) := aa (eX (jN W 3 1))
 have qA : Hid (Pl q (0 + 1) [1]) := aa ⟨mQ (by omega) (by omega), by simp, .inr (by simp)⟩
 have GV : Hid (∀ X, Cg q (pv [1] X) (gp (cK xs) X 0)) := aa (fun X => Cg.of_eq (by rw [BB]; rfl))
 have HB1 : Hid (Below w.heap.size w (W.alloc (.cells #[.int .i64 1] 3))) := aa (ag rO.out hb1)
 clear hb1
 go_loopw [9, 10, 29] (fun vf vg i wr => ∃ (k : Nat) (Af : Option Addr) (cf : Nat) (F : List Int) (Ag : Option Addr) (cg : Nat) (G : List Int), k ≤ n ∧ i = .int .i64 k ∧ vf = .slice Af F.length cf ∧ vg = .slice Ag G.length cg ∧ Hid (Sl wr Af F) ∧ Hid (Sl wr Ag G) ∧ Hid (Pl q k F) ∧ Hid (Pl q (k + 1) G) ∧ Hid (rE q xs ys k F) ∧ Hid (∀ X, Cg q (pv G X) (gp (cK xs) X k)) ∧ Hid (Below w.heap.size w wr)) (fun _ _ i _ => n - (intOf i).toNat)
 case atStart => exact ⟨0, none, 0, [], some ⟨W.heap.size, 0, none⟩, 1, [1], by omega, rfl, rfl, rfl, aa (sl0 _ _), D8, aa (Pl.nil q 0), qA, aa (zA q xs ys), GV, HB1⟩
 case round =>
  obtain ⟨k, Af, cf, F, Ag, cg, G, hk, rfl, rfl, rfl, GL, OV, JQ, MX, Q6, Pk, aB⟩ := hrel
  obtain ⟨lf, hlf⟩ : ∃ l, F.length = l := ⟨_, rfl⟩
  obtain ⟨lg, Mf⟩ : ∃ l, G.length = l := ⟨_, rfl⟩
  have Na := aa hlf
  have M_ := aa Mf
  have lf1 : lf ≤ k := by rw [← hlf]; exact JQ.out.len
  have U2 : lg ≤ k + 1 := by rw [← Mf]; exact MX.out.len
  rw [hlf, Mf]
  clear hlf Mf
  by_cases hlt : k < n
  ·
   have mH := aa (hS.out.below aB.out)
   have La := aa (hT.out.below aB.out)
   obtain ⟨b, o, hA, hi0⟩ := mH.out k (by rw [hn.out]; exact hlt)
   subst hA
   obtain ⟨b2, o2, hB, hk0⟩ := La.out k (by rw [hm.out]; exact hlt)
   subst hB
   obtain ⟨x0, x1⟩ := bV hx.out (k := k) (by rw [hn.out]; exact hlt)
   obtain ⟨y0, y1⟩ := bV hy.out (k := k) (by rw [hm.out]; exact hlt)
   have TA : Hid (Un q (pv G (cK xs k))) := aa ((Cw k (fun j hj => hu.out k j hlt (by omega) (by omega))).cg (Pk.out _).symm)
   obtain ⟨x, hxv⟩ : ∃ x, xs.getD k 0 = x := ⟨_, rfl⟩
   obtain ⟨y, hyv⟩ : ∃ y, ys.getD k 0 = y := ⟨_, rfl⟩
   have HX : Hid (cK xs k = x) := aa hxv
   have HY : Hid (cK ys k = y) := aa hyv
   rw [hxv] at hi0 x0 x1
   rw [hyv] at hk0 y0 y1
   clear hxv hyv
   obtain ⟨E1, hE1⟩ : ∃ z, yD q x F lf = z := ⟨_, rfl⟩
   obtain ⟨a0, a1⟩ := oq q1 x F lf
   obtain ⟨E2, hE2⟩ : ∃ z, yD q x G lg = z := ⟨_, rfl⟩
   obtain ⟨c0, c1⟩ := oq q1 x G lg
   rw [hE1] at a0 a1
   rw [hE2] at c0 c1
   have J2 := aa hE1
   have HE2 := aa hE2
   obtain ⟨S1, hS1⟩ : ∃ z, (y - E1 + q) % q = z := ⟨_, rfl⟩
   have s0 : 0 ≤ S1 := by rw [← hS1]; exact Int.emod_nonneg _ (by omega)
   have s1 : S1 < q := by rw [← hS1]; exact Int.emod_lt_of_pos _ (by omega)
   have Lj := aa hS1
   obtain ⟨V, hV⟩ : ∃ z, fP E2 q = z := ⟨_, rfl⟩
   have HV := aa hV
   obtain ⟨v0, v1⟩ := Io q2 hV
   obtain ⟨KK, Mm⟩ : ∃ z, S1 * V % q = z := ⟨_, rfl⟩
   have k0 : 0 ≤ KK := by rw [← Mm]; exact Int.emod_nonneg _ (by omega)
   have k1 : KK < q := by rw [← Mm]; exact Int.emod_lt_of_pos _ (by omega)
   have HKK := aa Mm
   obtain ⟨N1, hN1⟩ : ∃ z, (0 - x + q) % q = z := ⟨_, rfl⟩
   have n0 : 0 ≤ N1 := by rw [← hN1]; exact Int.emod_nonneg _ (by omega)
   have n1 : N1 < q := by rw [← hN1]; exact Int.emod_lt_of_pos _ (by omega)
   have DF := aa hN1
   clear hE1 hE2 hS1 hV Mm hN1
   go_upto_region 11 with (fail)
   have hO : Hid (∀ u, Hid (Below wr.heap.size wr u) → u.cell? ⟨b2, o2 + k, none⟩ = some (.int .i64 y)) := aa (fun u h => (h.out.cell (World.block_lt_of_cell? _ _ hk0)).trans hk0)
   refine Md (fun u => Below wr.heap.size wr u) [] (aa (Below.refl _ _).drew) (fun hHeld => ?_)
   refine jT 0 1 2 3 ?_
   refine jT 4 5 6 7 ?_
   refine jT 8 11 12 13 ?_
   refine sD 14 ?_
   have RO := hHeld
   refine mP 9 fun K hK => ?_
   go_simp
   refine (lQ q Af F lf cf x q1 h2 (aa JQ.out.sc) Na (by omega) x0 x1 _ (aa (GL.out.below RO.out))).mono ?_
   rintro e u1 ⟨rfl, hq1⟩
   rw [J2.out]
   have RN := aa (ag RO.out hq1)
   refine hK.out _ _ RN (fun hHeld => ?_)
   clear hK K hq1
   try simp only [qq]
   refine mP 10 fun K hK => ?_
   go_simp
   refine (j4 q y E1 S1 Lj q1 h2 y0 y1 a0 a1 _).mono ?_
   rintro e u2 ⟨rfl, hq1⟩
   have rP := aa (ag RN.out hq1)
   refine hK.out _ _ rP (fun hHeld => ?_)
   clear hK K hq1
   try simp only [qq]
   refine mP 15 fun K hK => ?_
   go_simp
   refine (lQ q Ag G lg cg x q1 h2 (aa MX.out.sc) M_ (by omega) x0 x1 _ (aa (OV.out.below rP.out))).mono ?_
   rintro e u3 ⟨rfl, hq1⟩
   rw [HE2.out]
   have RL := aa (ag rP.out hq1)
   refine hK.out _ _ RL (fun hHeld => ?_)
   clear hK K hq1
   try simp only [qq]
   refine mP 16 fun K hK => ?_
   go_simp
   refine (sS q E2 V HV q2 h2 c0 c1 _).mono ?_
   rintro e u4 ⟨rfl, _, _, hq1⟩
   have RJ := aa (ag RL.out hq1)
   refine hK.out _ _ RJ (fun hHeld => ?_)
   clear hK K hq1
   try simp only [qq]
   refine mP 17 fun K hK => ?_
   go_simp
   refine (fD q S1 V KK HKK h2 s0 s1 v0 v1 _).mono ?_
   rintro e u5 ⟨rfl, hq1⟩
   have RI := aa (ag RJ.out hq1)
   refine hK.out _ _ RI (fun hHeld => ?_)
   clear hK K hq1
   try simp only [qq]
   refine sD 18 ?_
   refine AA ?_
   clear hO
   go_wp2_with fail
   have RH := aa (ag RI.out (af u5 (.cells #[.int .i64 KK] 3)))
   have Dw := aa (eX (jN u5 3 KK))
   have Dx := aa (OV.out.below RH.out)
   refine (pX q (some ⟨u5.heap.size, 0, none⟩) [KK] 1 1 Ag G lg cg (k + 1) q1 h2 (aa rfl) M_ (by omega) (by omega) (aa (mQ k0 k1)) (aa MX.out.sc) _ Dw Dx).mono ?_
   rintro e u6 ⟨A6, c6, P6, rfl, hs6, NT, hv6, hb6⟩
   have F5 := aa hs6
   have JR := aa NT
   have MQ := aa hv6
   have RG := aa (ag RH.out hb6)
   obtain ⟨l6, Mg⟩ : ∃ l, P6.length = l := ⟨_, rfl⟩
   have R3 : l6 ≤ k + 1 := by rw [← Mg]; exact NT.len
   have Ui := aa Mg
   rw [Mg]
   clear hs6 NT hv6 hb6 Mg Dw Dx
   have Lh := aa (GL.out.below RG.out)
   go_wp2_with fail
   refine (BC q Af F lf cf A6 P6 l6 c6 (k + 1) q1 h2 Na Ui (by omega) R3 (by omega) (aa JQ.out.sc) (aa JR.out.sc) _ Lh F5).mono ?_
   rintro e u7 ⟨A7, c7, F7, rfl, hs7, P9, hv7, JE⟩
   have MV := aa hs7
   have Q3 := aa P9
   have QM := aa hv7
   have UL := aa (ag RG.out JE)
   clear hs7 P9 hv7 JE Lh
   obtain ⟨l7, N9⟩ : ∃ l, F7.length = l := ⟨_, rfl⟩
   have Uh := aa N9
   rw [N9]
   clear N9
   go_wp2_with fail
   refine (j4 q 0 x N1 DF q1 h2 (by omega) (by omega) x0 x1 _).mono ?_
   rintro e u8 ⟨rfl, DW⟩
   have UK := aa (ag UL.out DW)
   have OZ := aa (MV.out.below DW)
   clear DW
   go_wp2_with fail
   have hbx := af u8 (.cells #[.int .i64 N1, .int .i64 1] 3)
   have LY := aa (ag UK.out hbx)
   have QW := aa (eX (Db u8 3 N1 1))
   have OY := aa (OZ.out.below hbx)
   have Dx := aa (OV.out.below LY.out)
   have O8 : Hid ([N1, 1].all (bf q) = true) := aa (by simp [bf]; omega)
   clear hbx
   refine (pX q Ag G lg cg (some ⟨u8.heap.size, 0, none⟩) [N1, 1] 2 2 (k + 1 + 1) q1 h2 M_ (aa rfl) (by omega) (by omega) (aa MX.out.sc) O8 _ Dx QW).mono ?_
   rintro e u9 ⟨A9, c9, G9, rfl, DV, P8, vR, rT⟩
   have Jg := aa DV
   have TT := aa P8
   have K8 := aa vR
   have PL := aa (ag (ag aB.out LY.out) rT)
   have OX := aa (OY.out.below rT)
   obtain ⟨l9, N8⟩ : ∃ l, G9.length = l := ⟨_, rfl⟩
   have Ug := aa N8
   rw [N8]
   clear DV P8 vR rT N8 Dx QW
   have O6 : Hid (rE q xs ys (k + 1) F7) := aa (by
    refine zB (k := KK) Q6.out Pk.out ?_ (fun X => (QM.out X).trans ((Cg.refl _ _).add ((MQ.out X).trans (Cg.of_eq (by rw [BB])))))
    have e2 : Cg q E2 (pv G (cK xs k)) := by rw [HX.out, ← HE2.out, wE q1 x G lg M_.out]; exact Cg.mod _ _
    have e1 : Cg q E1 (pv F (cK xs k)) := by rw [HX.out, ← J2.out, wE q1 x F lf Na.out]; exact Cg.mod _ _
    have e3 : Cg q (V * E2) 1 := by rw [← HV.out]; exact kH q2 (TA.out.cg e2.symm)
    have e4 : Cg q S1 (cK ys k - pv F (cK xs k)) := by
     rw [← Lj.out, HY.out]
     exact (Cg.mod _ _).trans ((((Cg.refl _ _).sub e1).add ⟨1, by omega⟩).trans (Cg.of_eq (Int.add_zero _)))
    rw [← HKK.out]
    refine ((Cg.mod _ _).mul e2.symm).trans ?_
    refine (Cg.of_eq (show S1 * V * E2 = S1 * (V * E2) from Int.mul_assoc _ _ _)).trans ?_
    exact (((Cg.refl _ _).mul e3).trans (Cg.of_eq (Int.mul_one _))).trans e4)
   have Pj : Hid (∀ X, Cg q (pv G9 X) (gp (cK xs) X (k + 1))) := aa (fun X => by
    refine (K8.out X).trans ?_
    rw [gp]
    dsimp only
    rw [H6]
    refine (Pk.out X).mul ?_
    have e5 : Cg q N1 (0 - x) := by rw [← DF.out]; exact (Cg.mod _ _).trans ⟨1, by omega⟩
    exact (e5.add (Cg.refl _ _)).trans (Cg.of_eq (by rw [HX.out]; omega)))
   go_wp2
   go_roundw
   case rel => exact ⟨k + 1, A7, c7, F7, A9, c9, G9, by omega, by go_num, by rw [Uh.out], by rw [Ug.out], OX, Jg, Q3, TT, O6, Pj, PL⟩
   case measure => simp [intOf]; omega
  ·
   obtain rfl : k = n := by omega
   go_wp2
   go_ret2
   exact ⟨Af, cf, F, by rw [Na.out]; rfl, GL.out, JQ.out, Q6.out, aB.out⟩
theorem Fe (c0 : Value) (p : Row → Bool) (A : Option Addr) (xs : List Row) (n c : Nat) (hn : Hid (xs.length = n)) (hbig : Hid (n < 1000000)) (w : World) (hs : Hid (Rw w A xs)) (hp : Hid (Dn 76 #[c0] p w)) :
  Calls Tryz.prog 95 #[.slice A n c, .func (.func 76) #[] #[c0]] w (FX p xs w) := by
 have hn0 : n < 1000000 := hbig.out
 go_in
 go_wp2
 go_loopw [8] (fun i wr => ∃ k : Nat, k ≤ n ∧ i = .int .i64 k ∧ Hid (xs.any p = (xs.drop k).any p) ∧ Hid (Below w.heap.size w wr)) (fun i _ => n - (intOf i).toNat)
 case atStart => exact ⟨0, by omega, rfl, aa rfl, aa (Below.refl _ _)⟩
 case round =>
  obtain ⟨k, hk, rfl, HR, aB⟩ := hrel
  by_cases hlt : k < n
  ·
   have hkl : k < xs.length := by rw [hn.out]; exact hlt
   obtain ⟨⟨b, o, hA, hi⟩, hok⟩ := hs.out.below aB.out k hkl
   subst hA
   cases hpx : p (xs.getD k nU) with
   | false =>
    have HN : Hid (xs.any p = (xs.drop (k + 1)).any p) := aa (HR.out.trans (zV hkl hpx))
    obtain ⟨x, hx⟩ : ∃ x, xs.getD k nU = x := ⟨_, rfl⟩
    rw [hx] at hi hpx hok
    have HC := aa (hp.out x wr aB.out hok)
    have Jj := aa hpx
    obtain ⟨xp, xn, xc, xl⟩ := x
    dsimp only [Row.val] at hi
    clear hx hkl hpx HR hok
    go_wp2_with fail
    refine HC.out.mono ?_
    rintro e w2 ⟨rfl, hb0⟩
    rw [Jj.out]
    have HB2 := aa (ag aB.out hb0)
    clear hb0
    go_wp2
    go_roundw
    case rel => exact ⟨k + 1, by omega, by go_num, HN, HB2⟩
    case measure => simp [intOf]; omega
   | true =>
    have HN : Hid (decide ((0 : Int) ≤ (k : Int)) = xs.any p) := aa (by rw [HR.out, Di hkl hpx]; simp)
    obtain ⟨x, hx⟩ : ∃ x, xs.getD k nU = x := ⟨_, rfl⟩
    rw [hx] at hi hpx hok
    have HC := aa (hp.out x wr aB.out hok)
    have Jj := aa hpx
    obtain ⟨xp, xn, xc, xl⟩ := x
    dsimp only [Row.val] at hi
    clear hx hkl hpx HR hok
    go_wp2_with fail
    refine HC.out.mono ?_
    rintro e w2 ⟨rfl, hb0⟩
    rw [Jj.out]
    have HB2 := aa (ag aB.out hb0)
    clear hb0
    go_wp2
    go_ret
    exact ⟨k, rfl, HN.out, HB2.out⟩
  ·
   obtain rfl : k = n := by omega
   have HN : Hid (decide ((0 : Int) ≤ (-1 : Int)) = xs.any p) := aa (by rw [HR.out, ← hn.out]; simp)
   clear HR hlt
   go_wp2
   go_ret
   exact ⟨-1, rfl, HN.out, aB.out⟩
theorem I6 (c0 : Value) (p : Row → Bool) (r : Bool) (A : Option Addr) (xs : List Row) (n c : Nat) (hr : Hid (xs.any p = r)) (hn : Hid (xs.length = n)) (hbig : Hid (n < 1000000)) (w : World) (hs : Hid (Rw w A xs)) (hp : Hid (Dn 76 #[c0] p w)) :
  Calls Tryz.prog 75 #[.slice A n c, .func (.func 76) #[] #[c0]] w (Rt w (.bool r)) := by
 go_in
 go_wp2_with fail
 refine (Fe c0 p A xs n c hn hbig _ hs hp).mono ?_
 rintro e w1 ⟨i, rfl, hi, hb1⟩
 have hd : decide ((0 : Int) ≤ i) = r := hi.trans hr.out
 clear hi
 go_wp2
 go_ret
 exact ⟨by first | rfl | (rw [← hd]) | simp [hd], hb1⟩
def jh (q : Int) (r : Row) : Bool := decide (1000 < r.n) || ((decide (0 < r.n) && (r.xs.getD (r.n - 1) 0 == 0)) || !(r.xs.all (bf q)))
theorem Ez (q : Int) (a : Nat) (W : World) (hx : Hid (W.cell? ⟨a, 0, none⟩ = some (.int .i64 q))) :
  Dn 76 #[.pointer (some ⟨a, 0, none⟩)] (jh q) W := fun r w1 hb hok => by
 show Calls Tryz.prog 76 #[.slice r.p r.n r.c, .pointer (some ⟨a, 0, none⟩)] w1 fun e w' => e = .returned (.bool (jh q r)) ∧ Below w1.heap.size w1 w'
 have c0 := cell_below hx.out hb
 obtain ⟨A, n, c, xs⟩ := r
 have hn : Hid (xs.length = n) := aa hok.1
 have hS : Hid (Sl w1 A xs) := aa hok.2
 clear hok hb
 by_cases hbig : 1000 < n
 ·
  have e : jh q ⟨A, n, c, xs⟩ = true := by simp [jh, hbig]
  rw [e]
  have d0 : decide ((1000 : Int) < (n : Int)) = true := by simp; omega
  clear e
  go_in
  go_wp2
  go_ret
  exact ⟨rfl, Below.refl _ _⟩
 ·
  have d0 : decide ((1000 : Int) < (n : Int)) = false := by simp; omega
  have Rx : Hid (n < 1000000) := aa (by omega)
  obtain ⟨t, ht⟩ : ∃ t, xs.all (bf q) = t := ⟨_, rfl⟩
  have HT := aa ht
  by_cases h0 : n = 0
  ·
   subst h0
   have e : jh q ⟨A, 0, c, xs⟩ = !t := by simp [jh, ht]
   rw [e]
   have d1 : decide ((0 : Int) < ((0 : Nat) : Int)) = false := by simp
   clear e ht
   go_in
   go_wp2_with fail
   refine (dD q A xs 0 c t HT hn Rx _ hS).mono ?_
   rintro e w2 ⟨rfl, hb2⟩
   go_wp2
   go_ret
   exact ⟨rfl, hb2⟩
  ·
   obtain ⟨j, rfl⟩ : ∃ j, n = j + 1 := ⟨n - 1, by omega⟩
   have d1 : decide ((0 : Int) < ((j + 1 : Nat) : Int)) = true := by simp <;> omega
   have d2 : decide ((0 : Int) < (j : Int) + 1) = true := by simp <;> omega
   have d3 : decide ((1000 : Int) < (j : Int) + 1) = false := by simp <;> omega
   have e1 : ((j + 1 : Nat) : Int) - 1 = (j : Int) := by omega
   have e2 : (j : Int) + 1 - 1 = (j : Int) := by omega
   obtain ⟨b, o, hA, hi0⟩ := hS.out j (by rw [hn.out]; omega)
   subst hA
   obtain ⟨v, hv⟩ : ∃ v, xs.getD j 0 = v := ⟨_, rfl⟩
   rw [hv] at hi0
   by_cases hv0 : v = 0
   ·
    have e : jh q ⟨some ⟨b, o, none⟩, j + 1, c, xs⟩ = true := by simp only [jh, Nat.add_sub_cancel, hv, hv0]; simp
    rw [e]
    have dz : ((v : Int) == 0) = true := by simpa using hv0
    clear e hv ht
    go_in
    go_wp2
    go_ret
    exact ⟨rfl, Below.refl _ _⟩
   ·
    have e : jh q ⟨some ⟨b, o, none⟩, j + 1, c, xs⟩ = !t := by
     have : (v == 0) = false := by simpa using hv0
     have h9 : decide (1000 < j + 1) = false := by simp; omega
     simp only [jh, Nat.add_sub_cancel, hv, this, ht, h9]; simp
    rw [e]
    have dz : ((v : Int) == 0) = false := by simpa using hv0
    clear e hv ht
    go_in
    go_wp2_with fail
    refine (dD q (some ⟨b, o, none⟩) xs (j + 1) c t HT hn Rx _ hS).mono ?_
    rintro e w2 ⟨rfl, hb2⟩
    go_wp2
    go_ret
    exact ⟨rfl, hb2⟩
theorem FQ {q : Int} {m n c : Nat} {A : Option Addr} {xs : List Int} (h : Pl q m xs) (hn : xs.length = n) (hm : m ≤ 1000) : jh q ⟨A, n, c, xs⟩ = false := by
 have h1 := h.len
 have h9 : decide (1000 < n) = false := by simp; omega
 have h8 : (decide (0 < n) && (xs.getD (n - 1) 0 == 0)) = false := by
  rcases h.trim with e | e
  ·
   have : decide (0 < n) = false := by simp; omega
   rw [this]; rfl
  ·
   rw [hn] at e
   have : (xs.getD (n - 1) 0 == 0) = false := by simpa using e
   rw [this, Bool.and_false]
 simp only [jh, h9, h8, h.sc]; rfl
theorem zq (q : Int) (r : Row) (b : Nat) (h2 : q < 2305843009213693952) (hp : Hid (dR q = true)) (hbad : Hid (jh q r = false)) (w : World) (hv : Hid (Vars w)) (hS : Hid (Rw w (some ⟨b, 0, none⟩) [r])) :
  Calls Tryz.prog 49 #[.int .i64 q, .slice (some ⟨b, 0, none⟩) 1 1] w (Rt w (.bool true)) := by
 have hb0 := af w (.cells #[.int .i64 q] 3)
 have HX0 : Hid ((w.alloc (.cells #[.int .i64 q] 3)).cell? ⟨w.heap.size, 0, none⟩ = some (.int .i64 q)) := aa (ax (heap_alloc_new _ _) 0)
 obtain ⟨W, hW⟩ : ∃ W, w.alloc (.cells #[.int .i64 q] 3) = W := ⟨_, rfl⟩
 rw [hW] at hb0 HX0
 have HW := aa hW
 have HB0 := aa hb0
 have oZ := aa (hv.out.below hb0)
 have O0 := aa (hS.out.below hb0)
 have HA : Hid ([r].any (jh q) = false) := aa (by rw [List.any_cons, hbad.out]; rfl)
 clear hv hS hb0 hW
 go_in
 go_upto_region 1 with (fail)
 rw [HW.out]
 have x0 := HX0.out
 go_wp2_with fail
 refine (jJ q h2 hp _ oZ).mono ?_
 rintro e w2 ⟨rfl, hb2⟩
 have HB2 := aa (ag HB0.out hb2)
 have yR : Hid (w2.cell? ⟨w.heap.size, 0, none⟩ = some (.int .i64 q)) := aa (cell_below HX0.out hb2)
 have HS2 := aa (O0.out.below hb2)
 have F4 := aa (Ez q w.heap.size w2 yR)
 clear hb2 x0
 go_wp2_with fail
 refine (I6 (.pointer (some ⟨w.heap.size, 0, none⟩)) (jh q) false (some ⟨b, 0, none⟩) [r] 1 1 HA (aa rfl) (aa (by omega)) _ HS2 F4).mono ?_
 rintro e w3 ⟨rfl, hb3⟩
 have HB3 := ag HB2.out hb3
 clear hb3
 go_wp2
 go_ret
 exact ⟨rfl, HB3⟩
theorem nM (q : Int) (A : Option Addr) (xs : List Int) (n c m : Nat) (x : Int) (h2 : q < 2305843009213693952) (hp : Hid (dR q = true)) (hn : Hid (xs.length = n)) (hpl : Hid (Pl q m xs)) (hm : m ≤ 1000) (x0 : 0 ≤ x) (x1 : x < q) (w : World) (hv : Hid (Vars w)) (hS : Hid (Sl w A xs)) :
  Calls Tryz.prog 13 #[.int .i64 q, .slice A n c, .int .i64 x] w (Rt w (.tuple #[.int .i64 (pv xs x % q), .int .i64 0])) := by
 have q2 := eH hp.out
 have hb0 := af w (.cells #[.slice A n c] 30)
 have Ab : Hid ((w.alloc (.cells #[.slice A n c] 30)).cell? ⟨w.heap.size, 0, none⟩ = some (.slice A n c)) := aa (ax (heap_alloc_new _ _) 0)
 have mI : Hid (Rw (w.alloc (.cells #[.slice A n c] 30)) (some ⟨w.heap.size, 0, none⟩) [⟨A, n, c, xs⟩]) := aa (fun k hk => by
  obtain rfl : k = 0 := by simpa using hk
  exact ⟨⟨w.heap.size, 0, rfl, Ab.out⟩, hn.out, hS.out.below hb0⟩)
 have oZ := aa (hv.out.below hb0)
 have HB0 := aa hb0
 have UI : Hid (jh q ⟨A, n, c, xs⟩ = false) := aa (FQ hpl.out hn.out hm)
 have HE : Hid (yD q x xs n = pv xs x % q) := aa (wE (by omega) x xs n hn.out)
 clear hb0
 go_in
 go_wp2_with fail
 refine (zq q ⟨A, n, c, xs⟩ w.heap.size h2 hp UI _ oZ mI).mono ?_
 rintro e w2 ⟨rfl, hb2⟩
 have HB2 := aa (ag HB0.out hb2)
 clear hb2
 go_wp2_with fail
 have TF := aa (eX (jN w2 3 x))
 have HB3 := aa (ag HB2.out (af w2 (.cells #[.int .i64 x] 3)))
 refine (dD q (some ⟨w2.heap.size, 0, none⟩) [x] 1 1 true (aa (mQ x0 x1)) (aa rfl) (aa (by omega)) _ TF).mono ?_
 rintro e w4 ⟨rfl, hb4⟩
 have yT := aa (ag HB3.out hb4)
 have xm := aa (hS.out.below yT.out)
 clear hb4
 go_wp2_with fail
 refine (lQ q A xs n c x (by omega) h2 (aa hpl.out.sc) hn (by have := hpl.out.len; have := hn.out; omega) x0 x1 _ xm).mono ?_
 rintro e w5 ⟨rfl, hb5⟩
 rw [HE.out]
 have GX := ag yT.out hb5
 clear hb5
 obtain ⟨V, hV⟩ : ∃ V, pv xs x % q = V := ⟨_, rfl⟩
 rw [hV]
 go_wp2
 go_ret2
 exact ⟨by rw [hV]; rfl, GX⟩
abbrev mO (need : Int) (Cs : Option Addr) (cn cc : Nat) (Ks : Option Addr) (kn kc : Nat) : Value := .agg #[.int .i64 need, .slice Cs cn cc, .slice Ks kn kc]
abbrev o7 (need : Int) (Cs : Option Addr) (cn cc : Nat) (Ks : Option Addr) (kn kc : Nat) : Obj := .cells #[.int .i64 need, .slice Cs cn cc, .slice Ks kn kc] 32
def fI (Q need : Int) (n : Nat) : Bool := decide (1 ≤ n) && (decide (n ≤ 8) && (decide ((n : Int) < Q) && (decide (1 ≤ need) && decide (need ≤ n))))
def qg (Q i : Int) : Nat → Int
 | 0 => 1
 | k + 1 => qg Q i k * i % Q
def qb (P Q : Int) (cs : List Int) (i : Int) : Nat → Int
 | 0 => 1
 | k + 1 => qb P Q cs i k * pw (cs.getD k 0) (qg Q i k % Q) P % P
def qY (P Q : Int) (cs : List Int) : Nat → List Int → Bool
 | _, [] => true
 | i, y :: t => (y == qb P Q cs ((i : Int) + 1) cs.length) && qY P Q cs (i + 1) t
theorem tK {P Q : Int} {cs ks : List Int} {k : Nat} (hk : k < ks.length) : qY P Q cs k (ks.drop k) = ((ks.getD k 0 == qb P Q cs ((k : Int) + 1) cs.length) && qY P Q cs (k + 1) (ks.drop (k + 1))) := by
 rw [List.drop_eq_getElem_cons hk, qY, List.getD_eq_getElem?_getD, List.getElem?_eq_getElem hk]; rfl
theorem ic {Q i : Int} (hQ : 2 ≤ Q) : ∀ k, 0 ≤ qg Q i k ∧ qg Q i k < Q
 | 0 => ⟨by rw [qg]; omega, by rw [qg]; omega⟩
 | k + 1 => ⟨Int.emod_nonneg _ (by omega), Int.emod_lt_of_pos _ (by omega)⟩
theorem mX {P Q : Int} {cs : List Int} {i : Int} (hP : 2 ≤ P) (hQ : 1 ≤ Q) (h : cs.all (aG P Q) = true) : ∀ k, k ≤ cs.length → aG P Q (qb P Q cs i k) = true
 | 0, _ => Fa hP
 | k + 1, hk => Fb hP hQ (mX hP hQ h k (by omega)) (qX hP hQ (Int.emod_nonneg _ (by omega)) (kU h (by omega)))
theorem bX {Q need : Int} {n : Nat} (h : fI Q need n = true) : 1 ≤ n ∧ n ≤ 8 ∧ (n : Int) < Q ∧ 1 ≤ need ∧ need ≤ n := by
 unfold fI at h
 simpa using h
theorem jX {w : World} {A : Option Addr} {xs : List Int} (h : Sl w A xs) (hp : 0 < xs.length) : ∃ b o, A = some ⟨b, o, none⟩ := by
 obtain ⟨b, o, h1, _⟩ := h 0 hp
 exact ⟨b, o, h1⟩
def Ay (P Q G need : Int) (cs ks : List Int) : Bool := ah P Q G && (fI Q need ks.length && (decide ((cs.length : Int) = need) && (!(cs.getD 0 0 == 1) && (cs.all (aG P Q) && qY P Q cs 0 ks))))
theorem fe (P Q G need : Int) (n : Nat) (r : Bool) (hr : Hid (fI Q need n = r)) (w : World) :
  Calls Tryz.prog 22 #[gv P Q G, .int .i64 need, .int .i64 n] w (Rt w (.bool r)) := by
 have HX := aa (aM w P Q G)
 obtain ⟨c0, c1, c2⟩ := HX.out
 have hb := af w (aC P Q G)
 have hr1 := hr.out
 unfold fI at hr1
 by_cases h0 : 1 ≤ n
 ·
  have d0 : decide ((1 : Int) ≤ (n : Int)) = true := by simp; omega
  by_cases h1 : n ≤ 8
  ·
   have d1 : decide ((n : Int) ≤ 8) = true := by simp; omega
   by_cases h2 : (n : Int) < Q
   ·
    have d2 : decide ((n : Int) < Q) = true := by simp; omega
    by_cases h3 : 1 ≤ need
    ·
     have d3 : decide ((1 : Int) ≤ need) = true := by simp; omega
     by_cases h4 : need ≤ n
     ·
      have d4 : decide (need ≤ (n : Int)) = true := by simp; omega
      obtain rfl : r = true := by rw [← hr1]; simp; omega
      go_in
      go_wp2
      go_ret
      exact ⟨rfl, hb⟩
     ·
      have d4 : decide (need ≤ (n : Int)) = false := by simp; omega
      obtain rfl : r = false := by rw [← hr1]; simp; omega
      go_in
      go_wp2
      go_ret
      exact ⟨rfl, hb⟩
    ·
     have d3 : decide ((1 : Int) ≤ need) = false := by simp; omega
     obtain rfl : r = false := by rw [← hr1]; simp; omega
     go_in
     go_wp2
     go_ret
     exact ⟨rfl, hb⟩
   ·
    have d2 : decide ((n : Int) < Q) = false := by simp; omega
    obtain rfl : r = false := by rw [← hr1]; simp; omega
    go_in
    go_wp2
    go_ret
    exact ⟨rfl, hb⟩
  ·
   have d1 : decide ((n : Int) ≤ 8) = false := by simp; omega
   obtain rfl : r = false := by rw [← hr1]; simp; omega
   go_in
   go_wp2
   go_ret
   exact ⟨rfl, hb⟩
 ·
  have d0 : decide ((1 : Int) ≤ (n : Int)) = false := by simp; omega
  obtain rfl : r = false := by rw [← hr1]; simp; omega
  go_in
  go_wp2
  go_ret
  exact ⟨rfl, hb⟩
theorem yx (P Q G : Int) (bC oC : Nat) (cs : List Int) (cn cc : Nat) (hbig : cn < 1000000) (idx K : Int) (dG : Hid (ah P Q G = true)) (hn : Hid (cs.length = cn)) (hm : Hid (cs.all (aG P Q) = true)) (i0 : 0 ≤ idx) (i1 : idx < Q) (hK : Hid (qb P Q cs idx cs.length = K)) (w : World) (hv : Hid (Vars w)) (hC : Hid (Sl w (some ⟨bC, oC, none⟩) cs)) :
  Calls Tryz.prog 67 #[gv P Q G, .slice (some ⟨bC, oC, none⟩) cn cc, .int .i64 idx] w (Rt w (.int .i64 K)) := by
 obtain ⟨hp2, hp, hq3, vU⟩ := az dG.out
 have hQ : Q < 9223372036854775808 := by omega
 have hq : Q < 2305843009213693952 := by omega
 obtain ⟨w0, HW, bB, kC⟩ := st1 (aC P Q G) uR w
 have kV := mkV bB hv
 have lU := mkS bB hC
 have aL := iH w0
 clear hv hC
 go_in
 go_wp2_with fail
 rw [HW.out]
 have zc := kC.out _ aL
 go_wp2
 clear zc
 go_loopw [7, 8, 15] (fun y e i wr => ∃ k : Nat, k ≤ cn ∧ i = .int .i64 k ∧ y = .int .i64 (qb P Q cs idx k) ∧ e = .int .i64 (qg Q idx k) ∧ Hid (Below w0.heap.size w0 wr)) (fun _ _ i _ => cn - (intOf i).toNat)
 case atStart => exact ⟨0, by omega, rfl, rfl, rfl, aL⟩
 case round =>
  obtain ⟨k, hk, rfl, rfl, rfl, aB⟩ := hrel
  have hkm := mX (i := idx) hp2 (by omega) hm.out k (by rw [hn.out]; exact hk)
  obtain ⟨e0, e1⟩ := ic (i := idx) (show 2 ≤ Q by omega) k
  by_cases hlt : k < cn
  ·
   have hkl : k < cs.length := by rw [hn.out]; exact hlt
   obtain ⟨b, o, hA, hi⟩ := (lU.out _ aB).out k hkl
   cases hA
   have hcm := kU hm.out hkl
   have sk : qb P Q cs idx (k + 1) = qb P Q cs idx k * pw (cs.getD k 0) (qg Q idx k % Q) P % P := rfl
   have se : qg Q idx (k + 1) = qg Q idx k * idx % Q := rfl
   obtain ⟨x, hx⟩ : ∃ x, cs.getD k 0 = x := ⟨_, rfl⟩
   obtain ⟨a, ha⟩ : ∃ x, qb P Q cs idx k = x := ⟨_, rfl⟩
   obtain ⟨e, he⟩ : ∃ x, qg Q idx k = x := ⟨_, rfl⟩
   obtain ⟨v, vR⟩ : ∃ x', pw x (e % Q) P = x' := ⟨_, rfl⟩
   obtain ⟨u, hu⟩ : ∃ x', a * v % P = x' := ⟨_, rfl⟩
   obtain ⟨f, hf⟩ : ∃ x', e * idx % Q = x' := ⟨_, rfl⟩
   rw [hx] at hi hcm sk
   rw [ha] at hkm sk ⊢
   rw [he] at e0 e1 sk se ⊢
   rw [vR, hu] at sk
   rw [hf] at se
   have ck1 : Hid (iT P Q G [x] = 0) := aa (fV dG.out (by simp [hcm]))
   have mv : aG P Q v = true := by rw [← vR]; exact qX hp2 (by omega) (Int.emod_nonneg _ (by omega)) hcm
   have ck2 : Hid (iT P Q G [a, v] = 0) := aa (fV dG.out (by simp [hkm, mv]))
   have K8 := aa vR
   have HU := aa hu
   have HF := aa hf
   have SK := aa sk
   have SE := aa se
   clear hx ha he vR hu hf sk se hcm hkm mv hkl
   have zc := kC.out _ aB
   go_wp2_with fail
   clear zc
   refine gM kC aB (g_ P Q G x e v ck1 K8 (by omega) (by omega) _ (kV.out _ aB)) fun w1 bQ zc => ?_
   go_wp2_with fail
   clear zc
   refine gM kC bQ (yA P Q G a v u ck2 HU hQ _ (kV.out _ bQ)) fun w2 aK zc => ?_
   go_wp2_with fail
   refine (qD e idx Q f HF hq e0 e1 i0 i1 _).mono ?_
   rintro e9 w9 ⟨rfl, n9, rfl⟩
   have Gj := aa (ay aK.out n9)
   go_wp2
   go_roundw
   case rel => exact ⟨k + 1, by omega, by go_num, by rw [SK.out], by rw [SE.out], Gj⟩
   case measure => simp [intOf]; omega
  ·
   obtain rfl : k = cn := by omega
   have hkv := hK.out
   rw [hn.out] at hkv
   rw [hkv]
   clear hkv hkm e0 e1
   go_wp2
   go_ret
   exact ⟨rfl, qo bB aB⟩
theorem Kg (P Q G need : Int) (Cs : Option Addr) (cn cc : Nat) (Ks : Option Addr) (kn kc : Nat) (dG : Hid (ah P Q G = false)) (hQ : Q < 9223372036854775808) (w : World) (hv : Hid (Vars w)) :
  Calls Tryz.prog 31 #[gv P Q G, mO need Cs cn cc Ks kn kc] w (Rt w (.bool false)) := by
 obtain ⟨w0, HW, bB, kC⟩ := st2 (aC P Q G) qm (o7 need Cs cn cc Ks kn kc) uR w
 have kV := mkV bB hv
 have aL := iH w0
 clear hv
 go_in
 go_wp2_with fail
 rw [HW.out]
 have zc := kC.out _ aL
 go_wp2_with fail
 clear zc
 refine gM kC aL (aH P Q G false dG hQ _ (kV.out _ aL)) fun w1 bQ zc => ?_
 go_wp2
 go_ret
 exact ⟨rfl, qo bB bQ⟩
theorem Ke (P Q G need : Int) (Cs : Option Addr) (cn cc : Nat) (Ks : Option Addr) (kn kc : Nat) (dG : Hid (ah P Q G = true)) (HN : Hid (fI Q need kn = false)) (hQ : Q < 9223372036854775808) (w : World) (hv : Hid (Vars w)) :
  Calls Tryz.prog 31 #[gv P Q G, mO need Cs cn cc Ks kn kc] w (Rt w (.bool false)) := by
 obtain ⟨w0, HW, bB, kC⟩ := st2 (aC P Q G) qm (o7 need Cs cn cc Ks kn kc) uR w
 have kV := mkV bB hv
 have aL := iH w0
 clear hv
 go_in
 go_wp2_with fail
 rw [HW.out]
 have zc := kC.out _ aL
 go_wp2_with fail
 clear zc
 refine gM kC aL (aH P Q G true dG hQ _ (kV.out _ aL)) fun w1 bQ zc => ?_
 go_wp2_with fail
 clear zc
 refine gM kC bQ (fe P Q G need kn false HN _) fun w2 aK zc => ?_
 go_wp2
 go_ret
 exact ⟨rfl, qo bB aK⟩
theorem Kc (P Q G need : Int) (Cs : Option Addr) (cn cc : Nat) (Ks : Option Addr) (kn kc : Nat) (dG : Hid (ah P Q G = true)) (HN : Hid (fI Q need kn = true)) (hne : ¬ ((cn : Int) = need)) (hQ : Q < 9223372036854775808) (w : World) (hv : Hid (Vars w)) :
  Calls Tryz.prog 31 #[gv P Q G, mO need Cs cn cc Ks kn kc] w (Rt w (.bool false)) := by
 have dn : ((cn : Int) != need) = true := by simpa using hne
 obtain ⟨w0, HW, bB, kC⟩ := st2 (aC P Q G) qm (o7 need Cs cn cc Ks kn kc) uR w
 have kV := mkV bB hv
 have aL := iH w0
 clear hv
 go_in
 go_wp2_with fail
 rw [HW.out]
 have zc := kC.out _ aL
 go_wp2_with fail
 clear zc
 refine gM kC aL (aH P Q G true dG hQ _ (kV.out _ aL)) fun w1 bQ zc => ?_
 go_wp2_with fail
 clear zc
 refine gM kC bQ (fe P Q G need kn true HN _) fun w2 aK zc => ?_
 go_wp2
 go_ret
 exact ⟨rfl, qo bB aK⟩
theorem Kb (P Q G need : Int) (bC oC : Nat) (cs : List Int) (cn cc : Nat) (bK oK : Nat) (ks : List Int) (kn kc : Nat) (hcn : Hid (cs.length = cn)) (hkn : Hid (ks.length = kn)) (dG : Hid (ah P Q G = true)) (HN : Hid (fI Q need kn = true)) (hne : Hid ((cn : Int) = need)) (hpos : 0 < cn) (Dc : Int) (Ab : Hid (cs.getD 0 0 = Dc)) (h1 : (Dc == 1) = true) (hQ : Q < 9223372036854775808) (w : World) (hv : Hid (Vars w)) (hC : Hid (Sl w (some ⟨bC, oC, none⟩) cs)) (hK : Hid (Sl w (some ⟨bK, oK, none⟩) ks)) :
  Calls Tryz.prog 31 #[gv P Q G, mO need (some ⟨bC, oC, none⟩) cn cc (some ⟨bK, oK, none⟩) kn kc] w (Rt w (.bool false)) := by
 have dn : ((cn : Int) != need) = false := by simpa using hne.out
 obtain ⟨w0, HW, bB, kC⟩ := st2 (aC P Q G) qm (o7 need (some ⟨bC, oC, none⟩) cn cc (some ⟨bK, oK, none⟩) kn kc) uR w
 have kV := mkV bB hv
 have lU := mkS bB hC
 have rR := mkS bB hK
 have aL := iH w0
 clear hv hC hK
 go_in
 go_wp2_with fail
 rw [HW.out]
 have zc := kC.out _ aL
 go_wp2_with fail
 clear zc
 refine gM kC aL (aH P Q G true dG hQ _ (kV.out _ aL)) fun w1 bQ zc => ?_
 obtain ⟨b9, o9, vZ, hi9⟩ := (lU.out _ bQ).out 0 (by rw [hcn.out]; exact hpos)
 cases vZ
 rw [Ab.out, Nat.add_zero] at hi9
 have DJ := aa hi9
 clear hi9
 go_wp2_with fail
 clear zc
 refine gM kC bQ (fe P Q G need kn true HN _) fun w2 aK zc => ?_
 obtain ⟨b9, o9, vZ, hi9⟩ := (lU.out _ aK).out 0 (by rw [hcn.out]; exact hpos)
 cases vZ
 rw [Ab.out, Nat.add_zero] at hi9
 clear DJ
 go_wp2
 go_ret
 exact ⟨rfl, qo bB aK⟩
theorem Ka (P Q G need : Int) (bC oC : Nat) (cs : List Int) (cn cc : Nat) (bK oK : Nat) (ks : List Int) (kn kc : Nat) (hcn : Hid (cs.length = cn)) (hkn : Hid (ks.length = kn)) (dG : Hid (ah P Q G = true)) (HN : Hid (fI Q need kn = true)) (hne : Hid ((cn : Int) = need)) (hpos : 0 < cn) (Dc : Int) (Ab : Hid (cs.getD 0 0 = Dc)) (h1 : (Dc == 1) = false) (r : Bool) (hr : Hid ((cs.all (aG P Q) && qY P Q cs 0 ks) = r)) (hQ : Q < 9223372036854775808) (w : World) (hv : Hid (Vars w)) (hC : Hid (Sl w (some ⟨bC, oC, none⟩) cs)) (hK : Hid (Sl w (some ⟨bK, oK, none⟩) ks)) :
  Calls Tryz.prog 31 #[gv P Q G, mO need (some ⟨bC, oC, none⟩) cn cc (some ⟨bK, oK, none⟩) kn kc] w (Rt w (.bool r)) := by
 have dn : ((cn : Int) != need) = false := by simpa using hne.out
 obtain ⟨n1, n2, n3, n4, n5⟩ := bX HN.out
 have pq : cn < 1000000 := by have := hne.out; omega
 obtain ⟨w0, HW, bB, kC⟩ := st2 (aC P Q G) qm (o7 need (some ⟨bC, oC, none⟩) cn cc (some ⟨bK, oK, none⟩) kn kc) uR w
 have kV := mkV bB hv
 have lU := mkS bB hC
 have rR := mkS bB hK
 have aL := iH w0
 clear hv hC hK
 go_in
 go_wp2_with fail
 rw [HW.out]
 have zc := kC.out _ aL
 go_wp2_with fail
 clear zc
 refine gM kC aL (aH P Q G true dG hQ _ (kV.out _ aL)) fun w1 bQ zc => ?_
 obtain ⟨b9, o9, vZ, hi9⟩ := (lU.out _ bQ).out 0 (by rw [hcn.out]; exact hpos)
 cases vZ
 rw [Ab.out, Nat.add_zero] at hi9
 have DJ := aa hi9
 clear hi9
 go_wp2_with fail
 clear zc
 refine gM kC bQ (fe P Q G need kn true HN _) fun w2 aK zc => ?_
 obtain ⟨b9, o9, vZ, hi9⟩ := (lU.out _ aK).out 0 (by rw [hcn.out]; exact hpos)
 cases vZ
 rw [Ab.out, Nat.add_zero] at hi9
 clear DJ
 go_wp2
 clear zc
 clear hi9
 go_loopw [40] (fun i wr => ∃ k : Nat, k ≤ cn ∧ i = .int .i64 k ∧ Hid (cs.all (aG P Q) = (cs.drop k).all (aG P Q)) ∧ Hid (Below w0.heap.size w0 wr)) (fun i _ => cn - (intOf i).toNat)
 case atStart => exact ⟨0, by omega, rfl, aa rfl, aK⟩
 case round =>
  obtain ⟨k, hk, rfl, HR, aB⟩ := hrel
  by_cases hlt : k < cn
  ·
   have hkl : k < cs.length := by rw [hcn.out]; exact hlt
   obtain ⟨b, o, hA, hi⟩ := (lU.out _ aB).out k hkl
   cases hA
   cases tX : aG P Q (cs.getD k 0) with
   | true =>
    have HS : Hid (cs.all (aG P Q) = (cs.drop (k + 1)).all (aG P Q)) := aa (HR.out.trans (gq hkl tX))
    obtain ⟨x, hx⟩ : ∃ x, cs.getD k 0 = x := ⟨_, rfl⟩
    rw [hx] at hi tX
    have HM := aa tX
    clear hx tX HR hkl
    have zc := kC.out _ aB
    go_wp2_with fail
    clear zc
    refine gM kC aB (aO P Q G x true (aa (by rw [gK, dG.out, HM.out]; rfl)) hQ _ (kV.out _ aB)) fun w3 cu zc => ?_
    go_wp2
    go_roundw
    case rel => exact ⟨k + 1, by omega, by go_num, HS, cu⟩
    case measure => simp [intOf]; omega
   | false =>
    obtain rfl : r = false := by rw [← hr.out, HR.out, iy hkl tX]; rfl
    obtain ⟨x, hx⟩ : ∃ x, cs.getD k 0 = x := ⟨_, rfl⟩
    rw [hx] at hi tX
    have HM := aa tX
    clear hx tX HR hkl
    have zc := kC.out _ aB
    go_wp2_with fail
    clear zc
    refine gM kC aB (aO P Q G x false (aa (by rw [gK, dG.out, HM.out]; rfl)) hQ _ (kV.out _ aB)) fun w3 cu zc => ?_
    go_wp2
    go_ret
    exact ⟨rfl, qo bB cu⟩
  ·
   obtain rfl : k = cn := by omega
   have iV : Hid (cs.all (aG P Q) = true) := aa (by rw [HR.out, ← hcn.out]; simp)
   have HR2 : Hid (qY P Q cs 0 ks = r) := aa (by rw [← hr.out, iV.out]; rfl)
   clear HR
   have zc := kC.out _ aB
   go_wp2
   clear zc
   go_loopw [52] (fun i wr => ∃ j : Nat, j ≤ kn ∧ i = .int .i64 j ∧ Hid (qY P Q cs j (ks.drop j) = r) ∧ Hid (Below w0.heap.size w0 wr)) (fun i _ => kn - (intOf i).toNat)
   case atStart => exact ⟨0, by omega, rfl, HR2, aB⟩
   case round =>
    obtain ⟨j, hj, rfl, Dy, uS⟩ := hrel
    by_cases kK : j < kn
    ·
     have hjl : j < ks.length := by rw [hkn.out]; exact kK
     obtain ⟨b, o, hA, hi⟩ := (rR.out _ uS).out j hjl
     cases hA
     have hst := tK (P := P) (Q := Q) (cs := cs) hjl
     obtain ⟨y, hy⟩ : ∃ x, ks.getD j 0 = x := ⟨_, rfl⟩
     obtain ⟨K, IW⟩ : ∃ x, qb P Q cs ((j : Int) + 1) cs.length = x := ⟨_, rfl⟩
     rw [hy] at hi hst
     rw [IW] at hst
     have Nb := aa IW
     have dw : IntKind.i64.wrap ((j : Int) + 1) = (j : Int) + 1 := IntWalk.i64_in _ (by omega)
     have Vt : wrap64 ((j : Int) + 1) = (j : Int) + 1 := IntWalk.wrap64_in _ (by omega)
     clear hy IW
     cases hyk : (y == K) with
     | true =>
      have O1 : Hid (qY P Q cs (j + 1) (ks.drop (j + 1)) = r) := aa (by rw [← Dy.out, hst, hyk]; rfl)
      have OA : (y != K) = false := by simpa using hyk
      clear hst Dy hjl hyk
      have zc := kC.out _ uS
      go_wp2_with fail
      clear zc
      refine gM kC uS (yx P Q G bC oC cs k cc pq ((j : Int) + 1) K dG hcn iV (by omega) (by omega) Nb _ (kV.out _ uS) (lU.out _ uS)) fun w3 cu zc => ?_
      go_wp2
      go_roundw
      case rel => exact ⟨j + 1, by omega, by go_num, O1, cu⟩
      case measure => simp [intOf]; omega
     | false =>
      obtain rfl : r = false := by rw [← Dy.out, hst, hyk]; rfl
      have OA : (y != K) = true := by simpa using hyk
      clear hst Dy hjl hyk
      have zc := kC.out _ uS
      go_wp2_with fail
      clear zc
      refine gM kC uS (yx P Q G bC oC cs k cc pq ((j : Int) + 1) K dG hcn iV (by omega) (by omega) Nb _ (kV.out _ uS) (lU.out _ uS)) fun w3 cu zc => ?_
      go_wp2
      go_ret
      exact ⟨rfl, qo bB cu⟩
    ·
     obtain rfl : j = kn := by omega
     obtain rfl : r = true := by rw [← Dy.out, ← hkn.out, List.drop_length]; rfl
     clear Dy
     have zc := kC.out _ uS
     go_wp2
     go_ret
     exact ⟨rfl, qo bB uS⟩
theorem xJ (P Q G need : Int) (Cs : Option Addr) (cs : List Int) (cn cc : Nat) (Ks : Option Addr) (ks : List Int) (kn kc : Nat) (hcn : Hid (cs.length = cn)) (hkn : Hid (ks.length = kn)) (r : Bool) (hr : Hid (Ay P Q G need cs ks = r)) (hQ : Q < 9223372036854775808) (w : World) (hv : Hid (Vars w)) (hC : Hid (Sl w Cs cs)) (hK : Hid (Sl w Ks ks)) :
  Calls Tryz.prog 31 #[gv P Q G, mO need Cs cn cc Ks kn kc] w (Rt w (.bool r)) := by
 have hr1 := hr.out
 unfold Ay at hr1
 rw [hkn.out, hcn.out] at hr1
 cases h1 : ah P Q G with
 | false =>
  obtain rfl : r = false := by rw [← hr1, h1]; rfl
  exact Kg P Q G need Cs cn cc Ks kn kc (aa h1) hQ w hv
 | true =>
  cases h2 : fI Q need kn with
  | false =>
   obtain rfl : r = false := by rw [← hr1, h1, h2]; rfl
   exact Ke P Q G need Cs cn cc Ks kn kc (aa h1) (aa h2) hQ w hv
  | true =>
   by_cases h3 : (cn : Int) = need
   ·
    obtain ⟨n1, n2, n3, n4, n5⟩ := bX h2
    have hpos : 0 < cn := by omega
    obtain ⟨bC, oC, rfl⟩ := jX hC.out (by rw [hcn.out]; exact hpos)
    obtain ⟨bK, oK, rfl⟩ := jX hK.out (by rw [hkn.out]; exact n1)
    cases h4 : (cs.getD 0 0 == 1) with
    | true =>
     obtain rfl : r = false := by rw [← hr1, h1, h2, decide_eq_true h3, h4]; rfl
     exact Kb P Q G need bC oC cs cn cc bK oK ks kn kc hcn hkn (aa h1) (aa h2) (aa h3) hpos _ (aa rfl) h4 hQ w hv hC hK
    | false => exact Ka P Q G need bC oC cs cn cc bK oK ks kn kc hcn hkn (aa h1) (aa h2) (aa h3) hpos _ (aa rfl) h4 r (aa (by rw [← hr1, h1, h2, decide_eq_true h3, h4]; rfl)) hQ w hv hC hK
   ·
    obtain rfl : r = false := by rw [← hr1, h1, h2, decide_eq_false h3]; rfl
    exact Kc P Q G need Cs cn cc Ks kn kc (aa h1) (aa h2) h3 hQ w hv
theorem BI (q : Int) (A : Option Addr) (xs : List Int) (n c m : Nat) (h2 : q < 2305843009213693952) (hp : Hid (dR q = true)) (hn : Hid (xs.length = n)) (hnc : n ≤ c) (hm : n ≤ m) (hbig : n ≤ 1000) (hs : Hid (xs.all (bf q) = true)) (w : World) (hv : Hid (Vars w)) (hS : Hid (Sl w A xs)) :
  Calls Tryz.prog 25 #[.int .i64 q, .slice A n c] w (fun e w' => ∃ A c L, e = .returned (.tuple #[.slice A L.length c, .int .i64 0]) ∧ Sl w' A L ∧ Pl q m L ∧ (∀ X, Cg q (pv L X) (pv xs X)) ∧ Below w.heap.size w w') := by
 have HB0 : Hid (Below w.heap.size w w) := aa (Below.refl _ _)
 have d0 : decide ((1000 : Int) < (n : Int)) = false := by simp; omega
 go_in
 go_wp2_with fail
 refine (jJ q h2 hp _ hv).mono ?_
 rintro e w2 ⟨rfl, hb2⟩
 have HB2 := aa (ag HB0.out hb2)
 clear hb2
 go_wp2_with fail
 refine (dD q A xs n c true hs hn (aa (by omega)) _ (aa (hS.out.below HB2.out))).mono ?_
 rintro e w3 ⟨rfl, hb3⟩
 have HB3 := aa (ag HB2.out hb3)
 clear hb3
 go_wp2_with fail
 refine (gF q A xs n c m hn hnc hm (by omega) hs _ (aa (hS.out.below HB3.out))).mono ?_
 rintro e w4 ⟨A2, c2, L, rfl, hL, hP, hC, hb4⟩
 have HL := aa hL
 have TQ := aa hP
 have UB := aa hC
 have yT := ag HB3.out hb4
 clear hb4 hL hP hC
 go_wp2
 go_ret2
 exact ⟨A2, c2, L, rfl, HL.out, TQ.out, UB.out, yT⟩
theorem bH : (Tryz.prog.info? 32).map (·.size) = some 3 := by kernel_rfl
theorem bW {P : Program} {fn : Func} {p q r s : Tmp} {ty ty2 : TypeId} (h : fn.results = #[.cell p ty, .tmp q, .cell r ty2, .tmp s]) (tmps : Array Value) (w : World) (a b : Addr) (v u x y : Value)
  (hp : tmps.getD p undef = .pointer (some a)) (hq : tmps.getD q undef = u) (hr : tmps.getD r undef = .pointer (some b)) (hs : tmps.getD s undef = y) (hl : (loadVar ty a).run P w = .ok v w) (hl2 : (loadVar ty2 b).run P w = .ok x w) : (results fn tmps).run P w = .ok (.tuple #[v, u, x, y]) w := by
 have hp' : tmps[p]?.getD undef = .pointer (some a) := by simpa using hp
 have hq' : tmps[q]?.getD undef = u := by simpa using hq
 have hr' : tmps[r]?.getD undef = .pointer (some b) := by simpa using hr
 have hs' : tmps[s]?.getD undef = y := by simpa using hs
 simp [results, h, hp', hq', hr', hs', asAddr, hl, hl2]
abbrev zK (e : Int) : Value := .tuple #[mO 0 none 0 0 none 0 0, .slice none 0 0, .agg (aJ (aT 32) 0), .int .i64 e]
abbrev oU (need : Int) (v u : Value) : Array Value := #[.int .i64 need, v, u]
abbrev lJ : Array Value := oU 0 (.slice none 0 0) (.slice none 0 0)
theorem fB (need : Int) {v u : Value} (hv : v.oneCell' = true) (hu : u.oneCell' = true) : (oU need v u).all (·.oneCell') = true := by
 simp only [oU, List.all_toArray, List.all_cons, List.all_nil, hv, hu]
 rfl
theorem gJ (x : Int) (w : World) : Calls Tryz.prog 19 #[.int .i64 x] w (Rt w (zK x)) := by
 obtain ⟨W, hW⟩ : ∃ W, (w.alloc (.cells lJ 32)).alloc (.cells #[.int .u8 0, .int .u8 0, .int .u8 0, .int .u8 0, .int .u8 0, .int .u8 0, .int .u8 0, .int .u8 0, .int .u8 0, .int .u8 0, .int .u8 0, .int .u8 0, .int .u8 0, .int .u8 0, .int .u8 0, .int .u8 0, .int .u8 0, .int .u8 0, .int .u8 0, .int .u8 0, .int .u8 0, .int .u8 0, .int .u8 0, .int .u8 0, .int .u8 0, .int .u8 0, .int .u8 0, .int .u8 0, .int .u8 0, .int .u8 0, .int .u8 0, .int .u8 0, .int .i64 0] 27) = W := ⟨_, rfl⟩
 have jr : Hid (Below w.heap.size w W) := aa (by rw [← hW]; exact aI (Below.refl _ _))
 have HT0 : Hid (W.heap[w.heap.size]? = some (.cells lJ 32 (0, 0))) := aa (by rw [← hW]; exact heap_alloc2_old _ _ _)
 have mI : Hid (aQ W (w.heap.size + 1) (aT 32) 0) := aa (by rw [← hW, Jy]; exact heap_alloc2_new _ _ _)
 have HW := aa hW
 clear hW
 go_in
 go_upto_region 1 with (fail)
 rw [HW.out]
 clear HW
 have HR1 : Hid (aQ (W.setRow w.heap.size lJ) (w.heap.size + 1) (aT 32) 0) := aa ((setRow_other _ _ _ _ (by omega)).trans mI.out)
 have HB1 := aa (aj (cs := lJ) jr.out (Nat.le_refl _))
 go_wp2_with (first
  | ((with_reducible show wpList _ _ _ (⟨some 7, _, _, _, _, _⟩ :: _) _ _); refine dB rfl 27 _ rfl _ ry ?_)
  | ((with_reducible show wpList _ _ _ (⟨none, Op.store _ (Operand.tmp 2) _, _, _, _, _⟩ :: _) _ _); refine wpList_store_row rfl 32 _ _ rfl w.heap.size lJ rfl rfl _ _ HT0.out bH rfl (fB 0 rfl rfl) ?_)
  | ((with_reducible show wpList _ _ _ (⟨none, Op.store _ (Operand.tmp 4) _, _, _, _, _⟩ :: _) _ _); refine wpList_store_row rfl 27 _ _ rfl (w.heap.size + 1) (aJ (aT 32) 0) rfl rfl _ _ HR1.out (ai rfl) rfl (aR _ _) ?_))
 have HRR : Hid (aQ ((W.setRow w.heap.size lJ).setRow (w.heap.size + 1) (aJ (aT 32) 0)) (w.heap.size + 1) (aT 32) 0) := aa HR1.out.setRow
 have OL : Hid (((W.setRow w.heap.size lJ).setRow (w.heap.size + 1) (aJ (aT 32) 0)).heap[w.heap.size]? = some (.cells lJ 32 (0, 0))) := aa ((setRow_other _ _ _ _ (by omega)).trans (setRow_heap _ _ _ _ _ _ HT0.out))
 have oP := aj (cs := aJ (aT 32) 0) HB1.out (Nat.le_succ _)
 exact bodyPost_ret (v := zK x) (bW (p := 2) (q := 3) (r := 4) (s := 5) (ty := 32) (ty2 := 27) rfl _ _ ⟨w.heap.size, 0, none⟩ ⟨w.heap.size + 1, 0, none⟩ _ _ _ _ rfl rfl rfl rfl (run_loadVar_row _ _ _ _ _ _ _ OL.out Tryz.underlying32 rfl bH) (run_loadVar_row _ _ _ _ _ _ _ HRR.out Tryz.underlying27 rfl (ai rfl))) rfl ⟨rfl, oP⟩
theorem gB (P Q G need : Int) (n : Nat) (r : Bool) (hr : Hid (fI Q need n = r)) (w : World) :
  Calls Tryz.prog 26 #[gv P Q G, .int .i64 need, .int .i64 n] w (Rt w (.bool r)) := by
 have HX := aa (aM w P Q G)
 obtain ⟨c0, c1, c2⟩ := HX.out
 have hb := af w (aC P Q G)
 have hr1 := hr.out
 unfold fI at hr1
 by_cases h0 : 1 ≤ n
 ·
  have d0 : decide ((1 : Int) ≤ (n : Int)) = true := by simp; omega
  by_cases h1 : n ≤ 8
  ·
   have d1 : decide ((n : Int) ≤ 8) = true := by simp; omega
   by_cases h2 : (n : Int) < Q
   ·
    have d2 : decide ((n : Int) < Q) = true := by simp; omega
    by_cases h3 : 1 ≤ need
    ·
     have d3 : decide ((1 : Int) ≤ need) = true := by simp; omega
     by_cases h4 : need ≤ n
     ·
      have d4 : decide (need ≤ (n : Int)) = true := by simp; omega
      obtain rfl : r = true := by rw [← hr1]; simp; omega
      go_in
      go_wp2
      go_ret
      exact ⟨rfl, hb⟩
     ·
      have d4 : decide (need ≤ (n : Int)) = false := by simp; omega
      obtain rfl : r = false := by rw [← hr1]; simp; omega
      go_in
      go_wp2
      go_ret
      exact ⟨rfl, hb⟩
    ·
     have d3 : decide ((1 : Int) ≤ need) = false := by simp; omega
     obtain rfl : r = false := by rw [← hr1]; simp; omega
     go_in
     go_wp2
     go_ret
     exact ⟨rfl, hb⟩
   ·
    have d2 : decide ((n : Int) < Q) = false := by simp; omega
    obtain rfl : r = false := by rw [← hr1]; simp; omega
    go_in
    go_wp2
    go_ret
    exact ⟨rfl, hb⟩
  ·
   have d1 : decide ((n : Int) ≤ 8) = false := by simp; omega
   obtain rfl : r = false := by rw [← hr1]; simp; omega
   go_in
   go_wp2
   go_ret
   exact ⟨rfl, hb⟩
 ·
  have d0 : decide ((1 : Int) ≤ (n : Int)) = false := by simp; omega
  obtain rfl : r = false := by rw [← hr1]; simp; omega
  go_in
  go_wp2
  go_ret
  exact ⟨rfl, hb⟩
theorem yw {P Q : Int} {cs : List Int} (hP : 2 ≤ P) (hQ : 1 ≤ Q) (h : cs.all (aG P Q) = true) : ∀ (ks : List Int) (i : Nat), qY P Q cs i ks = true → ks.all (aG P Q) = true
 | [], _, _ => rfl
 | y :: t, i, hk => by
  rw [qY] at hk
  simp only [Bool.and_eq_true, beq_iff_eq] at hk
  rw [List.all_cons, yw hP hQ h t (i + 1) hk.2, hk.1, mX hP hQ h _ (Nat.le_refl _)]; rfl
theorem bM (P Q G : Int) (A : Option Addr) (xs : List Int) (n c : Nat) (r : Bool) (hr : Hid (xs.all (aG P Q) = r)) (hn : Hid (xs.length = n)) (hbig : n < 1000000) (h1 : P < 2305843009213693952) (DX : 0 ≤ Q) (hQ : Q < 9223372036854775808) (w : World) (Ms : Hid (Sl w A xs)) :
  Calls Tryz.prog 27 #[gv P Q G, .slice A n c] w (Rt w (.bool r)) := by
 obtain ⟨w0, HW, bB, kC⟩ := st1 (aC P Q G) uR w
 have lU := mkS bB Ms
 have aL := iH w0
 clear Ms
 go_in
 go_wp2_with fail
 rw [HW.out]
 have zc := kC.out _ aL
 go_wp2
 clear zc
 go_loopw [5] (fun i wr => ∃ k : Nat, k ≤ n ∧ i = .int .i64 k ∧ Hid (xs.all (aG P Q) = (xs.drop k).all (aG P Q)) ∧ Hid (Below w0.heap.size w0 wr)) (fun i _ => n - (intOf i).toNat)
 case atStart => exact ⟨0, by omega, rfl, aa rfl, aL⟩
 case round =>
  obtain ⟨k, hk, rfl, HR, aB⟩ := hrel
  by_cases hlt : k < n
  ·
   have hkl : k < xs.length := by rw [hn.out]; exact hlt
   obtain ⟨b, o, hA, hi⟩ := (lU.out _ aB).out k hkl
   subst hA
   cases tX : aG P Q (xs.getD k 0) with
   | true =>
    have HS : Hid (xs.all (aG P Q) = (xs.drop (k + 1)).all (aG P Q)) := aa (HR.out.trans (gq hkl tX))
    obtain ⟨x, hx⟩ : ∃ x, xs.getD k 0 = x := ⟨_, rfl⟩
    rw [hx] at hi tX
    have kI := NH (p := ⟨b, o + k, none⟩) (v := .int .i64 x) hi
    have HM := aa tX
    clear hx tX HR hkl hi
    have lF := iH wr
    have zc := kC.out _ aB
    have uV := kI.out _ lF
    go_wp2_with fail
    clear zc uV
    have hS1 := aa (show ∀ u1 u2 : World, (Hid (Below w0.heap.size w0 u1) ∧ Hid (Below wr.heap.size wr u1)) → Below u1.heap.size u1 u2 → ((u2.cell? ⟨w.heap.size, 0, none⟩ = some (.int .i64 P) ∧ u2.cell? ⟨w.heap.size, 1, none⟩ = some (.int .i64 Q) ∧ u2.cell? ⟨w.heap.size, 2, none⟩ = some (.int .i64 G)) ∧ (u2.cell? ⟨b, o + k, none⟩ = some (.int .i64 x)) ∧ Hid (Below w0.heap.size w0 u2) ∧ Hid (Below wr.heap.size wr u2)) from fun u1 u2 h1 h2 => by
     obtain ⟨q0, q1⟩ := h1
     have r0 := yJ q0 h2
     have r1 := yJ q1 h2
     exact ⟨kC.out _ r0, kI.out _ r1, r0, r1⟩)
    have HR1 := aa (show Hid (Below w0.heap.size w0 wr) ∧ Hid (Below wr.heap.size wr wr) from ⟨aB, lF⟩)
    go_region_held3 (fun w' => (w'.cell? ⟨w.heap.size, 0, none⟩ = some (.int .i64 P) ∧ w'.cell? ⟨w.heap.size, 1, none⟩ = some (.int .i64 Q) ∧ w'.cell? ⟨w.heap.size, 2, none⟩ = some (.int .i64 G)) ∧ (w'.cell? ⟨b, o + k, none⟩ = some (.int .i64 x)) ∧ Hid (Below w0.heap.size w0 w') ∧ Hid (Below wr.heap.size wr w'))
     (first | exact hS1.out _ _ HR1.out ((Below.refl _ _).drew) | (exact hS1.out _ _ (by go_split_ands; exact ⟨(by assumption), (by assumption)⟩) gL) | go_keep)
     ((first
      | (go_at_call 65; (with_reducible refine (l8 P Q G x true HM h1 DX hQ _).mono ?_); rintro e wA ⟨rfl, gL⟩)))
    rename_i hHeld
    obtain ⟨-, -, uL, DD⟩ := hHeld
    clear hS1 HR1
    have zc := kC.out _ uL
    have uV := kI.out _ DD
    go_wp2
    go_roundw
    case rel => exact ⟨k + 1, by omega, by go_num, HS, uL⟩
    case measure => simp only [intOf]; omega
   | false =>
    obtain rfl : r = false := by rw [← hr.out, HR.out]; exact iy hkl tX
    obtain ⟨x, hx⟩ : ∃ x, xs.getD k 0 = x := ⟨_, rfl⟩
    rw [hx] at hi tX
    have kI := NH (p := ⟨b, o + k, none⟩) (v := .int .i64 x) hi
    have HM := aa tX
    clear hx tX HR hkl hi
    have lF := iH wr
    have zc := kC.out _ aB
    have uV := kI.out _ lF
    go_wp2_with fail
    clear zc uV
    have hS1 := aa (show ∀ u1 u2 : World, (Hid (Below w0.heap.size w0 u1) ∧ Hid (Below wr.heap.size wr u1)) → Below u1.heap.size u1 u2 → ((u2.cell? ⟨w.heap.size, 0, none⟩ = some (.int .i64 P) ∧ u2.cell? ⟨w.heap.size, 1, none⟩ = some (.int .i64 Q) ∧ u2.cell? ⟨w.heap.size, 2, none⟩ = some (.int .i64 G)) ∧ (u2.cell? ⟨b, o + k, none⟩ = some (.int .i64 x)) ∧ Hid (Below w0.heap.size w0 u2) ∧ Hid (Below wr.heap.size wr u2)) from fun u1 u2 h1 h2 => by
     obtain ⟨q0, q1⟩ := h1
     have r0 := yJ q0 h2
     have r1 := yJ q1 h2
     exact ⟨kC.out _ r0, kI.out _ r1, r0, r1⟩)
    have HR1 := aa (show Hid (Below w0.heap.size w0 wr) ∧ Hid (Below wr.heap.size wr wr) from ⟨aB, lF⟩)
    go_region_held3 (fun w' => (w'.cell? ⟨w.heap.size, 0, none⟩ = some (.int .i64 P) ∧ w'.cell? ⟨w.heap.size, 1, none⟩ = some (.int .i64 Q) ∧ w'.cell? ⟨w.heap.size, 2, none⟩ = some (.int .i64 G)) ∧ (w'.cell? ⟨b, o + k, none⟩ = some (.int .i64 x)) ∧ Hid (Below w0.heap.size w0 w') ∧ Hid (Below wr.heap.size wr w'))
     (first | exact hS1.out _ _ HR1.out ((Below.refl _ _).drew) | (exact hS1.out _ _ (by go_split_ands; exact ⟨(by assumption), (by assumption)⟩) gL) | go_keep)
     ((first
      | (go_at_call 65; (with_reducible refine (l8 P Q G x false HM h1 DX hQ _).mono ?_); rintro e wA ⟨rfl, gL⟩)))
    rename_i hHeld
    obtain ⟨-, -, uL, DD⟩ := hHeld
    clear hS1 HR1
    have zc := kC.out _ uL
    have uV := kI.out _ DD
    go_wp2
    go_ret
    exact ⟨rfl, qo bB uL⟩
  ·
   obtain rfl : k = n := by omega
   obtain rfl : r = true := by rw [← hr.out, HR.out, ← hn.out]; simp
   clear HR
   have zc := kC.out _ aB
   go_wp2
   go_ret
   exact ⟨rfl, qo bB aB⟩
theorem Ht (P Q G need : Int) (Cs : Option Addr) (cn cc : Nat) (Ks : Option Addr) (kn kc : Nat) (dG : Hid (ah P Q G = false)) (hQ : Q < 9223372036854775808) (w : World) :
  Calls Tryz.prog 8 #[gv P Q G, mO need Cs cn cc Ks kn kc] w (Rt w (.bool false)) := by
 obtain ⟨w0, HW, bB, kC⟩ := st2 (aC P Q G) qm (o7 need Cs cn cc Ks kn kc) uR w
 have aL := iH w0
 go_in
 go_wp2_with fail
 rw [HW.out]
 have zc := kC.out _ aL
 go_wp2_with fail
 clear zc
 refine gM kC aL (bL P Q G false dG hQ _) fun w1 bQ zc => ?_
 go_wp2
 go_ret
 exact ⟨rfl, qo bB bQ⟩
theorem Hr (P Q G need : Int) (Cs : Option Addr) (cn cc : Nat) (Ks : Option Addr) (kn kc : Nat) (dG : Hid (ah P Q G = true)) (HN : Hid (fI Q need kn = false)) (hQ : Q < 9223372036854775808) (w : World) :
  Calls Tryz.prog 8 #[gv P Q G, mO need Cs cn cc Ks kn kc] w (Rt w (.bool false)) := by
 obtain ⟨w0, HW, bB, kC⟩ := st2 (aC P Q G) qm (o7 need Cs cn cc Ks kn kc) uR w
 have aL := iH w0
 go_in
 go_wp2_with fail
 rw [HW.out]
 have zc := kC.out _ aL
 go_wp2_with fail
 clear zc
 refine gM kC aL (bL P Q G true dG hQ _) fun w1 bQ zc => ?_
 go_wp2_with fail
 clear zc
 refine gM kC bQ (gB P Q G need kn false HN _) fun w2 aK zc => ?_
 go_wp2
 go_ret
 exact ⟨rfl, qo bB aK⟩
theorem Hq (P Q G need : Int) (Cs : Option Addr) (cn cc : Nat) (Ks : Option Addr) (kn kc : Nat) (dG : Hid (ah P Q G = true)) (HN : Hid (fI Q need kn = true)) (hne : ¬ ((cn : Int) = need)) (hQ : Q < 9223372036854775808) (w : World) :
  Calls Tryz.prog 8 #[gv P Q G, mO need Cs cn cc Ks kn kc] w (Rt w (.bool false)) := by
 have dn : ((cn : Int) != need) = true := by simpa using hne
 obtain ⟨w0, HW, bB, kC⟩ := st2 (aC P Q G) qm (o7 need Cs cn cc Ks kn kc) uR w
 have aL := iH w0
 go_in
 go_wp2_with fail
 rw [HW.out]
 have zc := kC.out _ aL
 go_wp2_with fail
 clear zc
 refine gM kC aL (bL P Q G true dG hQ _) fun w1 bQ zc => ?_
 go_wp2_with fail
 clear zc
 refine gM kC bQ (gB P Q G need kn true HN _) fun w2 aK zc => ?_
 go_wp2
 go_ret
 exact ⟨rfl, qo bB aK⟩
theorem Ho (P Q G need : Int) (bC oC : Nat) (cs : List Int) (cn cc : Nat) (bK oK : Nat) (ks : List Int) (kn kc : Nat) (hcn : Hid (cs.length = cn)) (hkn : Hid (ks.length = kn)) (dG : Hid (ah P Q G = true)) (HN : Hid (fI Q need kn = true)) (hne : Hid ((cn : Int) = need)) (hpos : 0 < cn) (hall : Hid (cs.all (aG P Q) = false)) (hQ : Q < 9223372036854775808) (w : World) (hC : Hid (Sl w (some ⟨bC, oC, none⟩) cs)) (hK : Hid (Sl w (some ⟨bK, oK, none⟩) ks)) :
  Calls Tryz.prog 8 #[gv P Q G, mO need (some ⟨bC, oC, none⟩) cn cc (some ⟨bK, oK, none⟩) kn kc] w (Rt w (.bool false)) := by
 have dn : ((cn : Int) != need) = false := by simpa using hne.out
 obtain ⟨hp2, hp, hq3, vU⟩ := az dG.out
 obtain ⟨n1, n2, n3, n4, n5⟩ := bX HN.out
 have pq : cn < 1000000 := by have := hne.out; omega
 obtain ⟨w0, HW, bB, kC⟩ := st2 (aC P Q G) qm (o7 need (some ⟨bC, oC, none⟩) cn cc (some ⟨bK, oK, none⟩) kn kc) uR w
 have lU := mkS bB hC
 have rR := mkS bB hK
 have aL := iH w0
 clear hC hK
 go_in
 go_wp2_with fail
 rw [HW.out]
 have zc := kC.out _ aL
 go_wp2_with fail
 clear zc
 refine gM kC aL (bL P Q G true dG hQ _) fun w1 bQ zc => ?_
 go_wp2_with fail
 clear zc
 refine gM kC bQ (gB P Q G need kn true HN _) fun w2 aK zc => ?_
 go_wp2_with fail
 clear zc
 refine gM kC aK (bM P Q G (some ⟨bC, oC, none⟩) cs cn cc false hall hcn pq hp (by omega) hQ _ (lU.out _ aK)) fun w3 cu zc => ?_
 go_wp2
 go_ret
 exact ⟨rfl, qo bB cu⟩
theorem Hl (P Q G need : Int) (bC oC : Nat) (cs : List Int) (cn cc : Nat) (bK oK : Nat) (ks : List Int) (kn kc : Nat) (hcn : Hid (cs.length = cn)) (hkn : Hid (ks.length = kn)) (dG : Hid (ah P Q G = true)) (HN : Hid (fI Q need kn = true)) (hne : Hid ((cn : Int) = need)) (hpos : 0 < cn) (hall : Hid (cs.all (aG P Q) = true)) (Co : Hid (ks.all (aG P Q) = false)) (hQ : Q < 9223372036854775808) (w : World) (hC : Hid (Sl w (some ⟨bC, oC, none⟩) cs)) (hK : Hid (Sl w (some ⟨bK, oK, none⟩) ks)) :
  Calls Tryz.prog 8 #[gv P Q G, mO need (some ⟨bC, oC, none⟩) cn cc (some ⟨bK, oK, none⟩) kn kc] w (Rt w (.bool false)) := by
 have dn : ((cn : Int) != need) = false := by simpa using hne.out
 obtain ⟨hp2, hp, hq3, vU⟩ := az dG.out
 obtain ⟨n1, n2, n3, n4, n5⟩ := bX HN.out
 have pq : cn < 1000000 := by have := hne.out; omega
 obtain ⟨w0, HW, bB, kC⟩ := st2 (aC P Q G) qm (o7 need (some ⟨bC, oC, none⟩) cn cc (some ⟨bK, oK, none⟩) kn kc) uR w
 have lU := mkS bB hC
 have rR := mkS bB hK
 have aL := iH w0
 clear hC hK
 go_in
 go_wp2_with fail
 rw [HW.out]
 have zc := kC.out _ aL
 go_wp2_with fail
 clear zc
 refine gM kC aL (bL P Q G true dG hQ _) fun w1 bQ zc => ?_
 go_wp2_with fail
 clear zc
 refine gM kC bQ (gB P Q G need kn true HN _) fun w2 aK zc => ?_
 go_wp2_with fail
 clear zc
 refine gM kC aK (bM P Q G (some ⟨bC, oC, none⟩) cs cn cc true hall hcn pq hp (by omega) hQ _ (lU.out _ aK)) fun w3 cu zc => ?_
 go_wp2_with fail
 clear zc
 refine gM kC cu (bM P Q G (some ⟨bK, oK, none⟩) ks kn kc false Co hkn (by omega) hp (by omega) hQ _ (rR.out _ cu)) fun w4 lZ zc => ?_
 go_wp2
 go_ret
 exact ⟨rfl, qo bB lZ⟩
theorem Hg (P Q G need : Int) (bC oC : Nat) (cs : List Int) (cn cc : Nat) (bK oK : Nat) (ks : List Int) (kn kc : Nat) (hcn : Hid (cs.length = cn)) (hkn : Hid (ks.length = kn)) (dG : Hid (ah P Q G = true)) (HN : Hid (fI Q need kn = true)) (hne : Hid ((cn : Int) = need)) (hpos : 0 < cn) (hall : Hid (cs.all (aG P Q) = true)) (Co : Hid (ks.all (aG P Q) = true)) (Dc : Int) (Ab : Hid (cs.getD 0 0 = Dc)) (h1 : (Dc == 1) = true) (hQ : Q < 9223372036854775808) (w : World) (hC : Hid (Sl w (some ⟨bC, oC, none⟩) cs)) (hK : Hid (Sl w (some ⟨bK, oK, none⟩) ks)) :
  Calls Tryz.prog 8 #[gv P Q G, mO need (some ⟨bC, oC, none⟩) cn cc (some ⟨bK, oK, none⟩) kn kc] w (Rt w (.bool false)) := by
 have dn : ((cn : Int) != need) = false := by simpa using hne.out
 obtain ⟨hp2, hp, hq3, vU⟩ := az dG.out
 obtain ⟨n1, n2, n3, n4, n5⟩ := bX HN.out
 have pq : cn < 1000000 := by have := hne.out; omega
 obtain ⟨w0, HW, bB, kC⟩ := st2 (aC P Q G) qm (o7 need (some ⟨bC, oC, none⟩) cn cc (some ⟨bK, oK, none⟩) kn kc) uR w
 have lU := mkS bB hC
 have rR := mkS bB hK
 have aL := iH w0
 clear hC hK
 go_in
 go_wp2_with fail
 rw [HW.out]
 have zc := kC.out _ aL
 go_wp2_with fail
 clear zc
 refine gM kC aL (bL P Q G true dG hQ _) fun w1 bQ zc => ?_
 go_wp2_with fail
 clear zc
 refine gM kC bQ (gB P Q G need kn true HN _) fun w2 aK zc => ?_
 go_wp2_with fail
 clear zc
 refine gM kC aK (bM P Q G (some ⟨bC, oC, none⟩) cs cn cc true hall hcn pq hp (by omega) hQ _ (lU.out _ aK)) fun w3 cu zc => ?_
 go_wp2_with fail
 clear zc
 refine gM kC cu (bM P Q G (some ⟨bK, oK, none⟩) ks kn kc true Co hkn (by omega) hp (by omega) hQ _ (rR.out _ cu)) fun w4 lZ zc => ?_
 obtain ⟨b9, o9, vZ, hi9⟩ := (lU.out _ lZ).out 0 (by rw [hcn.out]; exact hpos)
 cases vZ
 rw [Ab.out, Nat.add_zero] at hi9
 go_wp2
 go_ret
 exact ⟨rfl, qo bB lZ⟩
theorem uo {j n : Nat} (h : j < n) (h8 : n ≤ 8) : IntKind.i64.wrap ((j : Int) + 1 - 1) = (j : Int) ∧ IntKind.i64.wrap (j : Int) = (j : Int) ∧ IntKind.i64.wrap ((j : Int) + 1 + 1) = (j : Int) + 1 + 1 ∧ wrap64 ((j : Int) + 1 - 1) = (j : Int) ∧ wrap64 ((j : Int) + 1 + 1) = (j : Int) + 1 + 1 :=
 ⟨by rw [Int.add_sub_cancel]; exact IntWalk.i64_in _ (by omega), IntWalk.i64_in _ (by omega), IntWalk.i64_in _ (by omega), by rw [Int.add_sub_cancel]; exact IntWalk.wrap64_in _ (by omega), IntWalk.wrap64_in _ (by omega)⟩
theorem wV (j : Nat) : ((j : Int) + 1 + 1) = ((j + 1 : Nat) : Int) + 1 := by omega
theorem Ie {j n : Nat} (h : j < n) : n + 1 - ((j : Int) + 1 + 1).toNat < n + 1 - ((j : Int) + 1).toNat := by omega
theorem mD {a b : Int} : (a != b) = (b != a) := by rw [bne, bne, BEq.comm]
theorem Hf (P Q G need : Int) (bC oC : Nat) (cs : List Int) (cn cc : Nat) (bK oK : Nat) (ks : List Int) (kn kc : Nat) (hcn : Hid (cs.length = cn)) (hkn : Hid (ks.length = kn)) (dG : Hid (ah P Q G = true)) (HN : Hid (fI Q need kn = true)) (hne : Hid ((cn : Int) = need)) (hpos : 0 < cn) (hall : Hid (cs.all (aG P Q) = true)) (Co : Hid (ks.all (aG P Q) = true)) (Dc : Int) (Ab : Hid (cs.getD 0 0 = Dc)) (h1 : (Dc == 1) = false) (r : Bool) (hr : Hid (qY P Q cs 0 (ks.drop 0) = r)) (hQ : Q < 9223372036854775808) (w : World) (hC : Hid (Sl w (some ⟨bC, oC, none⟩) cs)) (hK : Hid (Sl w (some ⟨bK, oK, none⟩) ks)) :
  Calls Tryz.prog 8 #[gv P Q G, mO need (some ⟨bC, oC, none⟩) cn cc (some ⟨bK, oK, none⟩) kn kc] w (Rt w (.bool r)) := by
 have dn : ((cn : Int) != need) = false := by simpa using hne.out
 obtain ⟨hp2, hp, hq3, vU⟩ := az dG.out
 obtain ⟨n1, n2, n3, n4, n5⟩ := bX HN.out
 have pq : cn < 1000000 := by have := hne.out; omega
 obtain ⟨w0, HW, bB, kC⟩ := st2 (aC P Q G) qm (o7 need (some ⟨bC, oC, none⟩) cn cc (some ⟨bK, oK, none⟩) kn kc) uR w
 have lU := mkS bB hC
 have rR := mkS bB hK
 have aL := iH w0
 clear hC hK
 go_in
 go_wp2_with fail
 rw [HW.out]
 have zc := kC.out _ aL
 go_wp2_with fail
 clear zc
 refine gM kC aL (bL P Q G true dG hQ _) fun w1 bQ zc => ?_
 go_wp2_with fail
 clear zc
 refine gM kC bQ (gB P Q G need kn true HN _) fun w2 aK zc => ?_
 go_wp2_with fail
 clear zc
 refine gM kC aK (bM P Q G (some ⟨bC, oC, none⟩) cs cn cc true hall hcn pq hp (by omega) hQ _ (lU.out _ aK)) fun w3 cu zc => ?_
 go_wp2_with fail
 clear zc
 refine gM kC cu (bM P Q G (some ⟨bK, oK, none⟩) ks kn kc true Co hkn (by omega) hp (by omega) hQ _ (rR.out _ cu)) fun w4 lZ zc => ?_
 obtain ⟨b9, o9, vZ, hi9⟩ := (lU.out _ lZ).out 0 (by rw [hcn.out]; exact hpos)
 cases vZ
 rw [Ab.out, Nat.add_zero] at hi9
 go_wp2
 clear zc
 clear hi9
 go_loopw [5] (fun i wr => ∃ j : Nat, j ≤ kn ∧ i = .int .i64 ((j : Int) + 1) ∧ Hid (qY P Q cs j (ks.drop j) = r) ∧ Hid (Below w0.heap.size w0 wr)) (fun i _ => kn + 1 - (intOf i).toNat)
 case atStart => exact ⟨0, by omega, rfl, hr, lZ⟩
 case round =>
  obtain ⟨j, hj, rfl, Dy, uS⟩ := hrel
  by_cases kK : j < kn
  ·
   have hjl : j < ks.length := by rw [hkn.out]; exact kK
   have hst := tK (P := P) (Q := Q) (cs := cs) hjl
   obtain ⟨y, hy⟩ : ∃ x, ks.getD j 0 = x := ⟨_, rfl⟩
   obtain ⟨K, IW⟩ : ∃ x, qb P Q cs ((j : Int) + 1) cs.length = x := ⟨_, rfl⟩
   rw [hy, IW] at hst
   have Nb := aa IW
   have HY := aa hy
   have HST := aa hst
   have dle : decide ((j : Int) + 1 ≤ (kn : Int)) = true := by simp; omega
   have i1 : (j : Int) + 1 < Q := by omega
   clear hy IW hst
   have zc := kC.out _ uS
   go_wp2
   clear zc
   go_loopw [6, 7, 8] (fun a e i wz => ∃ k : Nat, k ≤ cn ∧ i = .int .i64 k ∧ a = .int .i64 (qb P Q cs ((j : Int) + 1) k) ∧ e = .int .i64 (qg Q ((j : Int) + 1) k) ∧ Hid (Below w0.heap.size w0 wz)) (fun _ _ i _ => cn - (intOf i).toNat)
   case atStart => exact ⟨0, by omega, rfl, rfl, rfl, uS⟩
   case round =>
    obtain ⟨k, hk, rfl, rfl, rfl, aB⟩ := hrel
    have hkm := mX (i := (j : Int) + 1) hp2 (by omega) hall.out k (by rw [hcn.out]; exact hk)
    obtain ⟨e0, e1⟩ := ic (i := (j : Int) + 1) (show 2 ≤ Q by omega) k
    by_cases hlt : k < cn
    ·
     have hkl : k < cs.length := by rw [hcn.out]; exact hlt
     obtain ⟨b, o, hA, hi⟩ := (lU.out _ aB).out k hkl
     cases hA
     have hcm := kU hall.out hkl
     have sk : qb P Q cs ((j : Int) + 1) (k + 1) = qb P Q cs ((j : Int) + 1) k * pw (cs.getD k 0) (qg Q ((j : Int) + 1) k % Q) P % P := rfl
     have se : qg Q ((j : Int) + 1) (k + 1) = qg Q ((j : Int) + 1) k * ((j : Int) + 1) % Q := rfl
     obtain ⟨x, hx⟩ : ∃ x, cs.getD k 0 = x := ⟨_, rfl⟩
     obtain ⟨a, ha⟩ : ∃ x, qb P Q cs ((j : Int) + 1) k = x := ⟨_, rfl⟩
     obtain ⟨e, he⟩ : ∃ x, qg Q ((j : Int) + 1) k = x := ⟨_, rfl⟩
     obtain ⟨v, vR⟩ : ∃ x', pw x (e % Q) P = x' := ⟨_, rfl⟩
     obtain ⟨u, hu⟩ : ∃ x', a * v % P = x' := ⟨_, rfl⟩
     obtain ⟨f, hf⟩ : ∃ x', e * ((j : Int) + 1) % Q = x' := ⟨_, rfl⟩
     rw [hx] at hi hcm sk
     rw [ha] at hkm sk ⊢
     rw [he] at e0 e1 sk se ⊢
     rw [vR, hu] at sk
     rw [hf] at se
     have x0 := eF hcm
     have x1 := eG hcm
     have a0 := eF hkm
     have a1 := eG hkm
     obtain ⟨v0, v1⟩ : 0 ≤ v ∧ v < P := by rw [← vR]; exact Bv _ _ _ (by omega)
     have K8 := aa vR
     have HU := aa hu
     have HF := aa hf
     have SK := aa sk
     have SE := aa se
     have kI := NH (p := ⟨bC, oC + k, none⟩) (v := .int .i64 x) hi
     clear hx ha he vR hu hf sk se hcm hkm hkl hi
     have nu := iH wr
     have zc := kC.out _ aB
     have uV := kI.out _ nu
     go_wp2_with fail
     clear zc uV
     have hS5 := aa (show ∀ u1 u2 : World, (Hid (Below w0.heap.size w0 u1) ∧ Hid (Below wr.heap.size wr u1)) → Below u1.heap.size u1 u2 → ((u2.cell? ⟨w.heap.size, 0, none⟩ = some (.int .i64 P) ∧ u2.cell? ⟨w.heap.size, 1, none⟩ = some (.int .i64 Q) ∧ u2.cell? ⟨w.heap.size, 2, none⟩ = some (.int .i64 G) ∧ u2.cell? ⟨w.heap.size + 1, 0, none⟩ = some (.int .i64 need) ∧ u2.cell? ⟨w.heap.size + 1, 1, none⟩ = some (.slice (some ⟨bC, oC, none⟩) cn cc) ∧ u2.cell? ⟨w.heap.size + 1, 2, none⟩ = some (.slice (some ⟨bK, oK, none⟩) kn kc)) ∧ (u2.cell? ⟨bC, oC + k, none⟩ = some (.int .i64 x)) ∧ Hid (Below w0.heap.size w0 u2) ∧ Hid (Below wr.heap.size wr u2)) from fun u1 u2 h1 h2 => by
      obtain ⟨q0, q1⟩ := h1
      have r0 := yJ q0 h2
      have r1 := yJ q1 h2
      exact ⟨kC.out _ r0, kI.out _ r1, r0, r1⟩)
     have Lr := aa (show Hid (Below w0.heap.size w0 wr) ∧ Hid (Below wr.heap.size wr wr) from ⟨aB, nu⟩)
     go_region_held3 (fun w' => (w'.cell? ⟨w.heap.size, 0, none⟩ = some (.int .i64 P) ∧ w'.cell? ⟨w.heap.size, 1, none⟩ = some (.int .i64 Q) ∧ w'.cell? ⟨w.heap.size, 2, none⟩ = some (.int .i64 G) ∧ w'.cell? ⟨w.heap.size + 1, 0, none⟩ = some (.int .i64 need) ∧ w'.cell? ⟨w.heap.size + 1, 1, none⟩ = some (.slice (some ⟨bC, oC, none⟩) cn cc) ∧ w'.cell? ⟨w.heap.size + 1, 2, none⟩ = some (.slice (some ⟨bK, oK, none⟩) kn kc)) ∧ (w'.cell? ⟨bC, oC + k, none⟩ = some (.int .i64 x)) ∧ Hid (Below w0.heap.size w0 w') ∧ Hid (Below wr.heap.size wr w'))
      (first | exact hS5.out _ _ Lr.out ((Below.refl _ _).drew) | (exact hS5.out _ _ (by go_split_ands; exact ⟨(by assumption), (by assumption)⟩) gL) | go_keep)
      ((first
       | (go_at_call 29; (with_reducible refine (vv P Q G x e v K8 (by omega) hp (by omega) (by omega) (by omega) x1 (by omega) (by omega) _).mono ?_); rintro e wA ⟨rfl, gL⟩)
       | (go_at_call 28; (with_reducible refine (zk P Q G a v u HU hp (by omega) a1 v0 v1 _).mono ?_); rintro e wA ⟨rfl, gL⟩)))
     rename_i hHeld
     obtain ⟨-, -, GR, LB⟩ := hHeld
     clear hS5 Lr
     have zc := kC.out _ GR
     have uV := kI.out _ LB
     go_wp2_with fail
     refine (fH e ((j : Int) + 1) Q f HF (by omega) e0 e1 (by omega) i1 _).mono ?_
     rintro e9 w9 ⟨rfl, R6⟩
     subst R6
     go_wp2
     go_roundw
     case rel => exact ⟨k + 1, by omega, by go_num, by rw [SK.out], by rw [SE.out], GR⟩
     case measure => simp [intOf]; omega
    ·
     obtain rfl : k = cn := by omega
     have hkv := Nb.out
     rw [hcn.out] at hkv
     rw [hkv]
     clear hkv hkm e0 e1
     obtain ⟨b, o, hA, hi⟩ := (rR.out _ aB).out j hjl
     cases hA
     rw [HY.out] at hi
     obtain ⟨dj, Tk, Tj, Ti, Tg⟩ := uo kK n2
     cases hyk : (y == K) with
     | true =>
      have O1 : Hid (qY P Q cs (j + 1) (ks.drop (j + 1)) = r) := aa (by rw [← Dy.out, HST.out, hyk]; rfl)
      have OA : (K != y) = false := by rw [mD]; simpa using hyk
      clear hyk
      have zc := kC.out _ aB
      go_wp2
      go_roundw
      case rel => exact ⟨j + 1, kK, by rw [wV], O1, aB⟩
      case measure => simp only [intOf]; exact Ie kK
     | false =>
      obtain rfl : r = false := by rw [← Dy.out, HST.out, hyk]; rfl
      have OA : (K != y) = true := by rw [mD]; simpa using hyk
      clear hyk
      have zc := kC.out _ aB
      go_wp2
      go_ret
      exact ⟨rfl, qo bB aB⟩
  ·
   obtain rfl : j = kn := by omega
   obtain rfl : r = true := by rw [← Dy.out, ← hkn.out, List.drop_length]; rfl
   have dle : decide ((j : Int) + 1 ≤ (j : Int)) = false := by simp; omega
   clear Dy
   have zc := kC.out _ uS
   go_wp2
   go_ret
   exact ⟨rfl, qo bB uS⟩
theorem Bo (P Q G need : Int) (Cs : Option Addr) (cs : List Int) (cn cc : Nat) (Ks : Option Addr) (ks : List Int) (kn kc : Nat) (hcn : Hid (cs.length = cn)) (hkn : Hid (ks.length = kn)) (r : Bool) (hr : Hid (Ay P Q G need cs ks = r)) (hQ : Q < 9223372036854775808) (w : World) (hC : Hid (Sl w Cs cs)) (hK : Hid (Sl w Ks ks)) :
  Calls Tryz.prog 8 #[gv P Q G, mO need Cs cn cc Ks kn kc] w (Rt w (.bool r)) := by
 have hr1 := hr.out
 unfold Ay at hr1
 rw [hkn.out, hcn.out] at hr1
 cases h1 : ah P Q G with
 | false =>
  obtain rfl : r = false := by rw [← hr1, h1]; rfl
  exact Ht P Q G need Cs cn cc Ks kn kc (aa h1) hQ w
 | true =>
  cases h2 : fI Q need kn with
  | false =>
   obtain rfl : r = false := by rw [← hr1, h1, h2]; rfl
   exact Hr P Q G need Cs cn cc Ks kn kc (aa h1) (aa h2) hQ w
  | true =>
   by_cases h3 : (cn : Int) = need
   ·
    obtain ⟨n1, n2, n3, n4, n5⟩ := bX h2
    obtain ⟨p1, p2, p3, p4⟩ := az h1
    have hpos : 0 < cn := by omega
    obtain ⟨bC, oC, rfl⟩ := jX hC.out (by rw [hcn.out]; exact hpos)
    obtain ⟨bK, oK, rfl⟩ := jX hK.out (by rw [hkn.out]; exact n1)
    cases h4 : cs.all (aG P Q) with
    | false =>
     obtain rfl : r = false := by rw [← hr1, h1, h2, decide_eq_true h3, h4]; simp
     exact Ho P Q G need bC oC cs cn cc bK oK ks kn kc hcn hkn (aa h1) (aa h2) (aa h3) hpos (aa h4) hQ w hC hK
    | true =>
     cases h5 : ks.all (aG P Q) with
     | false =>
      have h6 : qY P Q cs 0 ks = false := by
       cases h7 : qY P Q cs 0 ks with
       | false => rfl
       | true => rw [yw p1 (by omega) h4 ks 0 h7] at h5; cases h5
      obtain rfl : r = false := by rw [← hr1, h1, h2, decide_eq_true h3, h4, h6]; simp
      exact Hl P Q G need bC oC cs cn cc bK oK ks kn kc hcn hkn (aa h1) (aa h2) (aa h3) hpos (aa h4) (aa h5) hQ w hC hK
     | true =>
      cases h6 : (cs.getD 0 0 == 1) with
      | true =>
       obtain rfl : r = false := by rw [← hr1, h1, h2, decide_eq_true h3, h6]; rfl
       exact Hg P Q G need bC oC cs cn cc bK oK ks kn kc hcn hkn (aa h1) (aa h2) (aa h3) hpos (aa h4) (aa h5) _ (aa rfl) h6 hQ w hC hK
      | false => exact Hf P Q G need bC oC cs cn cc bK oK ks kn kc hcn hkn (aa h1) (aa h2) (aa h3) hpos (aa h4) (aa h5) _ (aa rfl) h6 r (aa (by rw [← hr1, h1, h2, decide_eq_true h3, h4, h6, List.drop_zero]; rfl)) hQ w hC hK
   ·
    obtain rfl : r = false := by rw [← hr1, h1, h2, decide_eq_false h3]; rfl
    exact Hq P Q G need Cs cn cc Ks kn kc (aa h1) (aa h2) h3 hQ w
end Go.Proofs.YticegghameafgaaGreatDoor
namespace Go.Proofs.YticegghameafgaaGreatDoor
open Go.RowKit jq Go.Maps
theorem tJ : Keyed Tryz.prog 3 := int_keyed Tryz.underlying3
theorem J5 (w : World) : (zeroValue 4).run Tryz.prog w = .ok (.bool false) w := by kernel_rfl
theorem kJ {a b : Int} (h : a ≠ b) : (Lit.int .i64 a) ≠ Lit.int .i64 b := fun e => h (by injection e)
theorem jG {P : Program} {e : TypeId} (he : P.underlying e = some .bool) {v : Value} {z : DataW Unit × List MemPlace} (h : plainElem P e v = some z) : ∃ x, v = .bool x ∧ z.1 = .lit (.bool x) := by
 unfold plainElem at h
 rw [he] at h
 cases v <;> simp at h
 exact ⟨_, rfl, by rw [← h]⟩
theorem tH {a b : Bool} (h : (DataW.lit (.bool a) : DataW Unit) = .lit (.bool b)) : a = b := by
 injection h with h1
 injection h1
def MK (xs : List Int) (wr : World) (B k : Nat) : Prop :=
 ∃ D : DataW Unit, wr.ownsMap Tryz.prog 3 (plainElem Tryz.prog 4) B k D ∧ (∀ a : Int, has D (.int .i64 a) = true → D.atKey (.int .i64 a) (.lit (.bool false)) = .lit (.bool true) ∧ ∃ j, j < k ∧ a = xs.getD j 0) ∧ (∀ j, j < k → has D (.int .i64 (xs.getD j 0)) = true)
theorem Aw (xs : List Int) (w : World) : MK xs (w.alloc (.map #[] 0)) w.heap.size 0 :=
 ⟨.map [], World.ownsMap_made _ _ _ _, fun a h => by simp [has] at h, fun j h => absurd h (by omega)⟩
theorem Eu {xs : List Int} {w' : World} {B k : Nat} {x : Int} {D : DataW Unit} (hx : xs.getD k 0 = x) (ht : Tidy D)
  (h1 : w'.ownsMap Tryz.prog 3 (plainElem Tryz.prog 4) B (k + 1) (D.put (.int .i64 x) (.lit (.bool true))))
  (hA : ∀ a : Int, has D (.int .i64 a) = true → D.atKey (.int .i64 a) (.lit (.bool false)) = .lit (.bool true) ∧ ∃ j, j < k ∧ a = xs.getD j 0) (hB : ∀ j, j < k → has D (.int .i64 (xs.getD j 0)) = true) : MK xs w' B (k + 1) := by
 refine ⟨_, h1, fun a ha => ?_, fun j hj => ?_⟩
 ·
  by_cases hax : a = x
  ·
   subst hax
   exact ⟨atKey_put_same ht.isMap (by simp [WideAt.IsKeyLit]) _ _, k, by omega, hx.symm⟩
  ·
   rw [has_put_other (kJ hax)] at ha
   rw [atKey_put_other (kJ hax)]
   obtain ⟨e1, j, hj, e2⟩ := hA a ha
   exact ⟨e1, j, by omega, e2⟩
 ·
  by_cases Oa : xs.getD j 0 = x
  · rw [Oa]; exact has_put_same ht.isMap (by simp [WideAt.IsKeyLit]) _
  ·
   rw [has_put_other (kJ Oa)]
   have hjk : j ≠ k := fun e => Oa (by rw [e]; exact hx)
   exact hB j (by omega)
def KY (xs : List Int) (k : Nat) : Prop := ∀ i j, i < k → j < i → xs.getD i 0 ≠ xs.getD j 0
theorem pK (A : Option Addr) (xs : List Int) (n c : Nat) (r : Bool) (hr : Hid (r = false ↔ bY xs)) (hn : Hid (xs.length = n)) (hbig : n < 1000000) (hw : Hid (∀ k, k < n → -9223372036854775808 ≤ xs.getD k 0 ∧ xs.getD k 0 < 9223372036854775808)) (w : World) (hs : Hid (Sl w A xs)) :
  Calls Tryz.prog 35 #[.slice A n c] w (Rt w (.bool r)) := by
 have hmm := fun t w => run_makeMap (P := Tryz.prog) t w
 have JX := aa (Aw xs w)
 have Rs : Hid (Below w.heap.size w (w.alloc (.map #[] 0))) := aa (af _ _)
 obtain ⟨B, Mr⟩ : ∃ B, w.heap.size = B := ⟨_, rfl⟩
 obtain ⟨W, Mh⟩ : ∃ W, w.alloc (.map #[] 0) = W := ⟨_, rfl⟩
 rw [Mr, Mh] at JX Rs
 have Nr := aa Mr
 have Tv := aa Mh
 have rO : Hid (B ≤ W.heap.size) := aa (by rw [← Mr, ← Mh]; simp)
 clear Mr Mh
 go_in
 go_wp2
 rw [Tv.out, Nr.out]
 go_loopw [9] (fun i wr => ∃ k : Nat, k ≤ n ∧ i = .int .i64 k ∧ Hid (KY xs k) ∧ Hid (MK xs wr B k) ∧ Hid (Below B w wr)) (fun i _ => n - (intOf i).toNat)
 case atStart => exact ⟨0, by omega, rfl, aa (fun i j h _ => absurd h (by omega)), JX, Rs⟩
 case round =>
  obtain ⟨k, hk, rfl, JV, Ua, aB⟩ := hrel
  by_cases hlt : k < n
  ·
   have hkl : k < xs.length := by rw [hn.out]; exact hlt
   obtain ⟨b, o, hA, hi0⟩ := (hs.out.below (show Below w.heap.size w wr by rw [Nr.out]; exact aB.out)) k hkl
   subst hA
   obtain ⟨w1, w2⟩ := hw.out k hlt
   obtain ⟨x, hx⟩ : ∃ x, xs.getD k 0 = x := ⟨_, rfl⟩
   rw [hx] at hi0 w1 w2
   obtain ⟨D, hown, hA, hB⟩ := Ua.out
   have HX := aa hx
   have Nt := aa hA
   have Gj := aa hB
   have HT := aa (hown.tidy tJ)
   have wf1 : (Lit.int .i64 x).wf = true := WalkArith.wf_i64 (by omega)
   have hkey : keyOf Tryz.prog 3 (.int .i64 x) = some (.int .i64 x) := keyOf_int_mk Tryz.underlying3 wf1
   obtain ⟨v9, U1, hrun, vR⟩ := hown.lookup tJ Tryz.underlying93 (J5 wr) (plainElem_bool Tryz.underlying4 false) hkey
   obtain ⟨bv, rfl, hbv⟩ := jG Tryz.underlying4 vR
   clear vR hA hB hx
   cases hh : has D (.int .i64 x) with
   | true =>
    obtain ⟨e1, j, hj, e2⟩ := Nt.out x hh
    have hbt : bv = true := by
     rw [e1] at hbv
     exact (tH hbv).symm
    subst hbt
    obtain rfl : r = true := by
     cases hrr : r with
     | true => rfl
     | false => exact absurd (HX.out.trans e2) ((hr.out.1 hrr) k j hkl hj)
    clear e1 e2 hbv hh
    go_wp2
    go_ret
    exact ⟨rfl, by rw [Nr.out]; exact aB.out⟩
   | false =>
    have hbf : bv = false := by
     rw [atKey_of_not_has hh] at hbv
     exact (tH hbv).symm
    subst hbf
    have JW : Hid (KY xs (k + 1)) := aa (fun i j hi hj => by
     by_cases e : i = k
     ·
      subst e
      intro h
      have := Gj.out j hj
      rw [← h, HX.out, hh] at this
      cases this
     · exact JV.out i j (by omega) hj)
    clear hbv hh
    go_wp2_with (at_mapUpdate; refine wpList_mapUpdate_own _ rfl _ _ _ 93 rfl 3 4 tJ Tryz.underlying93 _ B k _ rfl hown (by unfold maxLen; omega) _ _ _ rfl rfl hkey _ [] (plainElem_bool Tryz.underlying4 true) ?_; intro Eg hown1 hgrow1)
    have Gc : Hid (MK xs Eg B (k + 1)) := aa (Eu HX.out HT.out hown1 Nt.out Gj.out)
    have Si := hown.lt
    have Gl : Hid (Below B w Eg) := aa (aB.out.grown hgrow1 (by omega) (fun j hj => by cases hj; exact Nat.le_refl _))
    clear hown hown1 hgrow1
    go_roundw
    case rel => exact ⟨k + 1, by omega, by go_num, JW, Gc, Gl⟩
    case measure => simp [intOf]; omega
  ·
   obtain rfl : k = n := by omega
   obtain rfl : r = false := hr.out.2 (fun i j hi hj => JV.out i j (by rw [← hn.out]; exact hi) hj)
   go_wp2
   go_ret
   exact ⟨rfl, by rw [Nr.out]; exact aB.out⟩
theorem fE {P Q G : Int} (h : ah P Q G = true) : aG P Q G = true := by
 obtain ⟨h1, h2, h3, h4⟩ := az h
 simp [ah] at h
 simp [aG]
 omega
abbrev L8 (ix v : Int) : Value := .agg #[.int .i64 ix, .int .i64 v]
abbrev iK (ix v : Int) : Obj := .cells #[.int .i64 ix, .int .i64 v] 39
def iD (n : Nat) (i : Int) : Bool := decide (1 ≤ i) && decide (i ≤ n)
def jB (P Q G : Int) (ks : List Int) (ix v : Int) : Bool := iD ks.length ix && (bf Q v && (pw G (v % Q) P == ks.getD (ix - 1).toNat 0))
theorem nW {n : Nat} {i : Int} (h : iD n i = true) : ∃ m : Nat, m < n ∧ i = (m : Int) + 1 := by
 unfold iD at h
 simp only [Bool.and_eq_true, decide_eq_true_eq] at h
 exact ⟨(i - 1).toNat, by omega, by omega⟩
theorem ek (need : Int) (Cs : Option Addr) (cn cc : Nat) (Ks : Option Addr) (kn kc : Nat) (i : Int) (r : Bool) (hr : Hid (iD kn i = r)) (w : World) :
  Calls Tryz.prog 32 #[mO need Cs cn cc Ks kn kc, .int .i64 i] w (Rt w (.bool r)) := by
 have HX := af w (o7 need Cs cn cc Ks kn kc)
 have hc : (w.alloc (o7 need Cs cn cc Ks kn kc)).cell? ⟨w.heap.size, 0, none⟩ = some (.int .i64 need) ∧ (w.alloc (o7 need Cs cn cc Ks kn kc)).cell? ⟨w.heap.size, 1, none⟩ = some (.slice Cs cn cc) ∧ (w.alloc (o7 need Cs cn cc Ks kn kc)).cell? ⟨w.heap.size, 2, none⟩ = some (.slice Ks kn kc) := ⟨ax (heap_alloc_new _ _) 0, ax (heap_alloc_new _ _) 1, ax (heap_alloc_new _ _) 2⟩
 obtain ⟨c0, c1, c2⟩ := hc
 have hr1 := hr.out
 unfold iD at hr1
 by_cases h0 : (1 : Int) ≤ i
 ·
  have d0 : decide ((1 : Int) ≤ i) = true := by simp; omega
  by_cases h1 : i ≤ (kn : Int)
  ·
   have d1 : decide (i ≤ (kn : Int)) = true := by simp; omega
   obtain rfl : r = true := by rw [← hr1]; simp; omega
   go_in
   go_wp2
   go_ret
   exact ⟨rfl, HX⟩
  ·
   have d1 : decide (i ≤ (kn : Int)) = false := by simp; omega
   obtain rfl : r = false := by rw [← hr1]; simp; omega
   go_in
   go_wp2
   go_ret
   exact ⟨rfl, HX⟩
 ·
  have d0 : decide ((1 : Int) ≤ i) = false := by simp; omega
  obtain rfl : r = false := by rw [← hr1]; simp; omega
  go_in
  go_wp2
  go_ret
  exact ⟨rfl, HX⟩
theorem gU (P Q G x : Int) (r : Bool) (hr : Hid (bf Q x = r)) (w : World) :
  Calls Tryz.prog 33 #[gv P Q G, .int .i64 x] w (Rt w (.bool r)) := by
 have HX := af w (aC P Q G)
 have hc : (w.alloc (aC P Q G)).cell? ⟨w.heap.size, 0, none⟩ = some (.int .i64 P) ∧ (w.alloc (aC P Q G)).cell? ⟨w.heap.size, 1, none⟩ = some (.int .i64 Q) ∧ (w.alloc (aC P Q G)).cell? ⟨w.heap.size, 2, none⟩ = some (.int .i64 G) := ⟨ax (heap_alloc_new _ _) 0, ax (heap_alloc_new _ _) 1, ax (heap_alloc_new _ _) 2⟩
 obtain ⟨c0, c1, c2⟩ := hc
 have hr1 := hr.out
 unfold bf at hr1
 by_cases h0 : (0 : Int) ≤ x
 ·
  have d0 : decide ((0 : Int) ≤ x) = true := by simp; omega
  by_cases h1 : x < Q
  ·
   have d1 : decide (x < Q) = true := by simp; omega
   obtain rfl : r = true := by rw [← hr1]; simp; omega
   go_in
   go_wp2
   go_ret
   exact ⟨rfl, HX⟩
  ·
   have d1 : decide (x < Q) = false := by simp; omega
   obtain rfl : r = false := by rw [← hr1]; simp; omega
   go_in
   go_wp2
   go_ret
   exact ⟨rfl, HX⟩
 ·
  have d0 : decide ((0 : Int) ≤ x) = false := by simp; omega
  obtain rfl : r = false := by rw [← hr1]; simp; omega
  go_in
  go_wp2
  go_ret
  exact ⟨rfl, HX⟩
theorem right_1 (P Q G need : Int) (Cs : Option Addr) (cn cc : Nat) (Ks : Option Addr) (kn kc : Nat) (ix v : Int) (hm : Hid (iD kn ix = false)) (w : World) :
  Calls Tryz.prog 34 #[gv P Q G, mO need Cs cn cc Ks kn kc, L8 ix v] w (Rt w (.bool false)) := by
 obtain ⟨w0, HW, bB, kC⟩ := NC (aC P Q G) qm (o7 need Cs cn cc Ks kn kc) qm (iK ix v) GH w
 have aL := iH w0
 go_in
 go_wp2_with fail
 rw [HW.out]
 have zc := kC.out _ aL
 go_wp2_with fail
 clear zc
 refine gM kC aL (ek need Cs cn cc Ks kn kc ix false hm _) fun w1 bQ zc => ?_
 go_wp2
 go_ret
 exact ⟨rfl, qo bB bQ⟩
theorem EH (P Q G need : Int) (Cs : Option Addr) (cn cc : Nat) (Ks : Option Addr) (kn kc : Nat) (ix v : Int) (hm : Hid (iD kn ix = true)) (hsc : Hid (bf Q v = false)) (w : World) :
  Calls Tryz.prog 34 #[gv P Q G, mO need Cs cn cc Ks kn kc, L8 ix v] w (Rt w (.bool false)) := by
 obtain ⟨w0, HW, bB, kC⟩ := NC (aC P Q G) qm (o7 need Cs cn cc Ks kn kc) qm (iK ix v) GH w
 have aL := iH w0
 go_in
 go_wp2_with fail
 rw [HW.out]
 have zc := kC.out _ aL
 go_wp2_with fail
 clear zc
 refine gM kC aL (ek need Cs cn cc Ks kn kc ix true hm _) fun w1 bQ zc => ?_
 go_wp2_with fail
 clear zc
 refine gM kC bQ (gU P Q G v false hsc _) fun w2 aK zc => ?_
 go_wp2
 go_ret
 exact ⟨rfl, qo bB aK⟩
theorem EG (P Q G need : Int) (Cs : Option Addr) (cn cc : Nat) (bK oK : Nat) (ks : List Int) (kn kc : Nat) (m : Nat) (hmk : m < kn) (v : Int) (hkn : Hid (ks.length = kn)) (hkb : kn ≤ 8) (hm : Hid (iD kn ((m : Int) + 1) = true)) (hsc : Hid (bf Q v = true)) (dG : Hid (ah P Q G = true)) (a y : Int) (ha : Hid (pw G (v % Q) P = a)) (hy : Hid (ks.getD m 0 = y)) (b : Bool) (hb : (a == y) = b) (w : World) (hv : Hid (Vars w)) (hK : Hid (Sl w (some ⟨bK, oK, none⟩) ks)) :
  Calls Tryz.prog 34 #[gv P Q G, mO need Cs cn cc (some ⟨bK, oK, none⟩) kn kc, L8 ((m : Int) + 1) v] w (Rt w (.bool b)) := by
 obtain ⟨p1, p2, p3, p4⟩ := az dG.out
 have v0 := lM hsc.out
 have v1 := lN hsc.out
 obtain ⟨dj, Tk, Tj, Ti, Tg⟩ := uo hmk hkb
 have hml : m < ks.length := by rw [hkn.out]; exact hmk
 have ck : Hid (iT P Q G [G] = 0) := aa (fV dG.out (by simp [fE dG.out]))
 obtain ⟨w0, HW, bB, kC⟩ := NC (aC P Q G) qm (o7 need Cs cn cc (some ⟨bK, oK, none⟩) kn kc) qm (iK ((m : Int) + 1) v) GH w
 have kV := mkV bB hv
 have rR := mkS bB hK
 have aL := iH w0
 clear hv hK
 have kI := aa (show ∀ u : World, Hid (Below w0.heap.size w0 u) → u.cell? ⟨bK, oK + m, none⟩ = some (.int .i64 y) from fun u h => by
  obtain ⟨b9, o9, hA, hi⟩ := (rR.out u h).out m hml
  cases hA
  rwa [hy.out] at hi)
 go_in
 go_wp2_with fail
 rw [HW.out]
 have zc := kC.out _ aL
 have uV := kI.out _ aL
 go_wp2_with fail
 clear zc uV
 refine Mw aL (ek need Cs cn cc (some ⟨bK, oK, none⟩) kn kc ((m : Int) + 1) true hm _) fun w1 bQ => ?_
 have zc := kC.out _ bQ
 have uV := kI.out _ bQ
 go_wp2_with fail
 clear zc uV
 refine Mw bQ (gU P Q G v true hsc _) fun w2 aK => ?_
 have zc := kC.out _ aK
 have uV := kI.out _ aK
 go_wp2_with fail
 clear zc uV
 refine Mw aK (g_ P Q G G v a ck ha (by omega) (by omega) _ (kV.out _ aK)) fun w3 cu => ?_
 have zc := kC.out _ cu
 have uV := kI.out _ cu
 have fT := ag bB.out cu.out
 go_wp2
 go_ret
 exact ⟨by first | rfl | rw [hb] | simp [hb], fT⟩
theorem pU (P Q G need : Int) (Cs : Option Addr) (cn cc : Nat) (Ks : Option Addr) (ks : List Int) (kn kc : Nat) (ix v : Int) (hkn : Hid (ks.length = kn)) (hkb : kn ≤ 8) (dG : Hid (ah P Q G = true)) (r : Bool) (hr : Hid (jB P Q G ks ix v = r)) (w : World) (hv : Hid (Vars w)) (hK : Hid (Sl w Ks ks)) :
  Calls Tryz.prog 34 #[gv P Q G, mO need Cs cn cc Ks kn kc, L8 ix v] w (Rt w (.bool r)) := by
 have hr1 := hr.out
 unfold jB at hr1
 rw [hkn.out] at hr1
 cases h1 : iD kn ix with
 | false =>
  obtain rfl : r = false := by rw [← hr1, h1]; rfl
  exact right_1 P Q G need Cs cn cc Ks kn kc ix v (aa h1) w
 | true =>
  cases h2 : bf Q v with
  | false =>
   obtain rfl : r = false := by rw [← hr1, h1, h2]; rfl
   exact EH P Q G need Cs cn cc Ks kn kc ix v (aa h1) (aa h2) w
  | true =>
   obtain ⟨m, hmk, rfl⟩ := nW h1
   obtain ⟨bK, oK, rfl⟩ := jX hK.out (by rw [hkn.out]; omega)
   exact EG P Q G need Cs cn cc bK oK ks kn kc m hmk v hkn hkb (aa h1) (aa h2) dG _ _ (aa rfl) (aa rfl) r (by rw [← hr1, h1, h2, show ((m : Int) + 1 - 1).toNat = m by omega]; rfl) w hv hK
end Go.Proofs.YticegghameafgaaGreatDoor
namespace Go.Proofs.YticegghameafgaaGreatDoor
open Go.RowKit jq
structure dH (w0 : World) (hb : Nat) (box : Obj) (vX : Value) (nX : Nat) (xs : List Int) (vY : Value) (nY : Nat) (ys : List Int) (u : World) : Prop where
 b : Below w0.heap.size w0 u
 x : u.heap[hb]? = some box
 ox : u.ownsRow w0.heap.size 3 1 vX nX (xs.map (Value.int .i64))
 oy : u.ownsRow w0.heap.size 3 1 vY nY (ys.map (Value.int .i64))
 nxy : ∀ j, vX.ownBlock = some j → vY.ownBlock ≠ some j
 nx : vX.ownBlock ≠ some hb
 ny : vY.ownBlock ≠ some hb
theorem dI (v : Value) : v.ownBlock = none ∨ v.ownBlock ≠ none := by
 cases h : v.ownBlock with
 | none => exact .inl rfl
 | some j => exact .inr (by simp)
theorem fQ {u : World} {g : Nat} {o : Obj} (h : u.heap[g]? = some o) : g < u.heap.size := (Array.getElem?_eq_some_iff.1 h).1
section
variable {w0 : World} {hb : Nat} {box : Obj} {vX vY : Value} {nX nY : Nat} {xs ys : List Int} {u u2 : World}
theorem dH.below (h : dH w0 hb box vX nX xs vY nY ys u) (hq : Below u.heap.size u u2) : dH w0 hb box vX nX xs vY nY ys u2 :=
 ⟨ag h.b hq, (hq.block hb (fQ h.x)).trans h.x, h.ox.kept (aD hq none) (dI _), h.oy.kept (aD hq none) (dI _), h.nxy, h.nx, h.ny⟩
theorem own_ne {g : Nat} {v v' : Value} (h : ∀ j, v.ownBlock = some j → v'.ownBlock ≠ some j) : v'.ownBlock = none ∨ v'.ownBlock ≠ v.ownBlock := by
 cases e : v'.ownBlock with
 | none => exact .inl rfl
 | some j => exact .inr (fun e2 => h j e2.symm e)
theorem dH.appX (h : dH w0 hb box vX nX xs vY nY ys u) {a : Int} {g cap : Nat} (ho : u2.ownsRow w0.heap.size 3 1 (.slice (some ⟨g, 0, none⟩) (nX + 1) cap) (nX + 1) (xs.map (Value.int .i64) ++ [.int .i64 a])) (hg : u.grownBy u2 vX.ownBlock) (hgg : vX.ownBlock = some g ∨ g = u.heap.size) :
  dH w0 hb box (.slice (some ⟨g, 0, none⟩) (nX + 1) cap) (nX + 1) (xs ++ [a]) vY nY ys u2 := by
 have hl := fQ h.x
 refine ⟨h.b.grown hg h.b.size (fun j hj => (h.ox.lt j hj).1), (hg.block hb hl (fun e => h.nx e.symm)).trans h.x, by simpa using ho, h.oy.kept hg (own_ne (g := 0) h.nxy), fun j hj => ?_, fun e => ?_, h.ny⟩
 ·
  obtain rfl : g = j := by simpa [Value.ownBlock] using hj
  rcases hgg with e | e
  · exact h.nxy _ e
  ·
   intro e2
   have := (h.oy.lt _ e2).2
   omega
 ·
  obtain rfl : g = hb := by simpa [Value.ownBlock] using e
  rcases hgg with e2 | e2
  · exact h.nx e2
  · omega
theorem dH.swap (h : dH w0 hb box vX nX xs vY nY ys u) : dH w0 hb box vY nY ys vX nX xs u :=
 ⟨h.b, h.x, h.oy, h.ox, fun j h1 h2 => h.nxy j h2 h1, h.ny, h.nx⟩
theorem dH.appY (h : dH w0 hb box vX nX xs vY nY ys u) {a : Int} {g cap : Nat} (ho : u2.ownsRow w0.heap.size 3 1 (.slice (some ⟨g, 0, none⟩) (nY + 1) cap) (nY + 1) (ys.map (Value.int .i64) ++ [.int .i64 a])) (hg : u.grownBy u2 vY.ownBlock) (hgg : vY.ownBlock = some g ∨ g = u.heap.size) :
  dH w0 hb box vX nX xs (.slice (some ⟨g, 0, none⟩) (nY + 1) cap) (nY + 1) (ys ++ [a]) u2 := (h.swap.appX ho hg hgg).swap
structure aN (u : World) (g : Nat) (a : Int) (vX vY : Value) : Prop where
 c : u.heap[g]? = some (.cells #[.int .i64 a] 3)
 nx : vX.ownBlock ≠ some g
 ny : vY.ownBlock ≠ some g
theorem aN.new (h : dH w0 hb box vX nX xs vY nY ys u) (a : Int) : aN (u.alloc (.cells #[.int .i64 a] 3)) u.heap.size a vX vY :=
 ⟨heap_alloc_new _ _, fun e => by have := (h.ox.lt _ e).2; omega, fun e => by have := (h.oy.lt _ e).2; omega⟩
theorem aN.below {g : Nat} {a : Int} (h : aN u g a vX vY) (hq : Below u.heap.size u u2) : aN u2 g a vX vY :=
 ⟨(hq.block g (fQ h.c)).trans h.c, h.nx, h.ny⟩
theorem aN.appX {g : Nat} {a : Int} (h : aN u g a vX vY) {gX n cap : Nat} (hg : u.grownBy u2 vX.ownBlock) (hgg : vX.ownBlock = some gX ∨ gX = u.heap.size) : aN u2 g a (.slice (some ⟨gX, 0, none⟩) n cap) vY := by
 have hl := fQ h.c
 refine ⟨(hg.block g hl (fun e => h.nx e.symm)).trans h.c, fun e => ?_, h.ny⟩
 obtain rfl : gX = g := by simpa [Value.ownBlock] using e
 rcases hgg with e2 | e2
 · exact h.nx e2
 · omega
theorem aN.news {g : Nat} {a : Int} (h : aN u g a vX vY) : ∀ j v, [Value.int .i64 a][j]? = some v → u.cell? ((⟨g, 0, none⟩ : Addr).add j) = some v :=
 World.news_of_block (cs := #[.int .i64 a]) (t := 3) (fr := (0, 0)) h.c
end
end Go.Proofs.YticegghameafgaaGreatDoor