/- Contracts and lemmas: TlR, Bef, Bld, Hex, HexR, TlT, TlU, TruH, TlW, TmG, TmA, TmB. -/
import Derived.Shelf.Strings.Builder1
import Derived.Deep.AppendLies
import Derived.Laws.AppendOwnNone
import Derived.Test.YtchcllcbknfikaaGreatDoorTa8
set_option linter.unusedVariables false
set_option linter.unusedSimpArgs false
set_option maxRecDepth 100000
set_option maxHeartbeats 25600000
namespace Go.Proofs.YtchcllcbknfikaaGreatDoor
open Go.RowKit si
theorem fC {os : List az} {hs : List (List Int)} (h : fP os hs = true) : yA os hs os.length os.length = true ∧ xP os os.length = hs.length ∧ os.length ≤ 100 := by
 simp only [fP, Bool.and_eq_true, beq_iff_eq, decide_eq_true_eq] at h
 exact ⟨h.2.1, h.2.2, h.1⟩
theorem RN (os : List az) : ∀ k, xP os k ≤ k
 | 0 => Nat.le_refl _
 | k + 1 => by have := RN os k; rw [xP]; split <;> omega
theorem GN {os : List az} {hs : List (List Int)} (h : fP os hs = true) {i : Nat} (hi : i < hs.length) : i < os.length ∧ (bL os i).key ≠ 0 := by
 obtain ⟨h1, h2, _⟩ := fC h
 have h3 := RN os os.length
 have hlt : i < os.length := by omega
 refine ⟨hlt, fun e => ?_⟩
 have h4 := (eP (gP h1 i hlt)).2.2.1 e
 have h6 : yA os hs os.length i = true := by
  cases e6 : yA os hs os.length i with
  | true => rfl
  | false => rw [yZ e6 _ (by omega)] at h1; cases h1
 have h5 := IX h6 hlt
 rw [← h4, xP, if_pos e, h5] at h2
 omega
theorem IA {os : List az} {hs : List (List Int)} (h : fP os hs = true) {i : Nat} (hi : i < os.length) (hk : (bL os i).key ≠ 0) : i < hs.length ∧ hsL hs i = hbL os (i + 1) :=
 (eP (gP (fC h).1 i hi)).2.2.2 hk
def jf (hs : List (List Int)) (i : Nat) : List Int := if i = 0 then dz 32 else hsL hs (i - 1)
theorem mo {os : List az} {hs : List (List Int)} (h : fP os hs = true) {i : Nat} (hi : i ≤ hs.length) : jf hs i = hbL os i := by
 unfold jf
 by_cases e : i = 0
 · subst e; rfl
 ·
  rw [if_neg e]
  obtain ⟨h1, h2⟩ := GN h (i := i - 1) (by omega)
  have h3 := (IA h h1 h2).2
  rw [h3]; congr 1; omega
theorem yD {os : List az} {i k : Nat} {x : az} (hi : i < os.length) : bL (os.set i x) k = if k = i then x else bL os k := EC hi
structure El (wB u : World) (N g gK : Nat) (o : az) : Prop where
 la : o.al.length = o.na
 lz : o.zs.length = o.nz
 lp : o.ps.length = o.np ∧ o.np ≤ o.cp
 A : Sl wB o.A o.al
 Z : Sl wB o.Z o.zs
 p : ∀ k, k < o.ps.length → vV wB (o.ps.getD k aH)
 b : 0 < o.np → ∃ b, o.L = some ⟨b, 0, none⟩ ∧ b ≠ g ∧ b ≠ gK ∧ wB.heap.size ≤ b ∧ b < N ∧ PB u b o.ps
theorem El.agree {wB u u' : World} {N g gK : Nat} {o : az} (h : El wB u N g gK o) (he : ∀ b, b ≠ g → b ≠ gK → b < N → u'.heap[b]? = u.heap[b]?) : El wB u' N g gK o :=
 ⟨h.la, h.lz, h.lp, h.A, h.Z, h.p, fun h0 => by
  obtain ⟨b, h1, h2, h3, h4, h5, h6⟩ := h.b h0
  exact ⟨b, h1, h2, h3, h4, h5, h6.agree (he b h2 h3 h5)⟩⟩
theorem El.ok {wB u : World} {N g gK : Nat} {o : az} (h : El wB u N g gK o) (hb : Below wB.heap.size wB u) : dW u o := by
 refine ⟨h.la, h.lz, h.lp, h.A.below hb, h.Z.below hb, fun k hk => ?_⟩
 obtain ⟨b, h1, _, _, _, _, h4⟩ := h.b (by have := h.lp.1; omega)
 rw [h1]
 exact h4.pa (fun k hk => (h.p k hk).below hb) k hk
theorem PM {w : World} {g o : Nat} {x : az} (h : w.rangeAt g o (lQ x)) : Oa w g o x := by
 refine ⟨?_, ?_, ?_, ?_, ?_, ?_, ?_, ?_, ?_⟩
 · exact h 0 _ rfl
 · exact h 1 _ rfl
 · exact h 2 _ rfl
 · exact h 3 _ rfl
 · exact h 4 _ rfl
 · exact h 5 _ rfl
 · exact h 6 _ rfl
 · exact h 7 _ rfl
 · exact h 8 _ rfl
structure Cpd (wB u : World) (N g gK : Nat) (os : List az) (hs : List (List Int)) (n m : Nat) : Prop where
 bel : Below wB.heap.size wB u
 ro : oG lQ 9 dI u g os n
 rk : oG oN 32 [] u gK hs m
 el : ∀ o ∈ os, El wB u N g gK o
 ne : g ≠ gK
 lg : wB.heap.size ≤ g ∧ g < N
 lk : wB.heap.size ≤ gK ∧ gK < N
section
variable {wB u u' : World} {N g gK n m : Nat} {os : List az} {hs : List (List Int)}
theorem Cpd.keep (h : Cpd wB u N g gK os hs n m) (he : ∀ b, b < N → u'.heap[b]? = u.heap[b]?) (hb : Below wB.heap.size wB u') : Cpd wB u' N g gK os hs n m :=
 ⟨hb, h.ro.agree (he g h.lg.2), h.rk.agree (he gK h.lk.2), fun o ho => (h.el o ho).agree fun b _ _ hb => he b hb, h.ne, h.lg, h.lk⟩
end
theorem NT (O : Option Addr) (n c : Nat) (K : Option Addr) (hs : List (List Int)) (m d k : Nat) (hm : Hid (hs.length = m)) (hk : k < m) (hb2 : m ≤ 1000000) (w : World) (hK : Hid (Hs w K hs)) : Calls Tryz.prog 89 #[gI O n c K m d, .int .i64 ((k : Int) + 1)] w (Rt w (.agg (arr .u8 (hsL hs k)))) := by
 have d0 : decide ((k : Int) + 1 = 0) = false := by simp; omega
 have dw : IntKind.i64.wrap ((k : Int) + 1 - 1) = (k : Int) := by rw [show (k : Int) + 1 - 1 = (k : Int) by omega]; exact IntWalk.i64_in _ (by omega)
 have XN : wrap64 ((k : Int) + 1 - 1) = (k : Int) := by rw [show (k : Int) + 1 - 1 = (k : Int) by omega]; exact IntWalk.wrap64_in _ (by omega)
 obtain ⟨W, hW⟩ : ∃ W, (w.alloc (jh O n c K m d)).alloc (.cells z32 41) = W := ⟨_, rfl⟩
 have bT : Hid (Below w.heap.size w W) := aa (by rw [← hW]; exact aJ (Below.refl _ _))
 have eG : Hid (bH .u8 41 W (w.heap.size + 1) (dz 32)) := aa (by rw [← hW, jd]; exact heap_alloc2_new _ _ _)
 have hc : W.cell? ⟨w.heap.size, 0, none⟩ = some (.slice O n c) ∧ W.cell? ⟨w.heap.size, 1, none⟩ = some (.slice K m d) := by rw [← hW]; exact ⟨cell_below (cu (by simp) (by rfl)) (af _ _), cell_below (cu (by simp) (by rfl)) (af _ _)⟩
 obtain ⟨wm, wh⟩ := hc
 obtain ⟨b, o, rfl, hl, hrg0⟩ := hK.out k (by rw [hm.out]; exact hk)
 have hrg := aa (eD hrg0 bT.out)
 obtain ⟨h, hh⟩ : ∃ h, hsL hs k = h := ⟨_, rfl⟩
 rw [hh] at hrg hl
 rw [hh]
 clear hrg0 hK hm hh
 have HW := aa hW
 clear hW
 go_in
 go_upto_region 1 with (fail)
 rw [HW.out]
 go_wp2_with (first | (with_reducible show wpList _ _ _ (⟨_, .load 41 _, _, _, _, _⟩ :: _) _ _; refine wpList_load_mid rfl _ _ rfl b (o + k * 32) rfl (h.map (Value.int .u8)) _ hrg.out Tryz.underlying41 rfl (lS hl) ?_) | ((with_reducible show wpList _ _ _ (⟨none, _, _, _, _, _⟩ :: _) _ _); refine wpList_store_row rfl 41 _ _ rfl (w.heap.size + 1) (arr .u8 h) rfl rfl _ _ eG.out (ay hl) (eB (by simp [dz]) hl) (dh _) ?_))
 have hrw := eG.out.setRow (l' := h)
 exact bodyPost_ret (v := .agg (arr .u8 h)) (aD (p := 4) (ty := 41) rfl _ _ ⟨w.heap.size + 1, 0, none⟩ _ rfl (run_loadVar_row _ _ _ _ _ _ _ hrw Tryz.underlying41 rfl (ay hl))) rfl ⟨rfl, ai bT.out (Nat.le_succ _)⟩
theorem G7 (O : Option Addr) (n c : Nat) (K : Option Addr) (hs : List (List Int)) (m d i : Nat) (hm : Hid (hs.length = m)) (hi : i ≤ m) (hb2 : m ≤ 1000000) (w : World) (hK : Hid (Hs w K hs)) : Calls Tryz.prog 89 #[gI O n c K m d, .int .i64 (i : Int)] w (Rt w (.agg (arr .u8 (jf hs i)))) := by
 cases i with
 | zero => exact ES O n c K m d w
 | succ k => exact NT O n c K hs m d k hm (by omega) hb2 w hK
theorem D_ (O : Option Addr) (n c : Nat) (K : Option Addr) (hs : List (List Int)) (m d i : Nat) (hm : Hid (hs.length = m)) (hi : i ≤ m) (hb2 : m ≤ 1000000) (w : World) (hK : Hid (Hs w K hs)) : Calls Tryz.prog 91 #[gI O n c K m d, .int .i64 (i : Int)] w (Rt w (.agg (arr .u8 (jf hs i)))) := by
 cases i with
 | zero => exact JF O n c K m d w
 | succ k => exact JE O n c K hs m d k hm (by omega) hb2 w hK
theorem I4 : (Tryz.prog.info? 217).map (·.size) = some 2 := by kernel_rfl
theorem QE : liesAt Tryz.prog Tryz.prog.depth 217 (2 / Tryz.prog.cellsOf 217) 0 217 1 = true := by kernel_rfl
def pV (w : World) (b : Nat) (p v : Value) : Prop := w.heap[b]? = some (.cells #[p, v] 217 (0, 0))
theorem pV.cells {w : World} {b : Nat} {p v : Value} (h : pV w b p v) : (w.cell? ⟨b, 0, none⟩ = some p ∧ w.cell? ⟨b, 1, none⟩ = some v) ∧ w.frozen? ⟨b, 0, none⟩ = false ∧ w.frozen? ⟨b, 1, none⟩ = false :=
 ⟨⟨au h 0, au h 1⟩, av h 0, av h 1⟩
theorem pV.lt {w : World} {b : Nat} {p v : Value} (h : pV w b p v) : b < w.heap.size := (Array.getElem?_eq_some_iff.1 h).1
theorem pV.set0 {w : World} {b : Nat} {p v : Value} (h : pV w b p v) (q : Value) : pV (w.setCell ⟨b, 0, none⟩ q) b q v := by
 unfold pV
 rw [heap_setCell_same _ _ _ _ _ _ h]
 rfl
theorem pV.set1 {w : World} {b : Nat} {p v : Value} (h : pV w b p v) (q : Value) : pV (w.setCell ⟨b, 1, none⟩ q) b p q := by
 unfold pV
 rw [heap_setCell_same _ _ _ _ _ _ h]
 rfl
theorem pV.shape {w : World} {b : Nat} {p v : Value} (h : pV w b p v) : w.shape? b = some (217, 2) := by
 unfold pV at h
 simp [World.shape?, h]
theorem NL (b : Nat) (v : Value) (w : World) (hB : Hid (pV w b (.pointer none) v)) :
  Calls Tryz.prog 224 #[.pointer (some ⟨b, 0, none⟩)] w fun e w' => (∃ u, e = .returned u) ∧ w' = w.setCell ⟨b, 0, none⟩ (.pointer (some ⟨b, 0, none⟩)) := by
 obtain ⟨⟨c0, c1⟩, f0, f1⟩ := hB.out.cells
 obtain ⟨j, hj, hjs⟩ := Option.map_eq_some_iff.1 I4
 have hsh := hB.out.shape
 have t1 := Lib.run_to_unsafe (P := Tryz.prog) w ⟨b, 0, none⟩ Tryz.underlying215 Tryz.underlying258 hj (by rw [hjs]; decide) hsh (Nat.zero_lt_succ 1)
 have t2 := Lib.run_from_unsafe (P := Tryz.prog) w ⟨b, 0, none⟩ Tryz.underlying258 Tryz.underlying215 hj hsh QE
 go_in
 go_wp2
 rw [run_callFunc_extern Tryz.func247 (by kernel_rfl) (by kernel_rfl) (by kernel_rfl) (e := Extern.AbiNoEscape.same) (by kernel_rfl), Lib.run_noEscape]
 simp only [Result.andThen]
 rw [Oper.upon_value]
 go_wp2
 go_end0
 exact ⟨⟨_, rfl⟩, rfl⟩
theorem NM (b : Nat) (v : Value) (w : World) (hB : Hid (pV w b (.pointer (some ⟨b, 0, none⟩)) v)) :
  Calls Tryz.prog 224 #[.pointer (some ⟨b, 0, none⟩)] w fun e w' => (∃ u, e = .returned u) ∧ w' = w := by
 obtain ⟨⟨c0, c1⟩, f0, f1⟩ := hB.out.cells
 obtain ⟨j, hj, hjs⟩ := Option.map_eq_some_iff.1 I4
 have t3 := Lib.run_neq_ptr_same (P := Tryz.prog) w ⟨b, 0, none⟩ Tryz.underlying215 hj
 go_in
 go_wp2
 go_end0
 exact ⟨⟨_, rfl⟩, rfl⟩
def OJ (w : World) (b : Nat) (l : List Int) : Prop := ∃ p v, (p = .pointer none ∨ p = .pointer (some ⟨b, 0, none⟩)) ∧ pV w b p v ∧ aR .u8 5 w (b + 1) v l
theorem AX (b : Nat) (l : List Int) (c : Int) (hlen : l.length ≤ 100000) (w : World) (hB : Hid (OJ w b l)) :
  Calls Tryz.prog 203 #[.pointer (some ⟨b, 0, none⟩), .int .u8 c] w fun e w' => (∃ u, e = .returned u) ∧ OJ w' b (l ++ [c]) ∧ Below b w w' := by
 obtain ⟨p, v, hp, hblk, hown⟩ := hB.out
 obtain ⟨i0, hi, hz0, hz1, hz2⟩ := info_parts dS
 have AQ := aa hblk
 have HOw := aa hown
 have hbw := hblk.lt
 have hcc : Calls Tryz.prog 224 #[.pointer (some ⟨b, 0, none⟩)] w fun e w' => (∃ u, e = .returned u) ∧ Hid (pV w' b (.pointer (some ⟨b, 0, none⟩)) v) ∧ Hid (aR .u8 5 w' (b + 1) v l) ∧ Hid (Below b w w') := by
  rcases hp with rfl | rfl
  ·
   refine (NL b v w AQ).mono ?_
   rintro e w' ⟨h1, rfl⟩
   exact ⟨h1, aa (AQ.out.set0 _), aa (HOw.out.kept (zK b 0 _) (Or.inr (fun e => by have := (World.ownsRow.lt HOw.out _ e).1; omega))), aa ((Below.refl b w).setCell (Nat.le_refl b) _)⟩
  ·
   refine (NM b v w AQ).mono ?_
   rintro e w' ⟨h1, rfl⟩
   exact ⟨h1, AQ, HOw, aa (Below.refl b _)⟩
 clear hp hblk hown hB
 have HCC := aa hcc
 clear hcc
 go_in
 go_wp2_with fail
 refine HCC.out.mono ?_
 rintro e w1 ⟨⟨u, rfl⟩, HB1, Fu, KJ⟩
 clear HCC
 obtain ⟨⟨c0, c1⟩, f0, f1⟩ := HB1.out.cells
 have hb1 := HB1.out.lt
 have hown := Fu.out.row rfl
 have hsz := KJ.out.size
 have hcnt : b < w1.heap.size := hb1
 have b1 : l.length + 1 ≤ maxLen := by unfold maxLen; omega
 have b2 : (l.length + 1) * 1 ≤ 140737488355328 := by omega
 have b3 : b + 1 ≤ (w1.alloc (.cells #[.int .u8 c] 5)).heap.size := by simp; omega
 go_wp2_with (at_builtin; refine wpList_append_lies rfl _ _ 114 rfl (b + 1) 5 i0 (.int .u8 0) 1 1 Tryz.underlying114 hi hz0 hz1 hz2 rfl (by decide) v _ _ rfl (hown.alloc _) ⟨w1.heap.size, 0, none⟩ 1 1 [.int .u8 c] rfl rfl (World.news_of_block (cs := #[.int .u8 c]) (t := 5) (fr := (0, 0)) (heap_alloc_new w1 _)) (by simp [Value.oneCell']) (by decide) b1 b2 b3 _ rfl ?_; intro gg cap wz hown1 hgrow hat hlt2; have hne : v.ownBlock ≠ some b := fun e => absurd (World.ownsRow.lt hown b e).1 (by omega); have R7 : Hid (pV wz b (.pointer (some ⟨b, 0, none⟩)) v) := aa ((hgrow.block b (by simp; omega) (Ne.symm hne)).trans ((heap_alloc_old w1 _ hb1).trans HB1.out)); obtain ⟨⟨z0, z1⟩, y0, y1⟩ := R7.out.cells)
 have HOz : Hid (aR .u8 5 wz (b + 1) (.slice (some ⟨gg, 0, none⟩) (l.length + 1) cap) (l ++ [c])) := aa (aR.app (ys := [c]) rfl rfl hown1)
 have HLz : Hid (Below b w wz) := aa ((KJ.out.alloc (by omega) (.cells #[.int .u8 c] 5)).grown hgrow (by simp; omega) (fun j hj => by have := (World.ownsRow.lt hown j hj).1; omega))
 have HNe : Hid (b ≠ gg) := aa (by
  rcases hat with h2 | h2
  · have := (World.ownsRow.lt hown gg h2).1; omega
  · simp at h2; omega)
 go_ret
 refine ⟨⟨_, rfl⟩, ⟨_, _, Or.inr rfl, R7.out.set1 _, HOz.out.kept (zK b 1 _) (Or.inr (fun e => HNe.out (by simpa [Value.ownBlock] using e.symm)))⟩, HLz.out.setCell (Nat.le_refl b) _⟩
theorem M7 : Tryz.prog.underlying 41 = some (.array 32 5) := by kernel_rfl
theorem JX {l : List Int} (hl : l.length = 32) {k : Nat} (hk : k < 32) (w : World) : (Instr.index 41 (.agg (arr .u8 l)) (.int .i64 (k : Int))).run Tryz.prog w = .ok (.int .u8 (l.getD k 0)) w := by
 obtain ⟨i1, hi1, hy0, hy1, hy2⟩ := info_parts dS
 have h0 : (0 : Int) ≤ k ∧ (k : Int) < ((32 : Nat) : Int) := by omega
 have h1 : (arr .u8 l)[k]? = some (.int .u8 (l.getD k 0)) := yK (by omega)
 simp only [Instr.index, asIntOf, run_underlying M7, h0, go_sem]
 simp [h1, hk, go_sem]
def pG (q : Int) : Int := if q < 10 then 48 + q else 87 + q
theorem Eu : ∀ n : Nat, n < 16 → ∀ w, (Instr.index 9 (.string ⟨#[48, 49, 50, 51, 52, 53, 54, 55, 56, 57, 97, 98, 99, 100, 101, 102]⟩) (.int .u8 (n : Int))).run Tryz.prog w = .ok (.int .u8 (pG n)) w
 | 0, _ => fun w => by kernel_rfl
 | 1, _ => fun w => by kernel_rfl
 | 2, _ => fun w => by kernel_rfl
 | 3, _ => fun w => by kernel_rfl
 | 4, _ => fun w => by kernel_rfl
 | 5, _ => fun w => by kernel_rfl
 | 6, _ => fun w => by kernel_rfl
 | 7, _ => fun w => by kernel_rfl
 | 8, _ => fun w => by kernel_rfl
 | 9, _ => fun w => by kernel_rfl
 | 10, _ => fun w => by kernel_rfl
 | 11, _ => fun w => by kernel_rfl
 | 12, _ => fun w => by kernel_rfl
 | 13, _ => fun w => by kernel_rfl
 | 14, _ => fun w => by kernel_rfl
 | 15, _ => fun w => by kernel_rfl
 | n + 16, h => fun w => absurd h (by omega)
theorem ql {q : Int} (h0 : 0 ≤ q) (h1 : q < 16) (w : World) : (Instr.index 9 (.string ⟨#[48, 49, 50, 51, 52, 53, 54, 55, 56, 57, 97, 98, 99, 100, 101, 102]⟩) (.int .u8 q)).run Tryz.prog w = .ok (.int .u8 (pG q)) w := by
 obtain ⟨n, rfl⟩ : ∃ n : Nat, q = n := ⟨q.toNat, by omega⟩
 exact Eu n (by omega) w
def jE (l : List Int) : List Int := l.flatMap fun x => [pG (x / 16), pG (x % 16)]
theorem nL (l : List Int) : (jE l).length = 2 * l.length := by
 induction l with
 | nil => rfl
 | cons x t ih => simp [jE] at ih ⊢; omega
theorem Ey (l m : List Int) : jE (l ++ m) = jE l ++ jE m := by simp [jE]
def txt (l : List Int) : ByteArray := ⟨(l.map fun x => UInt8.ofNat x.toNat).toArray⟩
def Ox (l : List Int) : Prop := ∀ x ∈ l, 0 ≤ x ∧ x < 256
theorem AA {l : List Int} (h : Ox l) : Lib.byteCells (l.map fun x => UInt8.ofNat x.toNat) = l.map (Value.int .u8) := by
 unfold Lib.byteCells
 rw [List.map_map]
 apply List.map_congr_left
 intro x hx
 have := h x hx
 simp only [Function.comp, UInt8.toNat_ofNat']
 congr 1
 omega
theorem M5 {q : Int} (h0 : 0 ≤ q) (h1 : q < 16) : 0 ≤ pG q ∧ pG q < 256 := by unfold pG; split <;> omega
theorem M6 {l : List Int} (h : Ox l) : Ox (jE l) := by
 intro y hy
 obtain ⟨x, hx, hy2⟩ := List.mem_flatMap.1 hy
 have := h x hx
 simp only [List.mem_cons, List.not_mem_nil, or_false] at hy2
 rcases hy2 with rfl | rfl
 · exact M5 (by omega) (by omega)
 · exact M5 (by omega) (by omega)
theorem OJ.is {w : World} {b : Nat} {l : List Int} (h : OJ w b l) (hb : Ox l) : Lib.IsBuilder 217 5 b b (Lib.byteCells (l.map fun x => UInt8.ofNat x.toNat)) w := by
 obtain ⟨p, v, hp, hblk, hown⟩ := h
 have h2 : Lib.BuilderAt 217 5 b b p (Lib.byteCells (l.map fun x => UInt8.ofNat x.toNat)) w := by
  refine ⟨Nat.le_refl b, v, hblk, ?_, ?_⟩
  ·
   rw [AA hb]
   have h3 := (hown.mono (Nat.le_succ b))
   unfold aR at h3
   simpa using h3
  · exact fun e => absurd (World.ownsRow.lt hown b e).1 (by omega)
 rcases hp with rfl | rfl
 · exact Or.inl h2
 · exact Or.inr h2
theorem OJ.new (w : World) : OJ (w.alloc (.cells #[.pointer none, .slice none 0 0] 217)) w.heap.size [] :=
 ⟨_, _, Or.inl rfl, heap_alloc_new _ _, ⟨rfl, Or.inl ⟨rfl, rfl⟩⟩⟩
theorem XY {x : Int} (h0 : 0 ≤ x) (h1 : x < 256) : bits .and .u8 x 15 = x % 16 := by
 obtain ⟨n, rfl⟩ : ∃ n : Nat, x = n := ⟨x.toNat, by omega⟩
 have h2 : ∀ m : Nat, m < 256 → bits .and .u8 (m : Int) 15 = (m : Int) % 16 := by decide
 exact h2 n (by omega)
theorem Qc (h : List Int) (hl : Hid (h.length = 32)) (hb : Hid (Ox h)) (w : World) :
  Calls Tryz.prog 171 #[.agg (arr .u8 h)] w (Rt w (.string (txt (jE h)))) := by
 obtain ⟨W, hW⟩ : ∃ W, (w.alloc (.cells (arr .u8 h) 41)).alloc (.cells #[.pointer none, .slice none 0 0] 217) = W := ⟨_, rfl⟩
 have hb0 : (w.alloc (.cells (arr .u8 h) 41)).heap.size = w.heap.size + 1 := by simp
 have HB0 : Hid (Below w.heap.size w W) := aa (by rw [← hW]; exact ((af w _).alloc (by simp) _))
 have HBb : Hid (OJ W (w.heap.size + 1) []) := aa (by rw [← hW, ← hb0]; exact OJ.new _)
 have HT : Hid (bH .u8 41 W w.heap.size h) := aa (by rw [← hW]; exact (bH.new w h).old _)
 have HW := aa hW
 clear hW hb0
 go_in
 go_upto_region 2 with (fail)
 rw [HW.out]
 go_wp2_with ((with_reducible show wpList _ _ _ (⟨some 6, _, _, _, _, _⟩ :: _) _ _); refine wpList_load_row rfl 41 _ rfl w.heap.size rfl _ _ _ _ HT.out Tryz.underlying41 rfl (ay hl.out) ?_)
 clear HW HT
 go_loopw [7] (fun i u => ∃ k : Nat, k ≤ 32 ∧ i = .int .i64 k ∧ Hid (OJ u (w.heap.size + 1) (jE (h.take k))) ∧ Hid (Below w.heap.size w u)) (fun i _ => 32 - (intOf i).toNat)
 case atStart => exact ⟨0, by omega, by simp, HBb, HB0⟩
 case round =>
  obtain ⟨k, hk, rfl, AQ, ZV⟩ := hrel
  by_cases hlt : k < 32
  ·
   have d1 : decide ((k : Int) < 32) = true := by simp; omega
   obtain ⟨x, hx⟩ : ∃ x, h.getD k 0 = x := ⟨_, rfl⟩
   have hxb : 0 ≤ x ∧ x < 256 := by
    rw [← hx, List.getD_eq_getElem?_getD, List.getElem?_eq_getElem (by have := hl.out; omega)]
    exact hb.out _ (List.getElem_mem _)
   have hix := JX hl.out hlt
   rw [hx] at hix
   have hb1 := XY hxb.1 hxb.2
   have hd1 := ql (q := x / 16) (by omega) (by omega)
   have hd2 := ql (q := x % 16) (by omega) (by omega)
   have Fw : Hid ((jE (h.take k)).length ≤ 100000) := aa (by rw [nL, List.length_take]; omega)
   have KJ : Hid ((jE (h.take k) ++ [pG (x / 16)]).length ≤ 100000) := aa (by rw [List.length_append, nL, List.length_take]; simp; omega)
   have yx : Hid ((jE (h.take k) ++ [pG (x / 16)]) ++ [pG (x % 16)] = jE (h.take (k + 1))) := aa (by
    rw [take_one (show k < h.length by have := hl.out; omega), Ey, hx]
    simp [jE])
   clear hx
   go_wp2_with fail
   refine (AX (w.heap.size + 1) _ _ Fw.out _ AQ).mono ?_
   rintro e w1 ⟨⟨ua, rfl⟩, Xz, Xy⟩
   have Zf := aa Xz
   have QX := aa (ZV.out.trans (Xy.mono (Nat.le_succ _)))
   clear Xz Xy AQ ZV
   go_wp2_with fail
   refine (AX (w.heap.size + 1) _ _ KJ.out _ Zf).mono ?_
   rintro e w2 ⟨⟨ub, rfl⟩, UA, Xx⟩
   rw [yx.out] at UA
   have Ab := aa UA
   have acm := aa (QX.out.trans (Xx.mono (Nat.le_succ _)))
   clear UA Xx Zf QX
   go_wp2
   go_roundw
   case rel => exact ⟨k + 1, by omega, by go_num, Ab, acm⟩
   case measure => simp [intOf]; omega
  ·
   obtain rfl : k = 32 := by omega
   have Ab : Hid (OJ wr (w.heap.size + 1) (jE h)) := aa (by
    have h2 := AQ.out
    rwa [List.take_of_length_le (by rw [hl.out]; exact Nat.le_refl _)] at h2)
   have HNe : Hid ((jE h).map (fun x => UInt8.ofNat x.toNat) ≠ []) := aa (by
    intro e
    have := congrArg List.length e
    rw [List.length_map, nL, hl.out] at this
    simp at this)
   clear AQ
   go_wp2_with fail
   refine (Tryz.Builder_String (w.heap.size + 1) (w.heap.size + 1) _ _ (Ab.out.is (M6 hb.out)) HNe.out).mono ?_
   rintro e w1 ⟨rfl, hb1⟩
   have QX := aa (ZV.out.trans (hb1.mono (Nat.le_succ _)))
   clear hb1 ZV
   go_wp2
   go_ret
   exact ⟨rfl, QX.out⟩
theorem NU {w : World} {B : Nat} {v : Value} {l : List Int} {n : Nat} (h : aR .u8 5 w B v l) (hb : Ox l) (h0 : 0 < l.length) : (convert 114 9 v).run Tryz.prog w = .ok (.string (txt l)) w := by
 obtain ⟨g, cap, rfl, hg, hn, hc2, hc⟩ := h.cells h0
 have e := run_convert_bytes_back (P := Tryz.prog) w 114 9 5 ⟨g, 0, none⟩ cap (l.map fun x => UInt8.ofNat x.toNat) Tryz.underlying114 Tryz.underlying5 Tryz.underlying9 (fun j hj => by
  have hj2 : j < l.length := by simpa using hj
  obtain ⟨b, o, e1, e2⟩ := hc j hj2
  injection e1 with e1
  injection e1 with e1 e1b
  subst e1
  subst e1b
  have hx := hb (l.getD j 0) (by rw [List.getD_eq_getElem?_getD, List.getElem?_eq_getElem hj2]; exact List.getElem_mem _)
  have e3 : (((l.map fun x => UInt8.ofNat x.toNat)[j]'hj).toNat : Int) = l.getD j 0 := by
   rw [List.getElem_map, UInt8.toNat_ofNat']
   rw [List.getD_eq_getElem?_getD, List.getElem?_eq_getElem hj2] at hx ⊢
   simp only [Option.getD_some] at hx ⊢
   omega
  rw [e3, ← e2]
  simp [Addr.add]
  split <;> simp_all)
 rw [List.length_map] at e
 exact e
theorem LH (h : List Int) (hl : Hid (h.length = 32)) (hb : Hid (Ox h)) (w : World) :
  Calls Tryz.prog 175 #[.agg (arr .u8 h)] w (Rt w (.string (txt (jE h)))) := by
 obtain ⟨i0, hi, hz0, hz1, hz2⟩ := info_parts dS
 obtain ⟨W, hW⟩ : ∃ W, w.alloc (.cells (arr .u8 h) 41) = W := ⟨_, rfl⟩
 have hWs : W.heap.size = w.heap.size + 1 := by rw [← hW]; simp
 have HB0 : Hid (Below w.heap.size w W) := aa (by rw [← hW]; exact af w _)
 have HT : Hid (bH .u8 41 W w.heap.size h) := aa (by rw [← hW]; exact bH.new w h)
 have HW := aa hW
 clear hW
 go_in
 go_upto_region 3 with (fail)
 rw [HW.out]
 clear HW
 go_wp2
 go_loopw [4, 5] (fun v i u => ∃ k : Nat, k ≤ 32 ∧ i = .int .i64 k ∧ Hid (aR .u8 5 u (w.heap.size + 1) v (jE (h.take k))) ∧ Hid (Below (w.heap.size + 1) W u)) (fun _ i _ => 32 - (intOf i).toNat)
 case atStart => exact ⟨0, by omega, by simp, aa ⟨rfl, Or.inl ⟨rfl, rfl⟩⟩, aa (Below.refl _ _)⟩
 case round =>
  obtain ⟨k, hk, rfl, HO, aF⟩ := hrel
  by_cases hlt : k < 32
  ·
   have d1 : decide ((k : Int) < 32) = true := by simp; omega
   obtain ⟨x, hx⟩ : ∃ x, h.getD k 0 = x := ⟨_, rfl⟩
   have hxb : 0 ≤ x ∧ x < 256 := by
    rw [← hx, List.getD_eq_getElem?_getD, List.getElem?_eq_getElem (by have := hl.out; omega)]
    exact hb.out _ (List.getElem_mem _)
   have d3 : (k : Int) < 32 := by omega
   have hd1 := ql (q := x / 16) (by omega) (by omega)
   have hd2 := ql (q := x % 16) (by omega) (by omega)
   have e1 : x.tdiv 16 = x / 16 := Int.tdiv_eq_ediv_of_nonneg hxb.1
   have e2 : x.tmod 16 = x % 16 := Int.tmod_eq_emod_of_nonneg hxb.1
   have e3 : IntKind.u8.wrap (x / 16) = x / 16 := by simp [IntKind.wrap, IntKind.bits, IntKind.signed]; omega
   have e4 : IntKind.u8.wrap (x % 16) = x % 16 := by simp [IntKind.wrap, IntKind.bits, IntKind.signed]; omega
   obtain ⟨n, hn⟩ : ∃ n, (jE (h.take k)).length = n := ⟨_, rfl⟩
   have hn2 : n ≤ 64 := by rw [← hn, nL, List.length_take]; omega
   have ry := aa hn
   have HOWN := aa (HO.out.row hn)
   have yx : Hid (jE (h.take k) ++ [pG (x / 16), pG (x % 16)] = jE (h.take (k + 1))) := aa (by
    rw [take_one (show k < h.length by have := hl.out; omega), Ey, hx]
    simp [jE])
   have hc : wr.cell? ⟨w.heap.size, k, none⟩ = some (.int .u8 x) := by
    rw [← hx]
    exact (HT.out.keepB (Nat.lt_succ_self _) aF.out).cell (by have := hl.out; omega)
   have hsz := aF.out.size
   have hS := aa (show ∀ u1 : World, Hid (Below wr.drew.heap.size wr.drew u1) → (u1.cell? ⟨w.heap.size, k, none⟩ = some (.int .u8 x) ∧ Hid (Below wr.drew.heap.size wr.drew u1)) from fun u1 h1 => ⟨cell_below (w := wr.drew) hc h1.out, h1⟩)
   clear hx hn hc HT
   go_wp2
   refine bJ (S := fun w' => w'.cell? ⟨w.heap.size, k, none⟩ = some (.int .u8 x) ∧ Hid (Below wr.drew.heap.size wr.drew w')) (E := [14, 15]) (by kernel_rfl) (hS.out _ (aa (Below.refl _ _))) (fun hHeld => ?_)
   refine bQ 0 ?_
   refine bQ 1 ?_
   refine bQ 2 ?_
   refine bQ 3 ?_
   refine bQ 4 ?_
   refine bQ 5 ?_
   refine bQ 6 ?_
   refine bQ 7 ?_
   refine bQ 8 ?_
   refine bQ 9 ?_
   refine bQ 10 ?_
   refine bQ 11 ?_
   refine bQ 12 ?_
   refine bY 13 fun K hK => ?_
   go_simp
   refine hK.out _ _ ?_ (fun hHeld => ?_)
   · exact hS.out _ (aa (af _ _))
   clear hK K
   try simp only [qq]
   refine mR 14 fun K hK => ?_
   refine step_append_lies _ (by rfl) _ _ _ (by rfl) (w.heap.size + 1) 5 i0 _ 1 1 Tryz.underlying114 hi hz0 hz1 hz2 rfl (by omega) u4 n ((jE (h.take k)).map (Value.int .u8)) (by rfl) ((HOWN.out.alloc _).drew)
    ⟨wr.heap.size, 0, none⟩ 2 2 [.int .u8 (pG (x / 16)), .int .u8 (pG (x % 16))] (by rfl) (by rfl) (World.news_of_block (cs := #[.int .u8 (pG (x / 16)), .int .u8 (pG (x % 16))]) (t := 5) (fr := (0, 0)) (heap_alloc_new wr _)) (by simp [Value.oneCell'])
    (by omega) (by unfold maxLen; omega) (by omega) (by simp; omega) (wr.heap.size + 1) (by simp) ?_; intro gg cap wz hown1 hgrow hat hlt2
   refine hK.out _ _ ?_
   clear hK K
   try simp only [qq]
   refine mR 15 fun K hK => ?_
   go_simp
   refine hK.out _ _ ?_
   clear hK K
   try simp only [qq]
   refine gH ?_
   have HB2 : Hid (Below (w.heap.size + 1) W wz) := aa (((aF.out.alloc (by omega) (.cells #[.int .u8 (pG (x / 16)), .int .u8 (pG (x % 16))] 5)).drew).grown hgrow (by simp; omega) (fun j hj => by have := (World.ownsRow.lt HOWN.out j hj).1; omega))
   have uj : Hid (aR .u8 5 wz (w.heap.size + 1) (.slice (some ⟨gg, 0, none⟩) (n + 2) cap) (jE (h.take (k + 1)))) := aa (by
    rw [← yx.out]
    exact aR.app (ys := [pG (x / 16), pG (x % 16)]) ry.out.symm rfl hown1)
   clear hown1 hgrow hat HO aF
   go_wp2
   go_roundw
   case rel => exact ⟨k + 1, by omega, by go_num, uj, HB2⟩
   case measure => simp [intOf]; omega
  ·
   obtain rfl : k = 32 := by omega
   have HF : Hid (aR .u8 5 wr (w.heap.size + 1) u4 (jE h)) := aa (by
    have h2 := HO.out
    rwa [List.take_of_length_le (by rw [hl.out]; exact Nat.le_refl _)] at h2)
   have hcv := NU (n := 0) HF.out (M6 hb.out) (by rw [nL, hl.out]; decide)
   have HE : Hid (Below w.heap.size w wr) := aa (HB0.out.trans (aF.out.mono (Nat.le_succ _)))
   clear HO aF
   go_wp2
   go_ret
   exact ⟨rfl, HE.out⟩
def uV : ByteArray := ⟨#[115, 112, 101, 99, 105, 101, 47, 111, 114, 100, 101, 114]⟩
def pF (h : List Int) (o : az) : It := .lst [.byt h, .int o.num, .byt (aX o.rs), KD o.E1 o.E2 o.al o.C o.zs]
def lbH (h : List Int) (o : az) : List Int := tagged (aX uV) (enc (pF h o))
def Ml (h : List Int) (o : az) : ByteArray := (⟨#[116, 114, 97, 99, 101, 58]⟩ : ByteArray) ++ (txt (jE (lbH h o))).extract 0 16
theorem Mw {l : List Int} (h : aC l = true) : Ox l := fun x hx => by
 simp only [aC, List.all_eq_true, Bool.and_eq_true, decide_eq_true_eq] at h
 exact h x hx
theorem Dz (l : List Int) : (txt l).size = l.length := by simp [txt, ByteArray.size]
theorem Ej (h : List Int) (o : az) : (Ml h o).size ≤ 1000 := by
 rw [Ml, ByteArray.size_append, ByteArray.size_extract]
 show 6 + _ ≤ 1000
 omega
theorem IU {h : List Int} {o : az} (hl : h.length = 32) (hb : aC h = true) (hi : dJ o) (hs : fH o) : fits 8 (pF h o) := by
 have ho := GI hi hs
 refine ⟨by simp, fun x hx => ?_⟩
 simp only [List.mem_cons, List.not_mem_nil, or_false] at hx
 rcases hx with rfl | rfl | rfl | rfl
 · exact ⟨⟨by omega, by omega⟩, hb⟩
 · exact pI (ho.2 _ (by simp [xk])) (by decide)
 · exact pI (ho.2 _ (by simp [xk])) (by decide)
 · exact pI (ho.2 _ (by simp [xk])) (by decide)
theorem Nn {h : List Int} {o : az} (hl : h.length = 32) (hs : fH o) : (enc (pF h o)).length ≤ 16384 := by
 have h1 := RI hs
 rw [xk, fA] at h1
 rw [pF, fA]
 simp only [List.length_cons, List.length_append, dY, pM, iC, List.length_nil, show (fG []).length = 0 from rfl, hl] at h1 ⊢
 omega
theorem JW (bO fO : Nat) (os : List az) (n c : Nat) (K : Option Addr) (hs : List (List Int)) (m d i : Nat) (hn : Hid (os.length = n)) (hm : Hid (hs.length = m)) (hi : i < n) (him : i ≤ m) (hb1 : n ≤ 1000000) (hb2 : m ≤ 1000000) (h : List Int) (hh : Hid (jf hs i = h)) (hl : Hid (h.length = 32)) (hb : Hid (aC h = true)) (o : az) (ho : Hid (bL os i = o)) (hI : Hid (dJ o)) (hS : fH o) (w : World) (hv : Hid (bz w)) (hO : Hid (Os w (some ⟨bO, fO, none⟩) os)) (hK : Hid (Hs w K hs)) :
  Calls Tryz.prog 127 #[gI (some ⟨bO, fO, none⟩) n c K m d, .int .i64 (i : Int)] w (Rt w (.string (Ml h o))) := by
 obtain ⟨RR, hRR⟩ : ∃ R, tagged (aX uV) (enc (pF h o)) = R := ⟨_, rfl⟩
 rw [show Ml h o = (⟨#[116, 114, 97, 99, 101, 58]⟩ : ByteArray) ++ (txt (jE (tagged (aX uV) (enc (pF h o))))).extract 0 16 from rfl, hRR]
 have HRR : Kp (tagged (aX uV) (enc (pF h o)) = RR) := ⟨hRR⟩
 have fI : Hid (RR.length = 32) := aa (by rw [← hRR]; exact dF _ _)
 have Hq : Hid (Ox RR) := aa (by rw [← hRR]; exact Mw (iU _))
 have jQ : Hid (fits 8 (pF h o)) := aa (IU hl.out hb.out hI.out hS)
 have HLEN : Hid ((enc (pF h o)).length ≤ 16384) := aa (Nn hl.out hS)
 clear hRR
 have hxs : (txt (jE RR)).size = 64 := by rw [Dz, nL, fI.out]
 obtain ⟨w0, HW, aj, kC⟩ := st1 (jh (some ⟨bO, fO, none⟩) n c K m d) qA w
 have kO := fq (fun u => Os u (some ⟨bO, fO, none⟩) os) aj hO (·.below)
 have kK := fq (fun u => Hs u K hs) aj hK (·.below)
 have kD := o6 aj hv
 have ah := bP w0
 clear hO hK hv
 obtain ⟨bX, fX, hX, bN, hok⟩ := ((kO.out _ ah)).out i (by rw [hn.out]; exact hi)
 cases hX
 rw [show os.getD i dI = o from ho.out] at bN hok
 obtain ⟨j0, j1, j2, j3, j4, j5, j6, j7, j8⟩ := bN
 have lW := aa hok
 clear hok
 go_in
 go_upto_region 1 with (fail)
 rw [HW.out]
 have zc := kC.out _ ah
 obtain ⟨w1, hw, QU, abR, -, kE⟩ := qZ (lY o) Ah w0
 have ax := jY ah QU
 have lD := bP w1
 clear QU
 have tJ := kC.out _ ax
 have Sc := kE.out _ lD
 go_upto_region 2 with (fail)
 clear zc tJ Sc hw
 have zc := kC.out _ ax
 have Ff := kE.out _ lD
 clear j0 j1 j2 j3 j4 j5 j6 j7 j8
 have zc := kC.out _ ax
 have Ff := kE.out _ lD
 go_wp2_with fail
 clear zc Ff
 refine abp ax lD (G7 (some ⟨bO, fO, none⟩) n c K hs m d i hm him hb2 _ (kK.out _ ax)) fun w2 aK Q_ => ?_
 rw [hh.out]
 have Je : Hid (bH .u8 41 (w2.alloc (.cells z32 41)) w2.heap.size (dz 32)) := aa (by rw [jd]; exact bH.new _ _)
 go_upto_region 3 with ((with_reducible show wpList _ _ _ (⟨none, Op.store _ (Operand.tmp 6) _, _, _, _, _⟩ :: _) _ _); refine wpList_store_row rfl 41 _ _ rfl w2.heap.size (arr .u8 h) rfl rfl _ _ Je.out (ay hl.out) (eB (l := dz 32) rfl hl.out) (dh _) ?_)
 obtain ⟨w3, hw⟩ : ∃ x, (w2.alloc (.cells z32 41)).setRow w2.heap.size (arr .u8 h) = x := ⟨_, rfl⟩
 have oI : Hid (bH .u8 41 w3 w2.heap.size h) := aa (by rw [← hw]; exact Je.out.setRow)
 have hq : Below w2.heap.size w2 w3 := by rw [← hw]; exact ai (af _ _) (Nat.le_refl _)
 have aN := bF aK hq
 have Jd := bF Q_ hq
 rw [hw]
 clear hw hq Je
 have mP := bP w3
 obtain ⟨b3, hb3⟩ : ∃ x, w2.heap.size = x := ⟨_, rfl⟩
 rw [hb3] at oI ⊢
 have R3 := aa hb3
 clear hb3
 have WS := qO (w := w3) (fun u => bH .u8 41 u b3 h) oI.out (·.below)
 obtain ⟨q1, q2⟩ : Hid (o.al.length = o.na) ∧ Hid (o.zs.length = o.nz) := ⟨aa lW.out.1, aa lW.out.2.1⟩
 have XW : o.na ≤ 20 := by rw [← q1.out]; exact hS.a
 have XV : o.nz ≤ 20 := by rw [← q2.out]; exact hS.z
 have kA := qO (w := w0) (fun u => Sl u o.A o.al) lW.out.2.2.2.1 (·.below)
 have kZ := qO (w := w0) (fun u => Sl u o.Z o.zs) lW.out.2.2.2.2.1 (·.below)
 have hcv := fun w => run_bytes_of_string (P := Tryz.prog) w 9 114 5 o.rs Tryz.underlying9 Tryz.underlying114 Tryz.underlying5
 have zc := kC.out _ aN
 have Ff := kE.out _ Jd
 try simp only [Act.put]
 clear zc Ff
 have hO := aa (fun (u : World) (h : Hid (Below w0.heap.size w0 u ∧ Below w1.heap.size w1 u ∧ Below w3.heap.size w3 u)) => And.intro (kC.out u (aa h.out.1)) (kE.out u (aa h.out.2.1)))
 have nQ := bb3 (aa ⟨aN.out, Jd.out, mP.out⟩) (Below.refl _ _).drew
 refine wU (fun u => Below w0.heap.size w0 u ∧ Below w1.heap.size w1 u ∧ Below w3.heap.size w3 u) [16] nQ (fun hHeld => ?_)
 obtain ⟨wD, nK⟩ : ∃ u, w3.drew = u := ⟨_, rfl⟩
 rw [nK] at nQ hHeld ⊢
 have zX : Hid (w3.heap.size ≤ wD.heap.size) := aa (by rw [← nK]; exact Nat.le_refl _)
 clear nK
 refine aU 0 2 3 5 ?_
 refine aL 6 ?_
 refine aL 9 ?_
 refine aL 10 ?_
 refine Zn fun a0 ha0 => ?_
 clear hHeld
 refine O3 [1, 4, 7, 8, 11, 12, 13, 14, 15] [[], [0], [], [0, 1, 2], [0, 1, 2, 3], [0, 1, 2, 3, 4], [0, 1, 2, 3, 4, 5], [0, 1, 2, 3, 4, 5, 6], []] [[1, 3, 4, 5, 6, 7], [3, 4, 5, 6, 7], [3, 4, 5, 6, 7], [4, 5, 6, 7], [5, 6, 7], [6, 7], [7], [], []] 1 #[true, true, true, true, true, true, true, true, true, true, true, true, true, true, true, true, false] (fun bs a u => ∃ (yE F_ Dl Iu uA je fT fQ eO : Bool) (gC : Nat) (cC : Nat) (cE : Ic) (gL : Nat) (gT : Nat), bs = [yE, F_, Dl, Iu, uA, je, fT, fQ, eO] ∧ a = (((((((((a0.put (some 17) (cond yE (.agg #[.int .i64 2, .int .i64 (0), .slice (some ⟨b3, 0, none⟩) 32 32, .slice none 0 0]) undef)).put (some 20) (cond F_ (.agg #[.int .i64 1, .int .i64 (o.num), .slice none 0 0, .slice none 0 0]) undef)).put (some 23) (cond Dl (.slice (some ⟨gC, 0, none⟩) o.rs.size cC) undef)).put (some 24) (cond Iu (.agg #[.int .i64 2, .int .i64 (0), .slice (some ⟨gC, 0, none⟩) o.rs.size cC, .slice none 0 0]) undef)).put (some 27) (cond uA (.agg #[.int .i64 cE.kind, .int .i64 cE.n, .slice cE.B cE.nb cE.cb, .slice cE.L cE.nl cE.cl]) undef)).put (some 28) (cond je (.slice (some ⟨gL, 0, none⟩) 4 4) undef)).put (some 29) (cond fT (.agg #[.int .i64 3, .int .i64 (0), .slice none 0 0, .slice (some ⟨gL, 0, none⟩) 4 4]) undef)).put (some 30) (cond fQ (.agg (arr .u8 RR)) undef)).put (some 7) (cond eO (.pointer (some ⟨gT, 0, none⟩)) undef)) ∧ Hid (Below w0.heap.size w0 u ∧ Below w1.heap.size w1 u ∧ Below w3.heap.size w3 u) ∧ (Dl = true → Hid (Sk .u8 u (some ⟨gC, 0, none⟩) (aX o.rs))) ∧ (Dl = true → Hid (w0.heap.size ≤ gC)) ∧ (uA = true → Hid (qE w0.heap.size u (KD o.E1 o.E2 o.al o.C o.zs) cE)) ∧ (je = true → Hid (u.heap[gL]? = some (.cells #[.int .i64 2, .int .i64 0, .slice (some ⟨b3, 0, none⟩) 32 32, .slice none 0 0, .int .i64 1, .int .i64 o.num, .slice none 0 0, .slice none 0 0, .int .i64 2, .int .i64 0, .slice (some ⟨gC, 0, none⟩) o.rs.size cC, .slice none 0 0, .int .i64 cE.kind, .int .i64 cE.n, .slice cE.B cE.nb cE.cb, .slice cE.L cE.nl cE.cl] 117))) ∧ (je = true → Hid (w0.heap.size ≤ gL)) ∧ (eO = true → Hid (bH .u8 41 u gT (dz 32))) ∧ (eO = true → Hid (w0.heap.size ≤ gT))) ⟨false, false, false, false, false, false, false, false, false, 0, 0, (Ic.mk 0 0 none 0 0 none 0 0), 0, 0, rfl, by rw [ha0]; simp only [qq], nQ, nofun, nofun, nofun, nofun, nofun, nofun, nofun⟩ ?_ ⟨?_, ?_, ?_, ?_, ?_, ?_, ?_, ?_, ?_, trivial⟩
 ·
  rintro bs a u hbs ⟨yE, F_, Dl, Iu, uA, je, fT, fQ, eO, gC, cC, cE, gL, gT, rfl, rfl, FB, rz, iL, nR, oW, gz, mE, fu⟩
  obtain ⟨rfl, rfl, rfl, rfl, rfl, rfl, rfl, rfl, rfl⟩ : yE = true ∧ F_ = true ∧ Dl = true ∧ Iu = true ∧ uA = true ∧ je = true ∧ fT = true ∧ fQ = true ∧ eO = true := by simpa using hbs
  have FC := rz rfl
  have Am := iL rfl
  have HE := nR rfl
  have FL := oW rfl
  have lZ := gz rfl
  have FT := mE rfl
  have R9 := fu rfl
  clear rz iL nR oW gz mE fu
  have hHeld := FB
  have hT := trivial
  rw [ha0]
  simp only [qq]
  have um := aa FB.out.1
  have Za := aa FB.out.2.1
  have Y_ := aa FB.out.2.2
  refine mR 16 fun K hK => ?_
  rw [show (if Region.wanted _ _ = true then _ else _ : Prop) = _ from if_pos rfl]
  refine wp_store_row 41 _ _ rfl gT (arr .u8 RR) rfl rfl 41 _ FT.out (ay fI.out) (eB (l := dz 32) rfl fI.out) (dh _) ?_
  refine hK.out _ _ ?_
  clear hK K
  try simp only [qq]
  refine gH ?_
  clear hHeld hT ha0
  obtain ⟨wq, hwq⟩ : ∃ x, u.setRow gT (arr .u8 RR) = x := ⟨_, rfl⟩
  have QN : Hid (bH .u8 41 wq gT RR) := aa (by rw [← hwq]; exact FT.out.setRow)
  have I9 : Hid (Below w0.heap.size w0 wq) := aa (by rw [← hwq]; exact ai FB.out.1 R9.out)
  rw [hwq]
  clear hwq
  go_wp2_with ((with_reducible show wpList _ _ _ (⟨some 31, _, _, _, _, _⟩ :: _) _ _); refine wpList_load_row rfl 41 _ rfl gT rfl _ _ _ _ QN.out Tryz.underlying41 rfl (ay fI.out) ?_)
  refine (Qc RR fI Hq _).mono ?_
  rintro e w9 ⟨rfl, xu⟩
  have bV := ag aj.out (ag I9.out xu)
  go_wp2
  go_ret
  exact ⟨rfl, bV⟩
 ·
  rintro bs a u ⟨yE, F_, Dl, Iu, uA, je, fT, fQ, eO, gC, cC, cE, gL, gT, rfl, rfl, FB, rz, iL, nR, oW, gz, mE, fu⟩ hr
  simp [jv, and_assoc] at hr
  obtain ⟨rfl, rfl, rfl, rfl, rfl, rfl, rfl⟩ := hr
  refine ⟨_, rfl, fun K hK => ?_⟩
  rw [ha0]
  simp only [qq]
  go_simp
  refine (yB (some ⟨b3, 0, none⟩) 32 32 _).mono ?_
  rintro e wB ⟨rfl, hq⟩
  have aS := bb3 FB hq
  refine hK.out _ _ aS ⟨true, false, Dl, false, false, false, false, false, eO, gC, cC, cE, gL, gT, rfl, ?_, aS, fun e => aa ((rz e).out.below hq), fun e => (iL e), nofun, nofun, nofun, fun e => aa ((mE e).out.below hq), fun e => (fu e)⟩
  rw [ha0]
  simp only [qq]
  try rfl
 ·
  rintro bs a u ⟨yE, F_, Dl, Iu, uA, je, fT, fQ, eO, gC, cC, cE, gL, gT, rfl, rfl, FB, rz, iL, nR, oW, gz, mE, fu⟩ hr
  simp [jv, and_assoc] at hr
  obtain ⟨rfl, rfl, rfl, rfl, rfl, rfl, rfl⟩ := hr
  refine ⟨_, rfl, fun K hK => ?_⟩
  rw [ha0]
  simp only [qq]
  go_simp
  refine (sH o.num _).mono ?_
  rintro e wB ⟨rfl, hq⟩
  have aS := bb3 FB hq
  refine hK.out _ _ aS ⟨true, true, Dl, false, false, false, false, false, eO, gC, cC, cE, gL, gT, rfl, ?_, aS, fun e => aa ((rz e).out.below hq), fun e => (iL e), nofun, nofun, nofun, fun e => aa ((mE e).out.below hq), fun e => (fu e)⟩
  rw [ha0]
  simp only [qq]
  try rfl
 ·
  rintro bs a u ⟨yE, F_, Dl, Iu, uA, je, fT, fQ, eO, gC, cC, cE, gL, gT, rfl, rfl, FB, rz, iL, nR, oW, gz, mE, fu⟩ hr
  simp [jv, and_assoc] at hr
  obtain ⟨rfl, rfl, rfl, rfl, rfl, rfl⟩ := hr
  refine ⟨_, rfl, fun K hK => ?_⟩
  rw [ha0]
  simp only [qq]
  go_simp
  have aS := bb3 FB ((af u (.cells (bytesRow o.rs (grownCap u o.rs.size 0 5)) 5 ((bytesRow o.rs (grownCap u o.rs.size 0 5)).size, (bytesRow o.rs (grownCap u o.rs.size 0 5)).size + 1))).drew)
  refine hK.out _ _ aS ⟨yE, F_, true, false, false, false, false, false, eO, u.heap.size, (grownCap u o.rs.size 0 5), cE, gL, gT, rfl, ?_, aS, fun _ => (aa ((mh (heap_alloc_new u _)).below ((Below.refl _ _).drew))), fun _ => (aa (by have := FB.out.1.size; omega)), nofun, nofun, nofun, fun e => aa ((mE e).out.below ((af u (.cells (bytesRow o.rs (grownCap u o.rs.size 0 5)) 5 ((bytesRow o.rs (grownCap u o.rs.size 0 5)).size, (bytesRow o.rs (grownCap u o.rs.size 0 5)).size + 1))).drew)), fun e => (fu e)⟩
  rw [ha0]
  simp only [qq]
  try rfl
 ·
  rintro bs a u ⟨yE, F_, Dl, Iu, uA, je, fT, fQ, eO, gC, cC, cE, gL, gT, rfl, rfl, FB, rz, iL, nR, oW, gz, mE, fu⟩ hr
  simp [jv, and_assoc] at hr
  obtain ⟨rfl, rfl, rfl, rfl, rfl, rfl, rfl, rfl⟩ := hr
  have FC := rz rfl
  have Am := iL rfl
  refine ⟨_, rfl, fun K hK => ?_⟩
  rw [ha0]
  simp only [qq]
  go_simp
  refine (yB (some ⟨gC, 0, none⟩) o.rs.size cC _).mono ?_
  rintro e wB ⟨rfl, hq⟩
  have aS := bb3 FB hq
  refine hK.out _ _ aS ⟨true, true, true, true, false, false, false, false, eO, gC, cC, cE, gL, gT, rfl, ?_, aS, fun _ => aa (FC.out.below hq), fun _ => Am, nofun, nofun, nofun, fun e => aa ((mE e).out.below hq), fun e => (fu e)⟩
  rw [ha0]
  simp only [qq]
  try rfl
 ·
  rintro bs a u ⟨yE, F_, Dl, Iu, uA, je, fT, fQ, eO, gC, cC, cE, gL, gT, rfl, rfl, FB, rz, iL, nR, oW, gz, mE, fu⟩ hr
  simp [jv, and_assoc] at hr
  obtain ⟨rfl, rfl, rfl, rfl, rfl, rfl, rfl, rfl⟩ := hr
  have FC := rz rfl
  have Am := iL rfl
  refine ⟨_, rfl, fun K hK => ?_⟩
  rw [ha0]
  simp only [qq]
  go_simp
  refine (Bt o.E1 o.E2 o.A o.na o.ca o.al o.C o.Z o.nz o.cz o.zs q1 q2 (by omega) (by omega) _ (kA.out _ (aa FB.out.1)) (kZ.out _ (aa FB.out.1))).mono ?_
  rintro e wB ⟨cB, rfl, hit, hq⟩
  have aS := bb3 FB hq
  refine hK.out _ _ aS ⟨true, true, true, true, true, false, false, false, eO, gC, cC, cB, gL, gT, rfl, ?_, aS, fun _ => aa (FC.out.below hq), fun _ => Am, fun _ => (aa (hit.mono (by have := FB.out.1.size; omega))), nofun, nofun, fun e => aa ((mE e).out.below hq), fun e => (fu e)⟩
  rw [ha0]
  simp only [qq]
  try rfl
 ·
  rintro bs a u ⟨yE, F_, Dl, Iu, uA, je, fT, fQ, eO, gC, cC, cE, gL, gT, rfl, rfl, FB, rz, iL, nR, oW, gz, mE, fu⟩ hr
  simp [jv, and_assoc] at hr
  obtain ⟨rfl, rfl, rfl, rfl, rfl, rfl, rfl, rfl⟩ := hr
  have FC := rz rfl
  have Am := iL rfl
  have HE := nR rfl
  refine ⟨_, rfl, fun K hK => ?_⟩
  rw [ha0]
  simp only [qq]
  go_simp
  have aS := bb3 FB (af u (.cells #[.int .i64 2, .int .i64 0, .slice (some ⟨b3, 0, none⟩) 32 32, .slice none 0 0, .int .i64 1, .int .i64 o.num, .slice none 0 0, .slice none 0 0, .int .i64 2, .int .i64 0, .slice (some ⟨gC, 0, none⟩) o.rs.size cC, .slice none 0 0, .int .i64 cE.kind, .int .i64 cE.n, .slice cE.B cE.nb cE.cb, .slice cE.L cE.nl cE.cl] 117))
  refine hK.out _ _ aS ⟨true, true, true, true, true, true, false, false, eO, gC, cC, cE, u.heap.size, gT, rfl, ?_, aS, fun _ => aa (FC.out.below (af u (.cells #[.int .i64 2, .int .i64 0, .slice (some ⟨b3, 0, none⟩) 32 32, .slice none 0 0, .int .i64 1, .int .i64 o.num, .slice none 0 0, .slice none 0 0, .int .i64 2, .int .i64 0, .slice (some ⟨gC, 0, none⟩) o.rs.size cC, .slice none 0 0, .int .i64 cE.kind, .int .i64 cE.n, .slice cE.B cE.nb cE.cb, .slice cE.L cE.nl cE.cl] 117))), fun _ => Am, fun _ => aa (HE.out.kept (af u (.cells #[.int .i64 2, .int .i64 0, .slice (some ⟨b3, 0, none⟩) 32 32, .slice none 0 0, .int .i64 1, .int .i64 o.num, .slice none 0 0, .slice none 0 0, .int .i64 2, .int .i64 0, .slice (some ⟨gC, 0, none⟩) o.rs.size cC, .slice none 0 0, .int .i64 cE.kind, .int .i64 cE.n, .slice cE.B cE.nb cE.cb, .slice cE.L cE.nl cE.cl] 117))), fun _ => (aa (heap_alloc_new u _)), fun _ => (aa (by have := FB.out.1.size; omega)), fun e => aa ((mE e).out.below (af u (.cells #[.int .i64 2, .int .i64 0, .slice (some ⟨b3, 0, none⟩) 32 32, .slice none 0 0, .int .i64 1, .int .i64 o.num, .slice none 0 0, .slice none 0 0, .int .i64 2, .int .i64 0, .slice (some ⟨gC, 0, none⟩) o.rs.size cC, .slice none 0 0, .int .i64 cE.kind, .int .i64 cE.n, .slice cE.B cE.nb cE.cb, .slice cE.L cE.nl cE.cl] 117))), fun e => (fu e)⟩
  rw [ha0]
  simp only [qq]
  try rfl
 ·
  rintro bs a u ⟨yE, F_, Dl, Iu, uA, je, fT, fQ, eO, gC, cC, cE, gL, gT, rfl, rfl, FB, rz, iL, nR, oW, gz, mE, fu⟩ hr
  simp [jv, and_assoc] at hr
  obtain ⟨rfl, rfl, rfl, rfl, rfl, rfl, rfl, rfl⟩ := hr
  have FC := rz rfl
  have Am := iL rfl
  have HE := nR rfl
  have FL := oW rfl
  have lZ := gz rfl
  refine ⟨_, rfl, fun K hK => ?_⟩
  rw [ha0]
  simp only [qq]
  go_simp
  refine (vG (some ⟨gL, 0, none⟩) 4 4 _).mono ?_
  rintro e wB ⟨rfl, hq⟩
  have aS := bb3 FB hq
  refine hK.out _ _ aS ⟨true, true, true, true, true, true, true, false, eO, gC, cC, cE, gL, gT, rfl, ?_, aS, fun _ => aa (FC.out.below hq), fun _ => Am, fun _ => aa (HE.out.kept hq), fun _ => aa (bG FL.out hq), fun _ => lZ, fun e => aa ((mE e).out.below hq), fun e => (fu e)⟩
  rw [ha0]
  simp only [qq]
  try rfl
 ·
  rintro bs a u ⟨yE, F_, Dl, Iu, uA, je, fT, fQ, eO, gC, cC, cE, gL, gT, rfl, rfl, FB, rz, iL, nR, oW, gz, mE, fu⟩ hr
  simp [jv, and_assoc] at hr
  obtain ⟨rfl, rfl, rfl, rfl, rfl, rfl, rfl, rfl⟩ := hr
  have FC := rz rfl
  have Am := iL rfl
  have HE := nR rfl
  have FL := oW rfl
  have lZ := gz rfl
  refine ⟨_, rfl, fun K hK => ?_⟩
  rw [ha0]
  simp only [qq]
  go_simp
  have hit : nV u (pF h o) (Ic.mk 3 0 none 0 0 (some ⟨gL, 0, none⟩) 4 4) := vH (fun k => match k with | 0 => aI (some ⟨b3, 0, none⟩) 32 32 | 1 => aM o.num | 2 => aI (some ⟨gC, 0, none⟩) o.rs.size cC | _ => cE) FL.out rfl (fun k hk => by
    rcases (show k = 0 ∨ k = 1 ∨ k = 2 ∨ k = 3 by omega) with rfl | rfl | rfl | rfl <;> exact ⟨rfl, rfl, rfl, rfl⟩) (fun k hk => by
    rcases (show k = 0 ∨ k = 1 ∨ k = 2 ∨ k = 3 by omega) with rfl | rfl | rfl | rfl
    · exact jo (WS.out _ (aa FB.out.2.2)).out.sk hl.out
    · exact .int _ _ rfl rfl rfl rfl
    · exact jo FC.out (bE o.rs)
    · exact HE.out.it)
  refine (DJ uV (by decide) (by decide) (pF h o) (Ic.mk 3 0 none 0 0 (some ⟨gL, 0, none⟩) 4 4) jQ HLEN _ (kD.out _ (aa FB.out.1)) (aa hit)).mono ?_
  rintro e wB ⟨rfl, hq⟩
  clear hit
  rw [HRR.1]
  have aS := bb3 FB hq
  refine hK.out _ _ aS ⟨true, true, true, true, true, true, true, true, eO, gC, cC, cE, gL, gT, rfl, ?_, aS, fun _ => aa (FC.out.below hq), fun _ => Am, fun _ => aa (HE.out.kept hq), fun _ => aa (bG FL.out hq), fun _ => lZ, fun e => aa ((mE e).out.below hq), fun e => (fu e)⟩
  rw [ha0]
  simp only [qq]
  try rfl
 ·
  rintro bs a u ⟨yE, F_, Dl, Iu, uA, je, fT, fQ, eO, gC, cC, cE, gL, gT, rfl, rfl, FB, rz, iL, nR, oW, gz, mE, fu⟩ hr
  simp [jv, and_assoc] at hr
  obtain rfl := hr
  refine ⟨_, rfl, fun K hK => ?_⟩
  rw [ha0]
  simp only [qq]
  go_simp
  have aS := bb3 FB (af u (.cells z32 41))
  refine hK.out _ _ aS ⟨yE, F_, Dl, Iu, uA, je, fT, fQ, true, gC, cC, cE, gL, u.heap.size, rfl, ?_, aS, fun e => aa ((rz e).out.below (af u (.cells z32 41))), fun e => (iL e), fun e => aa ((nR e).out.kept (af u (.cells z32 41))), fun e => aa (bG (oW e).out (af u (.cells z32 41))), fun e => (gz e), fun _ => (aa (show bH .u8 41 (u.alloc (.cells z32 41)) u.heap.size (dz 32) by rw [jd]; exact bH.new _ _)), fun _ => (aa FB.out.1.size)⟩
  rw [ha0]
  simp only [qq]
  try rfl
theorem BV (bO fO : Nat) (os : List az) (n c : Nat) (K : Option Addr) (hs : List (List Int)) (m d i : Nat) (hn : Hid (os.length = n)) (hm : Hid (hs.length = m)) (hi : i < n) (him : i ≤ m) (hb1 : n ≤ 1000000) (hb2 : m ≤ 1000000) (h : List Int) (hh : Hid (jf hs i = h)) (hl : Hid (h.length = 32)) (hb : Hid (aC h = true)) (o : az) (ho : Hid (bL os i = o)) (hI : Hid (dJ o)) (hS : fH o) (w : World) (hv : Hid (bz w)) (hO : Hid (Os w (some ⟨bO, fO, none⟩) os)) (hK : Hid (Hs w K hs)) :
  Calls Tryz.prog 131 #[gI (some ⟨bO, fO, none⟩) n c K m d, .int .i64 (i : Int)] w (Rt w (.string (Ml h o))) := by
 obtain ⟨RR, hRR⟩ : ∃ R, tagged (aX uV) (enc (pF h o)) = R := ⟨_, rfl⟩
 rw [show Ml h o = (⟨#[116, 114, 97, 99, 101, 58]⟩ : ByteArray) ++ (txt (jE (tagged (aX uV) (enc (pF h o))))).extract 0 16 from rfl, hRR]
 have HRR : Kp (tagged (aX uV) (enc (pF h o)) = RR) := ⟨hRR⟩
 have fI : Hid (RR.length = 32) := aa (by rw [← hRR]; exact dF _ _)
 have Hq : Hid (Ox RR) := aa (by rw [← hRR]; exact Mw (iU _))
 have jQ : Hid (fits 8 (pF h o)) := aa (IU hl.out hb.out hI.out hS)
 have HLEN : Hid ((enc (pF h o)).length ≤ 16384) := aa (Nn hl.out hS)
 clear hRR
 have hxs : (txt (jE RR)).size = 64 := by rw [Dz, nL, fI.out]
 obtain ⟨E, hE⟩ : ∃ E, enc (pF h o) = E := ⟨_, rfl⟩
 have Kr : Hid (aC E = true) := aa (by rw [← hE]; exact kz jQ.out)
 have wH : Hid (0 < E.length ∧ E.length ≤ 16384) := aa (by rw [← hE]; exact ⟨oD _, HLEN.out⟩)
 have Hz : Kp (enc (pF h o) = E) := ⟨hE⟩
 obtain ⟨nE, Qa⟩ : ∃ n, E.length = n := ⟨_, rfl⟩
 have Zb := aa Qa
 rw [Qa] at wH
 obtain ⟨he0, he1⟩ := wH.out
 rw [← Qa] at wH
 clear hE Qa
 obtain ⟨w0, HW, aj, kC⟩ := st1 (jh (some ⟨bO, fO, none⟩) n c K m d) qA w
 have kO := fq (fun u => Os u (some ⟨bO, fO, none⟩) os) aj hO (·.below)
 have kK := fq (fun u => Hs u K hs) aj hK (·.below)
 have kD := o6 aj hv
 have ah := bP w0
 clear hO hK hv
 obtain ⟨bX, fX, hX, bN, hok⟩ := ((kO.out _ ah)).out i (by rw [hn.out]; exact hi)
 cases hX
 rw [show os.getD i dI = o from ho.out] at bN hok
 obtain ⟨j0, j1, j2, j3, j4, j5, j6, j7, j8⟩ := bN
 have lW := aa hok
 clear hok
 go_in
 go_upto_region 1 with (fail)
 rw [HW.out]
 have zc := kC.out _ ah
 obtain ⟨w1, hw, QU, abR, -, kE⟩ := qZ (lY o) Ah w0
 have ax := jY ah QU
 have lD := bP w1
 clear QU
 have tJ := kC.out _ ax
 have Sc := kE.out _ lD
 go_upto_region 2 with (fail)
 clear zc tJ Sc hw
 have zc := kC.out _ ax
 have Ff := kE.out _ lD
 clear j0 j1 j2 j3 j4 j5 j6 j7 j8
 have zc := kC.out _ ax
 have Ff := kE.out _ lD
 obtain ⟨q1, q2⟩ : Hid (o.al.length = o.na) ∧ Hid (o.zs.length = o.nz) := ⟨aa lW.out.1, aa lW.out.2.1⟩
 have XW : o.na ≤ 20 := by rw [← q1.out]; exact hS.a
 have XV : o.nz ≤ 20 := by rw [← q2.out]; exact hS.z
 have kA := qO (w := w0) (fun u => Sl u o.A o.al) lW.out.2.2.2.1 (·.below)
 have kZ := qO (w := w0) (fun u => Sl u o.Z o.zs) lW.out.2.2.2.2.1 (·.below)
 have aaA : 1 ≤ o.rs.size := hS.r0
 have aaz : o.rs.size ≤ 1000 := by have := hS.r1; omega
 have zc := kC.out _ ax
 have Ff := kE.out _ lD
 try simp only [Act.put]
 clear zc Ff
 have hO := aa (fun (u : World) (h : Hid (Below w0.heap.size w0 u ∧ Below w1.heap.size w1 u)) => And.intro (kC.out u (aa h.out.1)) (kE.out u (aa h.out.2)))
 have nQ := bb2 (aa ⟨ax.out, lD.out⟩) (Below.refl _ _).drew
 refine wU (fun u => Below w0.heap.size w0 u ∧ Below w1.heap.size w1 u) [18] nQ (fun hHeld => ?_)
 obtain ⟨wD, nK⟩ : ∃ u, w1.drew = u := ⟨_, rfl⟩
 rw [nK] at nQ hHeld ⊢
 have zX : Hid (w1.heap.size ≤ wD.heap.size) := aa (by rw [← nK]; exact Nat.le_refl _)
 clear nK
 refine aU 0 1 4 5 ?_
 refine aU 7 8 10 11 ?_
 refine Zn fun a0 ha0 => ?_
 clear hHeld
 refine O3 [2, 3, 6, 9, 12, 13, 14, 15, 16, 17] [[], [0], [0, 1], [0, 1, 2], [0, 1, 2, 3], [0, 1, 2, 3, 4], [0, 1, 2, 3, 4, 5], [0, 1, 2, 3, 4, 5, 6], [0, 1, 2, 3, 4, 5, 6, 7], []] [[1, 2, 3, 4, 5, 6, 7, 8], [2, 3, 4, 5, 6, 7, 8], [3, 4, 5, 6, 7, 8], [4, 5, 6, 7, 8], [5, 6, 7, 8], [6, 7, 8], [7, 8], [8], [], []] 1 #[true, true, true, true, true, true, true, true, true, true, true, true, true, true, true, true, true, true, false] (fun bs a u => ∃ (wu Fg sG vE je fT fQ eO uz l_ : Bool) (fD : Ic) (cR : Ic) (cE : Ic) (gL : Nat) (gE : Nat) (eE : Nat) (gT : Nat), bs = [wu, Fg, sG, vE, je, fT, fQ, eO, uz, l_] ∧ a = ((((((((((a0.put (some 14) (cond wu (.agg (arr .u8 h)) undef)).put (some 15) (cond Fg (.agg #[.int .i64 fD.kind, .int .i64 fD.n, .slice fD.B fD.nb fD.cb, .slice fD.L fD.nl fD.cl]) undef)).put (some 18) (cond sG (.agg #[.int .i64 1, .int .i64 (o.num), .slice none 0 0, .slice none 0 0]) undef)).put (some 21) (cond vE (.agg #[.int .i64 cR.kind, .int .i64 cR.n, .slice cR.B cR.nb cR.cb, .slice cR.L cR.nl cR.cl]) undef)).put (some 24) (cond je (.agg #[.int .i64 cE.kind, .int .i64 cE.n, .slice cE.B cE.nb cE.cb, .slice cE.L cE.nl cE.cl]) undef)).put (some 25) (cond fT (.slice (some ⟨gL, 0, none⟩) 4 4) undef)).put (some 26) (cond fQ (.agg #[.int .i64 3, .int .i64 (0), .slice none 0 0, .slice (some ⟨gL, 0, none⟩) 4 4]) undef)).put (some 27) (cond eO (.slice (some ⟨gE, 0, none⟩) nE eE) undef)).put (some 28) (cond uz (.agg (arr .u8 RR)) undef)).put (some 6) (cond l_ (.pointer (some ⟨gT, 0, none⟩)) undef)) ∧ Hid (Below w0.heap.size w0 u ∧ Below w1.heap.size w1 u) ∧ (Fg = true → Hid (qE w0.heap.size u (.byt h) fD)) ∧ (vE = true → Hid (qE w0.heap.size u (.byt (aX o.rs)) cR)) ∧ (je = true → Hid (qE w0.heap.size u (KD o.E1 o.E2 o.al o.C o.zs) cE)) ∧ (fT = true → Hid (u.heap[gL]? = some (.cells #[.int .i64 fD.kind, .int .i64 fD.n, .slice fD.B fD.nb fD.cb, .slice fD.L fD.nl fD.cl, .int .i64 1, .int .i64 o.num, .slice none 0 0, .slice none 0 0, .int .i64 cR.kind, .int .i64 cR.n, .slice cR.B cR.nb cR.cb, .slice cR.L cR.nl cR.cl, .int .i64 cE.kind, .int .i64 cE.n, .slice cE.B cE.nb cE.cb, .slice cE.L cE.nl cE.cl] 117))) ∧ (fT = true → Hid (w0.heap.size ≤ gL)) ∧ (eO = true → Hid (Sk .u8 u (some ⟨gE, 0, none⟩) E)) ∧ (l_ = true → Hid (bH .u8 41 u gT (dz 32))) ∧ (l_ = true → Hid (w0.heap.size ≤ gT))) ⟨false, false, false, false, false, false, false, false, false, false, (Ic.mk 0 0 none 0 0 none 0 0), (Ic.mk 0 0 none 0 0 none 0 0), (Ic.mk 0 0 none 0 0 none 0 0), 0, 0, 0, 0, rfl, by rw [ha0]; simp only [qq], nQ, nofun, nofun, nofun, nofun, nofun, nofun, nofun, nofun⟩ ?_ ⟨?_, ?_, ?_, ?_, ?_, ?_, ?_, ?_, ?_, ?_, trivial⟩
 ·
  rintro bs a u hbs ⟨wu, Fg, sG, vE, je, fT, fQ, eO, uz, l_, fD, cR, cE, gL, gE, eE, gT, rfl, rfl, FB, AR, Dk, nR, oW, gz, Ia, mE, fu⟩
  obtain ⟨rfl, rfl, rfl, rfl, rfl, rfl, rfl, rfl, rfl, rfl⟩ : wu = true ∧ Fg = true ∧ sG = true ∧ vE = true ∧ je = true ∧ fT = true ∧ fQ = true ∧ eO = true ∧ uz = true ∧ l_ = true := by simpa using hbs
  have HB := AR rfl
  have HR := Dk rfl
  have HE := nR rfl
  have FL := oW rfl
  have lZ := gz rfl
  have FE := Ia rfl
  have FT := mE rfl
  have R9 := fu rfl
  clear AR Dk nR oW gz Ia mE fu
  have hHeld := FB
  have hT := trivial
  rw [ha0]
  simp only [qq]
  have um := aa FB.out.1
  have Za := aa FB.out.2
  refine mR 18 fun K hK => ?_
  rw [show (if Region.wanted _ _ = true then _ else _ : Prop) = _ from if_pos rfl]
  refine wp_store_row 41 _ _ rfl gT (arr .u8 RR) rfl rfl 41 _ FT.out (ay fI.out) (eB (l := dz 32) rfl fI.out) (dh _) ?_
  refine hK.out _ _ ?_
  clear hK K
  try simp only [qq]
  refine gH ?_
  clear hHeld hT ha0
  obtain ⟨wq, hwq⟩ : ∃ x, u.setRow gT (arr .u8 RR) = x := ⟨_, rfl⟩
  have QN : Hid (bH .u8 41 wq gT RR) := aa (by rw [← hwq]; exact FT.out.setRow)
  have I9 : Hid (Below w0.heap.size w0 wq) := aa (by rw [← hwq]; exact ai FB.out.1 R9.out)
  rw [hwq]
  clear hwq
  go_wp2_with ((with_reducible show wpList _ _ _ (⟨some 29, _, _, _, _, _⟩ :: _) _ _); refine wpList_load_row rfl 41 _ rfl gT rfl _ _ _ _ QN.out Tryz.underlying41 rfl (ay fI.out) ?_)
  refine (LH RR fI Hq _).mono ?_
  rintro e w9 ⟨rfl, xu⟩
  have bV := ag aj.out (ag I9.out xu)
  go_wp2
  go_ret
  exact ⟨rfl, bV⟩
 ·
  rintro bs a u ⟨wu, Fg, sG, vE, je, fT, fQ, eO, uz, l_, fD, cR, cE, gL, gE, eE, gT, rfl, rfl, FB, AR, Dk, nR, oW, gz, Ia, mE, fu⟩ hr
  simp [jv, and_assoc] at hr
  obtain ⟨rfl, rfl, rfl, rfl, rfl, rfl, rfl, rfl, rfl⟩ := hr
  refine ⟨_, rfl, fun K hK => ?_⟩
  rw [ha0]
  simp only [qq]
  go_simp
  refine (D_ (some ⟨bO, fO, none⟩) n c _ hs m d i hm him hb2 _ (kK.out _ (aa FB.out.1))).mono ?_
  rintro e wB ⟨rfl, hq⟩
  rw [hh.out]
  have aS := bb2 FB hq
  refine hK.out _ _ aS ⟨true, false, false, false, false, false, false, false, false, l_, fD, cR, cE, gL, gE, eE, gT, rfl, ?_, aS, nofun, nofun, nofun, nofun, nofun, nofun, fun e => aa ((mE e).out.below hq), fun e => (fu e)⟩
  rw [ha0]
  simp only [qq]
  try rfl
 ·
  rintro bs a u ⟨wu, Fg, sG, vE, je, fT, fQ, eO, uz, l_, fD, cR, cE, gL, gE, eE, gT, rfl, rfl, FB, AR, Dk, nR, oW, gz, Ia, mE, fu⟩ hr
  simp [jv, and_assoc] at hr
  obtain ⟨rfl, rfl, rfl, rfl, rfl, rfl, rfl, rfl, rfl⟩ := hr
  refine ⟨_, rfl, fun K hK => ?_⟩
  rw [ha0]
  simp only [qq]
  go_simp
  refine (vk h hl _).mono ?_
  rintro e wB ⟨cB, rfl, hit, hq⟩
  have aS := bb2 FB hq
  refine hK.out _ _ aS ⟨true, true, false, false, false, false, false, false, false, l_, cB, cR, cE, gL, gE, eE, gT, rfl, ?_, aS, fun _ => (aa (hit.mono (by have := FB.out.1.size; omega))), nofun, nofun, nofun, nofun, nofun, fun e => aa ((mE e).out.below hq), fun e => (fu e)⟩
  rw [ha0]
  simp only [qq]
  try rfl
 ·
  rintro bs a u ⟨wu, Fg, sG, vE, je, fT, fQ, eO, uz, l_, fD, cR, cE, gL, gE, eE, gT, rfl, rfl, FB, AR, Dk, nR, oW, gz, Ia, mE, fu⟩ hr
  simp [jv, and_assoc] at hr
  obtain ⟨rfl, rfl, rfl, rfl, rfl, rfl, rfl, rfl, rfl⟩ := hr
  have HB := AR rfl
  refine ⟨_, rfl, fun K hK => ?_⟩
  rw [ha0]
  simp only [qq]
  go_simp
  refine (og o.num _).mono ?_
  rintro e wB ⟨rfl, hq⟩
  have aS := bb2 FB hq
  refine hK.out _ _ aS ⟨true, true, true, false, false, false, false, false, false, l_, fD, cR, cE, gL, gE, eE, gT, rfl, ?_, aS, fun _ => aa (HB.out.kept hq), nofun, nofun, nofun, nofun, nofun, fun e => aa ((mE e).out.below hq), fun e => (fu e)⟩
  rw [ha0]
  simp only [qq]
  try rfl
 ·
  rintro bs a u ⟨wu, Fg, sG, vE, je, fT, fQ, eO, uz, l_, fD, cR, cE, gL, gE, eE, gT, rfl, rfl, FB, AR, Dk, nR, oW, gz, Ia, mE, fu⟩ hr
  simp [jv, and_assoc] at hr
  obtain ⟨rfl, rfl, rfl, rfl, rfl, rfl, rfl, rfl, rfl⟩ := hr
  have HB := AR rfl
  refine ⟨_, rfl, fun K hK => ?_⟩
  rw [ha0]
  simp only [qq]
  go_simp
  refine (DX o.rs aaA aaz _).mono ?_
  rintro e wB ⟨cB, rfl, hit, hq⟩
  have aS := bb2 FB hq
  refine hK.out _ _ aS ⟨true, true, true, true, false, false, false, false, false, l_, fD, cB, cE, gL, gE, eE, gT, rfl, ?_, aS, fun _ => aa (HB.out.kept hq), fun _ => (aa (hit.mono (by have := FB.out.1.size; omega))), nofun, nofun, nofun, nofun, fun e => aa ((mE e).out.below hq), fun e => (fu e)⟩
  rw [ha0]
  simp only [qq]
  try rfl
 ·
  rintro bs a u ⟨wu, Fg, sG, vE, je, fT, fQ, eO, uz, l_, fD, cR, cE, gL, gE, eE, gT, rfl, rfl, FB, AR, Dk, nR, oW, gz, Ia, mE, fu⟩ hr
  simp [jv, and_assoc] at hr
  obtain ⟨rfl, rfl, rfl, rfl, rfl, rfl, rfl, rfl, rfl⟩ := hr
  have HB := AR rfl
  have HR := Dk rfl
  refine ⟨_, rfl, fun K hK => ?_⟩
  rw [ha0]
  simp only [qq]
  go_simp
  refine (zi o.E1 o.E2 o.A o.na o.ca o.al o.C o.Z o.nz o.cz o.zs q1 q2 (by omega) (by omega) _ (kA.out _ (aa FB.out.1)) (kZ.out _ (aa FB.out.1))).mono ?_
  rintro e wB ⟨cB, rfl, hit, hq⟩
  have aS := bb2 FB hq
  refine hK.out _ _ aS ⟨true, true, true, true, true, false, false, false, false, l_, fD, cR, cB, gL, gE, eE, gT, rfl, ?_, aS, fun _ => aa (HB.out.kept hq), fun _ => aa (HR.out.kept hq), fun _ => (aa (hit.mono (by have := FB.out.1.size; omega))), nofun, nofun, nofun, fun e => aa ((mE e).out.below hq), fun e => (fu e)⟩
  rw [ha0]
  simp only [qq]
  try rfl
 ·
  rintro bs a u ⟨wu, Fg, sG, vE, je, fT, fQ, eO, uz, l_, fD, cR, cE, gL, gE, eE, gT, rfl, rfl, FB, AR, Dk, nR, oW, gz, Ia, mE, fu⟩ hr
  simp [jv, and_assoc] at hr
  obtain ⟨rfl, rfl, rfl, rfl, rfl, rfl, rfl, rfl, rfl⟩ := hr
  have HB := AR rfl
  have HR := Dk rfl
  have HE := nR rfl
  refine ⟨_, rfl, fun K hK => ?_⟩
  rw [ha0]
  simp only [qq]
  go_simp
  have aS := bb2 FB (af u (.cells #[.int .i64 fD.kind, .int .i64 fD.n, .slice fD.B fD.nb fD.cb, .slice fD.L fD.nl fD.cl, .int .i64 1, .int .i64 o.num, .slice none 0 0, .slice none 0 0, .int .i64 cR.kind, .int .i64 cR.n, .slice cR.B cR.nb cR.cb, .slice cR.L cR.nl cR.cl, .int .i64 cE.kind, .int .i64 cE.n, .slice cE.B cE.nb cE.cb, .slice cE.L cE.nl cE.cl] 117))
  refine hK.out _ _ aS ⟨true, true, true, true, true, true, false, false, false, l_, fD, cR, cE, u.heap.size, gE, eE, gT, rfl, ?_, aS, fun _ => aa (HB.out.kept (af u (.cells #[.int .i64 fD.kind, .int .i64 fD.n, .slice fD.B fD.nb fD.cb, .slice fD.L fD.nl fD.cl, .int .i64 1, .int .i64 o.num, .slice none 0 0, .slice none 0 0, .int .i64 cR.kind, .int .i64 cR.n, .slice cR.B cR.nb cR.cb, .slice cR.L cR.nl cR.cl, .int .i64 cE.kind, .int .i64 cE.n, .slice cE.B cE.nb cE.cb, .slice cE.L cE.nl cE.cl] 117))), fun _ => aa (HR.out.kept (af u (.cells #[.int .i64 fD.kind, .int .i64 fD.n, .slice fD.B fD.nb fD.cb, .slice fD.L fD.nl fD.cl, .int .i64 1, .int .i64 o.num, .slice none 0 0, .slice none 0 0, .int .i64 cR.kind, .int .i64 cR.n, .slice cR.B cR.nb cR.cb, .slice cR.L cR.nl cR.cl, .int .i64 cE.kind, .int .i64 cE.n, .slice cE.B cE.nb cE.cb, .slice cE.L cE.nl cE.cl] 117))), fun _ => aa (HE.out.kept (af u (.cells #[.int .i64 fD.kind, .int .i64 fD.n, .slice fD.B fD.nb fD.cb, .slice fD.L fD.nl fD.cl, .int .i64 1, .int .i64 o.num, .slice none 0 0, .slice none 0 0, .int .i64 cR.kind, .int .i64 cR.n, .slice cR.B cR.nb cR.cb, .slice cR.L cR.nl cR.cl, .int .i64 cE.kind, .int .i64 cE.n, .slice cE.B cE.nb cE.cb, .slice cE.L cE.nl cE.cl] 117))), fun _ => (aa (heap_alloc_new u _)), fun _ => (aa (by have := FB.out.1.size; omega)), nofun, fun e => aa ((mE e).out.below (af u (.cells #[.int .i64 fD.kind, .int .i64 fD.n, .slice fD.B fD.nb fD.cb, .slice fD.L fD.nl fD.cl, .int .i64 1, .int .i64 o.num, .slice none 0 0, .slice none 0 0, .int .i64 cR.kind, .int .i64 cR.n, .slice cR.B cR.nb cR.cb, .slice cR.L cR.nl cR.cl, .int .i64 cE.kind, .int .i64 cE.n, .slice cE.B cE.nb cE.cb, .slice cE.L cE.nl cE.cl] 117))), fun e => (fu e)⟩
  rw [ha0]
  simp only [qq]
  try rfl
 ·
  rintro bs a u ⟨wu, Fg, sG, vE, je, fT, fQ, eO, uz, l_, fD, cR, cE, gL, gE, eE, gT, rfl, rfl, FB, AR, Dk, nR, oW, gz, Ia, mE, fu⟩ hr
  simp [jv, and_assoc] at hr
  obtain ⟨rfl, rfl, rfl, rfl, rfl, rfl, rfl, rfl, rfl⟩ := hr
  have HB := AR rfl
  have HR := Dk rfl
  have HE := nR rfl
  have FL := oW rfl
  have lZ := gz rfl
  refine ⟨_, rfl, fun K hK => ?_⟩
  rw [ha0]
  simp only [qq]
  go_simp
  refine (rC (some ⟨gL, 0, none⟩) 4 4 _).mono ?_
  rintro e wB ⟨rfl, hq⟩
  have aS := bb2 FB hq
  refine hK.out _ _ aS ⟨true, true, true, true, true, true, true, false, false, l_, fD, cR, cE, gL, gE, eE, gT, rfl, ?_, aS, fun _ => aa (HB.out.kept hq), fun _ => aa (HR.out.kept hq), fun _ => aa (HE.out.kept hq), fun _ => aa (bG FL.out hq), fun _ => lZ, nofun, fun e => aa ((mE e).out.below hq), fun e => (fu e)⟩
  rw [ha0]
  simp only [qq]
  try rfl
 ·
  rintro bs a u ⟨wu, Fg, sG, vE, je, fT, fQ, eO, uz, l_, fD, cR, cE, gL, gE, eE, gT, rfl, rfl, FB, AR, Dk, nR, oW, gz, Ia, mE, fu⟩ hr
  simp [jv, and_assoc] at hr
  obtain ⟨rfl, rfl, rfl, rfl, rfl, rfl, rfl, rfl, rfl⟩ := hr
  have HB := AR rfl
  have HR := Dk rfl
  have HE := nR rfl
  have FL := oW rfl
  have lZ := gz rfl
  refine ⟨_, rfl, fun K hK => ?_⟩
  rw [ha0]
  simp only [qq]
  go_simp
  have hit : nV u (pF h o) (Ic.mk 3 0 none 0 0 (some ⟨gL, 0, none⟩) 4 4) := vH (fun k => match k with | 0 => fD | 1 => aM o.num | 2 => cR | _ => cE) FL.out rfl (fun k hk => by
    rcases (show k = 0 ∨ k = 1 ∨ k = 2 ∨ k = 3 by omega) with rfl | rfl | rfl | rfl <;> exact ⟨rfl, rfl, rfl, rfl⟩) (fun k hk => by
    rcases (show k = 0 ∨ k = 1 ∨ k = 2 ∨ k = 3 by omega) with rfl | rfl | rfl | rfl
    · exact HB.out.it
    · exact .int _ _ rfl rfl rfl rfl
    · exact HR.out.it
    · exact HE.out.it)
  refine (u_ 8 (pF h o) (Ic.mk 3 0 none 0 0 (some ⟨gL, 0, none⟩) 4 4) _ jQ.out hit HLEN.out).mono ?_
  rintro e wB ⟨v4, rfl, Av, hq⟩
  rw [Hz.1] at Av
  obtain ⟨g4, cap4, e4, hg4, -, -, rT⟩ := Av.cells wH.out.1
  rw [Zb.out] at e4
  subst e4
  clear hit Av
  have aS := bb2 FB hq
  refine hK.out _ _ aS ⟨true, true, true, true, true, true, true, true, false, l_, fD, cR, cE, gL, g4, cap4, gT, rfl, ?_, aS, fun _ => aa (HB.out.kept hq), fun _ => aa (HR.out.kept hq), fun _ => aa (HE.out.kept hq), fun _ => aa (bG FL.out hq), fun _ => lZ, fun _ => (aa rT), fun e => aa ((mE e).out.below hq), fun e => (fu e)⟩
  rw [ha0]
  simp only [qq]
  try rfl
 ·
  rintro bs a u ⟨wu, Fg, sG, vE, je, fT, fQ, eO, uz, l_, fD, cR, cE, gL, gE, eE, gT, rfl, rfl, FB, AR, Dk, nR, oW, gz, Ia, mE, fu⟩ hr
  simp [jv, and_assoc] at hr
  obtain ⟨rfl, rfl, rfl, rfl, rfl, rfl, rfl, rfl, rfl⟩ := hr
  have HB := AR rfl
  have HR := Dk rfl
  have HE := nR rfl
  have FL := oW rfl
  have lZ := gz rfl
  have FE := Ia rfl
  refine ⟨_, rfl, fun K hK => ?_⟩
  rw [ha0]
  simp only [qq]
  go_simp
  refine (lJ uV (by decide) (by decide) gE 0 eE E nE Zb he0 (by omega) Kr _ FE).mono ?_
  rintro e wB ⟨rfl, hq⟩
  rw [← Hz.1, HRR.1]
  have aS := bb2 FB hq
  refine hK.out _ _ aS ⟨true, true, true, true, true, true, true, true, true, l_, fD, cR, cE, gL, gE, eE, gT, rfl, ?_, aS, fun _ => aa (HB.out.kept hq), fun _ => aa (HR.out.kept hq), fun _ => aa (HE.out.kept hq), fun _ => aa (bG FL.out hq), fun _ => lZ, fun _ => aa (FE.out.below hq), fun e => aa ((mE e).out.below hq), fun e => (fu e)⟩
  rw [ha0]
  simp only [qq]
  try rfl
 ·
  rintro bs a u ⟨wu, Fg, sG, vE, je, fT, fQ, eO, uz, l_, fD, cR, cE, gL, gE, eE, gT, rfl, rfl, FB, AR, Dk, nR, oW, gz, Ia, mE, fu⟩ hr
  simp [jv, and_assoc] at hr
  obtain rfl := hr
  refine ⟨_, rfl, fun K hK => ?_⟩
  rw [ha0]
  simp only [qq]
  go_simp
  have aS := bb2 FB (af u (.cells z32 41))
  refine hK.out _ _ aS ⟨wu, Fg, sG, vE, je, fT, fQ, eO, uz, true, fD, cR, cE, gL, gE, eE, u.heap.size, rfl, ?_, aS, fun e => aa ((AR e).out.kept (af u (.cells z32 41))), fun e => aa ((Dk e).out.kept (af u (.cells z32 41))), fun e => aa ((nR e).out.kept (af u (.cells z32 41))), fun e => aa (bG (oW e).out (af u (.cells z32 41))), fun e => (gz e), fun e => aa ((Ia e).out.below (af u (.cells z32 41))), fun _ => (aa (show bH .u8 41 (u.alloc (.cells z32 41)) u.heap.size (dz 32) by rw [jd]; exact bH.new _ _)), fun _ => (aa FB.out.1.size)⟩
  rw [ha0]
  simp only [qq]
  try rfl
def DC (P Q G need : Int) (cs ks : List Int) (E1 ix v C : Int) (lb al zs : List Int) : Bool := tL P Q G need cs ks && (uB ks.length ix && Br P Q G G (ks.getD (ix - 1).toNat 0) E1 v C lb al zs)
theorem Sm (P Q G need : Int) (Cs : Option Addr) (cs : List Int) (cn cc : Nat) (Ks : Option Addr) (ks : List Int) (kn kc : Nat) (hcn : Hid (cs.length = cn)) (hkn : Hid (ks.length = kn)) (E1 E2 : Int) (A : Option Addr) (na ca : Nat) (C : Int) (Z : Option Addr) (nz cz : Nat) (ix : Int) (v : Int) (pA : Option Addr) (pX : List Int) (l8 tu : Nat) (pC : Int) (pZ : Option Addr) (pW : List Int) (l6 tq : Nat) (eu : Hid (pX.length = l8)) (hzn : Hid (pW.length = l6)) (hna : l8 < 1000000) (hnz : l6 < 1000000) (s : ByteArray) (hs : s.size ≤ 1000) (ht : Hid (tL P Q G need cs ks = false)) (hQ : Q < 9223372036854775808) (w : World) (hv : Hid (Vars w)) (hd0 : Hid (bz w)) (hC : Hid (Sl w Cs cs)) (hK : Hid (Sl w Ks ks)) (iI : Hid (Sl w pA pX)) (iH : Hid (Sl w pZ pW)) :
  Calls Tryz.prog 126 #[gv P Q G, kN need Cs cn cc Ks kn kc, J6 E1 E2 A na ca C Z nz cz, .string s, PG ix v pA l8 tu pC pZ l6 tq] w (Rt w (.bool false)) := by
 obtain ⟨w0, HW, aj, kC⟩ := KA (bq P Q G) fE (wJ need Cs cn cc Ks kn kc) fE (Nk E1 E2 A na ca C Z nz cz) AB (Ty ix v pA l8 tu pC pZ l6 tq) Ai w
 have kV := mkV aj hv
 have kD := o6 aj hd0
 have qU := mkS aj hC
 have xq := mkS aj hK
 have tQ := mkS aj iI
 have tO := mkS aj iH
 have ah := bP w0
 clear hv hd0 hC hK iI iH
 go_in
 go_wp2_with fail
 rw [HW.out]
 have hO := kC
 refine iW [] ah (fun hHeld => ?_)
 refine aL 0 ?_
 refine aL 1 ?_
 refine bY 2 fun K hK => ?_
 go_simp
 refine (n_ P Q G need Cs cs cn cc Ks ks kn kc hcn hkn false ht hQ _ (kV.out _ hHeld) (qU.out _ hHeld) (xq.out _ hHeld)).mono ?_
 rintro e wA ⟨rfl, bS⟩
 refine hK.out _ _ (bF hHeld bS) (fun hHeld => ?_)
 clear hK K
 refine aL 3 ?_
 refine ek 4 5 6 7 ?_
 refine aL 8 ?_
 refine aL 9 ?_
 refine ek 10 11 12 13 ?_
 refine ek 14 15 16 17 ?_
 refine ek 18 19 20 21 ?_
 refine ek 22 23 24 25 ?_
 refine jD 26 ?_
 refine jD 27 ?_
 refine aL 28 ?_
 refine aL 29 ?_
 refine gH ?_
 clear hO
 have bI := hHeld
 clear hHeld
 have zc := kC.out _ bI
 go_wp2
 go_ret
 exact ⟨rfl, gy aj bI⟩
theorem Sj (P Q G need : Int) (Cs : Option Addr) (cs : List Int) (cn cc : Nat) (Ks : Option Addr) (ks : List Int) (kn kc : Nat) (hcn : Hid (cs.length = cn)) (hkn : Hid (ks.length = kn)) (E1 E2 : Int) (A : Option Addr) (na ca : Nat) (C : Int) (Z : Option Addr) (nz cz : Nat) (ix : Int) (v : Int) (pA : Option Addr) (pX : List Int) (l8 tu : Nat) (pC : Int) (pZ : Option Addr) (pW : List Int) (l6 tq : Nat) (eu : Hid (pX.length = l8)) (hzn : Hid (pW.length = l6)) (hna : l8 < 1000000) (hnz : l6 < 1000000) (s : ByteArray) (hs : s.size ≤ 1000) (ht : Hid (tL P Q G need cs ks = true)) (hm : Hid (uB kn ix = false)) (hQ : Q < 9223372036854775808) (w : World) (hv : Hid (Vars w)) (hd0 : Hid (bz w)) (hC : Hid (Sl w Cs cs)) (hK : Hid (Sl w Ks ks)) (iI : Hid (Sl w pA pX)) (iH : Hid (Sl w pZ pW)) :
  Calls Tryz.prog 126 #[gv P Q G, kN need Cs cn cc Ks kn kc, J6 E1 E2 A na ca C Z nz cz, .string s, PG ix v pA l8 tu pC pZ l6 tq] w (Rt w (.bool false)) := by
 obtain ⟨w0, HW, aj, kC⟩ := KA (bq P Q G) fE (wJ need Cs cn cc Ks kn kc) fE (Nk E1 E2 A na ca C Z nz cz) AB (Ty ix v pA l8 tu pC pZ l6 tq) Ai w
 have kV := mkV aj hv
 have kD := o6 aj hd0
 have qU := mkS aj hC
 have xq := mkS aj hK
 have tQ := mkS aj iI
 have tO := mkS aj iH
 have ah := bP w0
 clear hv hd0 hC hK iI iH
 go_in
 go_wp2_with fail
 rw [HW.out]
 have hO := kC
 refine iW [] ah (fun hHeld => ?_)
 refine aL 0 ?_
 refine aL 1 ?_
 refine bY 2 fun K hK => ?_
 go_simp
 refine (n_ P Q G need Cs cs cn cc Ks ks kn kc hcn hkn true ht hQ _ (kV.out _ hHeld) (qU.out _ hHeld) (xq.out _ hHeld)).mono ?_
 rintro e wA ⟨rfl, bS⟩
 refine hK.out _ _ (bF hHeld bS) (fun hHeld => ?_)
 clear hK K
 refine aU 3 4 5 6 ?_
 refine bY 7 fun K hK => ?_
 go_simp
 refine (zz need Cs cn cc Ks kn kc ix false hm _).mono ?_
 rintro e wA ⟨rfl, bS⟩
 refine hK.out _ _ (bF hHeld bS) (fun hHeld => ?_)
 clear hK K
 refine aL 8 ?_
 refine aL 9 ?_
 refine ek 10 11 12 13 ?_
 refine ek 14 15 16 17 ?_
 refine ek 18 19 20 21 ?_
 refine ek 22 23 24 25 ?_
 refine jD 26 ?_
 refine jD 27 ?_
 refine aL 28 ?_
 refine aL 29 ?_
 refine gH ?_
 clear hO
 have bI := hHeld
 clear hHeld
 have zc := kC.out _ bI
 go_wp2
 go_ret
 exact ⟨rfl, gy aj bI⟩
theorem Si (P Q G need : Int) (Cs : Option Addr) (cs : List Int) (cn cc : Nat) (bK oK : Nat) (ks : List Int) (kn kc : Nat) (hcn : Hid (cs.length = cn)) (hkn : Hid (ks.length = kn)) (E1 E2 : Int) (A : Option Addr) (na ca : Nat) (C : Int) (Z : Option Addr) (nz cz : Nat) (j : Nat) (hjk : j < kn) (hkb : kn ≤ 8) (v : Int) (pA : Option Addr) (pX : List Int) (l8 tu : Nat) (pC : Int) (pZ : Option Addr) (pW : List Int) (l6 tq : Nat) (eu : Hid (pX.length = l8)) (hzn : Hid (pW.length = l6)) (hna : l8 < 1000000) (hnz : l6 < 1000000) (s : ByteArray) (hs : s.size ≤ 1000) (ht : Hid (tL P Q G need cs ks = true)) (hm : Hid (uB kn ((j : Int) + 1) = true)) (kj : Int) (Xw : Hid (ks.getD j 0 = kj)) (r : Bool) (HV : Kp (Br P Q G G kj E1 v pC (aX s) pX pW = r)) (hQ : Q < 9223372036854775808) (w : World) (hv : Hid (Vars w)) (hd0 : Hid (bz w)) (hC : Hid (Sl w Cs cs)) (hK : Hid (Sl w (some ⟨bK, oK, none⟩) ks)) (iI : Hid (Sl w pA pX)) (iH : Hid (Sl w pZ pW)) :
  Calls Tryz.prog 126 #[gv P Q G, kN need Cs cn cc (some ⟨bK, oK, none⟩) kn kc, J6 E1 E2 A na ca C Z nz cz, .string s, PG ((j : Int) + 1) v pA l8 tu pC pZ l6 tq] w (Rt w (.bool r)) := by
 obtain ⟨dj, dj1, dj2, dj3, dj4⟩ := vO hjk hkb
 have hjl : j < ks.length := by rw [hkn.out]; exact hjk
 obtain ⟨w0, HW, aj, kC⟩ := KA (bq P Q G) fE (wJ need Cs cn cc (some ⟨bK, oK, none⟩) kn kc) fE (Nk E1 E2 A na ca C Z nz cz) AB (Ty ((j : Int) + 1) v pA l8 tu pC pZ l6 tq) Ai w
 have kV := mkV aj hv
 have kD := o6 aj hd0
 have qU := mkS aj hC
 have xq := mkS aj hK
 have tQ := mkS aj iI
 have tO := mkS aj iH
 have ah := bP w0
 clear hv hd0 hC hK iI iH
 have kI := aa (show ∀ u : World, Hid (Below w0.heap.size w0 u) → u.cell? ⟨bK, oK + j, none⟩ = some (.int .i64 kj) from fun u h => by
  obtain ⟨b9, o9, hA, hi⟩ := (xq.out u h).out j hjl
  cases hA
  rwa [Xw.out] at hi)
 go_in
 go_wp2_with fail
 rw [HW.out]
 have hO := aa (fun (u : World) (h : Hid (Below w0.heap.size w0 u)) => And.intro (kC.out u h) (kI.out u h))
 refine iW [] ah (fun hHeld => ?_)
 refine aL 0 ?_
 refine aL 1 ?_
 refine bY 2 fun K hK => ?_
 go_simp
 refine (n_ P Q G need Cs cs cn cc (some ⟨bK, oK, none⟩) ks kn kc hcn hkn true ht hQ _ (kV.out _ hHeld) (qU.out _ hHeld) (xq.out _ hHeld)).mono ?_
 rintro e wA ⟨rfl, bS⟩
 refine hK.out _ _ (bF hHeld bS) (fun hHeld => ?_)
 clear hK K
 refine aU 3 4 5 6 ?_
 refine bY 7 fun K hK => ?_
 go_simp
 refine (zz need Cs cn cc (some ⟨bK, oK, none⟩) kn kc ((j : Int) + 1) true hm _).mono ?_
 rintro e wA ⟨rfl, bS⟩
 refine hK.out _ _ (bF hHeld bS) (fun hHeld => ?_)
 clear hK K
 refine aU 8 9 10 11 ?_
 refine aU 12 13 14 15 ?_
 refine aU 16 17 18 19 ?_
 refine aU 20 21 22 23 ?_
 refine aL 24 ?_
 refine aL 25 ?_
 refine aL 26 ?_
 refine bY 27 fun K hK => ?_
 go_simp
 refine (Nl P Q G G kj E1 v pA pX l8 tu pC pZ pW l6 tq eu hzn hna hnz hQ s hs r HV _ (kV.out _ hHeld) (kD.out _ hHeld) (tQ.out _ hHeld) (tO.out _ hHeld)).mono ?_
 rintro e wA ⟨rfl, bS⟩
 refine hK.out _ _ (bF hHeld bS) (fun hHeld => ?_)
 clear hK K
 refine aL 28 ?_
 refine aL 29 ?_
 refine gH ?_
 clear hO
 have bI := hHeld
 clear hHeld
 have zc := kC.out _ bI
 have Jg := kI.out _ bI
 go_wp2
 go_ret
 exact ⟨rfl, gy aj bI⟩
theorem KU (P Q G need : Int) (Cs : Option Addr) (cs : List Int) (cn cc : Nat) (Ks : Option Addr) (ks : List Int) (kn kc : Nat) (hcn : Hid (cs.length = cn)) (hkn : Hid (ks.length = kn)) (E1 E2 : Int) (A : Option Addr) (na ca : Nat) (C : Int) (Z : Option Addr) (nz cz : Nat) (ix : Int) (v : Int) (pA : Option Addr) (pX : List Int) (l8 tu : Nat) (pC : Int) (pZ : Option Addr) (pW : List Int) (l6 tq : Nat) (eu : Hid (pX.length = l8)) (hzn : Hid (pW.length = l6)) (hna : l8 < 1000000) (hnz : l6 < 1000000) (s : ByteArray) (hs : s.size ≤ 1000) (r : Bool) (hr : Kp (DC P Q G need cs ks E1 ix v pC (aX s) pX pW = r)) (hQ : Q < 9223372036854775808) (w : World) (hv : Hid (Vars w)) (hd0 : Hid (bz w)) (hC : Hid (Sl w Cs cs)) (hK : Hid (Sl w Ks ks)) (iI : Hid (Sl w pA pX)) (iH : Hid (Sl w pZ pW)) :
  Calls Tryz.prog 126 #[gv P Q G, kN need Cs cn cc Ks kn kc, J6 E1 E2 A na ca C Z nz cz, .string s, PG ix v pA l8 tu pC pZ l6 tq] w (Rt w (.bool r)) := by
 have hr1 := hr.1
 unfold DC at hr1
 rw [hkn.out] at hr1
 cases h1 : tL P Q G need cs ks with
 | false =>
  obtain rfl : r = false := by rw [← hr1, h1]; rfl
  exact Sm P Q G need Cs cs cn cc Ks ks kn kc hcn hkn E1 E2 A na ca C Z nz cz ix v pA pX l8 tu pC pZ pW l6 tq eu hzn hna hnz s hs (aa h1) hQ w hv hd0 hC hK iI iH
 | true =>
  cases h2 : uB kn ix with
  | false =>
   obtain rfl : r = false := by rw [← hr1, h1, h2]; rfl
   exact Sj P Q G need Cs cs cn cc Ks ks kn kc hcn hkn E1 E2 A na ca C Z nz cz ix v pA pX l8 tu pC pZ pW l6 tq eu hzn hna hnz s hs (aa h1) (aa h2) hQ w hv hd0 hC hK iI iH
  | true =>
   obtain ⟨q8, n1, n2, n3, n4, n5, n6⟩ := wL h1 hcn.out hkn.out
   obtain ⟨j, hjk, rfl⟩ := zA h2
   obtain ⟨bK, oK, rfl⟩ := sF hK.out (by rw [hkn.out]; omega)
   rw [h1, h2, show ((j : Int) + 1 - 1).toNat = j by omega] at hr1
   exact Si P Q G need Cs cs cn cc bK oK ks kn kc hcn hkn E1 E2 A na ca C Z nz cz j hjk n2 v pA pX l8 tu pC pZ pW l6 tq eu hzn hna hnz s hs (aa h1) (aa h2) _ (aa rfl) r ⟨by rw [← hr1]; rfl⟩ hQ w hv hd0 hC hK iI iH
theorem Pg (P Q G need : Int) (Cs : Option Addr) (cs : List Int) (cn cc : Nat) (Ks : Option Addr) (ks : List Int) (kn kc : Nat) (hcn : Hid (cs.length = cn)) (hkn : Hid (ks.length = kn)) (E1 E2 : Int) (A : Option Addr) (na ca : Nat) (C : Int) (Z : Option Addr) (nz cz : Nat) (ix : Int) (v : Int) (pA : Option Addr) (pX : List Int) (l8 tu : Nat) (pC : Int) (pZ : Option Addr) (pW : List Int) (l6 tq : Nat) (eu : Hid (pX.length = l8)) (hzn : Hid (pW.length = l6)) (hna : l8 < 1000000) (hnz : l6 < 1000000) (s : ByteArray) (hs : s.size ≤ 1000) (ht : Hid (tL P Q G need cs ks = false)) (hQ : Q < 9223372036854775808) (w : World) (hC : Hid (Sl w Cs cs)) (hK : Hid (Sl w Ks ks)) (iI : Hid (Sl w pA pX)) (iH : Hid (Sl w pZ pW)) :
  Calls Tryz.prog 130 #[gv P Q G, kN need Cs cn cc Ks kn kc, J6 E1 E2 A na ca C Z nz cz, .string s, PG ix v pA l8 tu pC pZ l6 tq] w (Rt w (.bool false)) := by
 obtain ⟨w0, HW, aj, kC⟩ := KA (bq P Q G) fE (wJ need Cs cn cc Ks kn kc) fE (Nk E1 E2 A na ca C Z nz cz) AB (Ty ix v pA l8 tu pC pZ l6 tq) Ai w
 have qU := mkS aj hC
 have xq := mkS aj hK
 have tQ := mkS aj iI
 have tO := mkS aj iH
 have ah := bP w0
 clear hC hK iI iH
 go_in
 go_wp2_with fail
 rw [HW.out]
 have hO := kC
 refine iW [] ah (fun hHeld => ?_)
 refine aL 0 ?_
 refine aL 1 ?_
 refine bY 2 fun K hK => ?_
 go_simp
 refine (ji P Q G need Cs cs cn cc Ks ks kn kc hcn hkn false ht hQ _ (qU.out _ hHeld) (xq.out _ hHeld)).mono ?_
 rintro e wA ⟨rfl, bS⟩
 refine hK.out _ _ (bF hHeld bS) (fun hHeld => ?_)
 clear hK K
 refine aL 3 ?_
 refine aL 4 ?_
 refine ek 5 6 7 8 ?_
 refine jD 9 ?_
 refine aL 10 ?_
 refine aL 11 ?_
 refine ek 12 13 14 15 ?_
 refine ek 16 17 18 19 ?_
 refine ek 20 21 22 23 ?_
 refine ek 24 25 26 27 ?_
 refine aL 28 ?_
 refine gH ?_
 clear hO
 have bI := hHeld
 clear hHeld
 have zc := kC.out _ bI
 go_wp2
 go_ret
 exact ⟨rfl, gy aj bI⟩
theorem Pf (P Q G need : Int) (Cs : Option Addr) (cs : List Int) (cn cc : Nat) (Ks : Option Addr) (ks : List Int) (kn kc : Nat) (hcn : Hid (cs.length = cn)) (hkn : Hid (ks.length = kn)) (E1 E2 : Int) (A : Option Addr) (na ca : Nat) (C : Int) (Z : Option Addr) (nz cz : Nat) (ix : Int) (v : Int) (pA : Option Addr) (pX : List Int) (l8 tu : Nat) (pC : Int) (pZ : Option Addr) (pW : List Int) (l6 tq : Nat) (eu : Hid (pX.length = l8)) (hzn : Hid (pW.length = l6)) (hna : l8 < 1000000) (hnz : l6 < 1000000) (s : ByteArray) (hs : s.size ≤ 1000) (ht : Hid (tL P Q G need cs ks = true)) (hm : Hid (uB kn ix = false)) (hQ : Q < 9223372036854775808) (w : World) (hC : Hid (Sl w Cs cs)) (hK : Hid (Sl w Ks ks)) (iI : Hid (Sl w pA pX)) (iH : Hid (Sl w pZ pW)) :
  Calls Tryz.prog 130 #[gv P Q G, kN need Cs cn cc Ks kn kc, J6 E1 E2 A na ca C Z nz cz, .string s, PG ix v pA l8 tu pC pZ l6 tq] w (Rt w (.bool false)) := by
 obtain ⟨w0, HW, aj, kC⟩ := KA (bq P Q G) fE (wJ need Cs cn cc Ks kn kc) fE (Nk E1 E2 A na ca C Z nz cz) AB (Ty ix v pA l8 tu pC pZ l6 tq) Ai w
 have qU := mkS aj hC
 have xq := mkS aj hK
 have tQ := mkS aj iI
 have tO := mkS aj iH
 have ah := bP w0
 clear hC hK iI iH
 go_in
 go_wp2_with fail
 rw [HW.out]
 have hO := kC
 refine iW [] ah (fun hHeld => ?_)
 refine aL 0 ?_
 refine aL 1 ?_
 refine bY 2 fun K hK => ?_
 go_simp
 refine (ji P Q G need Cs cs cn cc Ks ks kn kc hcn hkn true ht hQ _ (qU.out _ hHeld) (xq.out _ hHeld)).mono ?_
 rintro e wA ⟨rfl, bS⟩
 refine hK.out _ _ (bF hHeld bS) (fun hHeld => ?_)
 clear hK K
 refine aU 3 4 5 6 ?_
 refine aL 7 ?_
 refine bY 8 fun K hK => ?_
 go_simp
 refine (rQ need Cs cn cc Ks kn kc ix false hm _).mono ?_
 rintro e wA ⟨rfl, bS⟩
 refine hK.out _ _ (bF hHeld bS) (fun hHeld => ?_)
 clear hK K
 refine aL 9 ?_
 refine aL 10 ?_
 refine aL 11 ?_
 refine ek 12 13 14 15 ?_
 refine ek 16 17 18 19 ?_
 refine ek 20 21 22 23 ?_
 refine ek 24 25 26 27 ?_
 refine aL 28 ?_
 refine gH ?_
 clear hO
 have bI := hHeld
 clear hHeld
 have zc := kC.out _ bI
 go_wp2
 go_ret
 exact ⟨rfl, gy aj bI⟩
theorem Pe (P Q G need : Int) (Cs : Option Addr) (cs : List Int) (cn cc : Nat) (bK oK : Nat) (ks : List Int) (kn kc : Nat) (hcn : Hid (cs.length = cn)) (hkn : Hid (ks.length = kn)) (E1 E2 : Int) (A : Option Addr) (na ca : Nat) (C : Int) (Z : Option Addr) (nz cz : Nat) (j : Nat) (hjk : j < kn) (hkb : kn ≤ 8) (v : Int) (pA : Option Addr) (pX : List Int) (l8 tu : Nat) (pC : Int) (pZ : Option Addr) (pW : List Int) (l6 tq : Nat) (eu : Hid (pX.length = l8)) (hzn : Hid (pW.length = l6)) (hna : l8 < 1000000) (hnz : l6 < 1000000) (s : ByteArray) (hs : s.size ≤ 1000) (ht : Hid (tL P Q G need cs ks = true)) (hm : Hid (uB kn ((j : Int) + 1) = true)) (kj : Int) (Xw : Hid (ks.getD j 0 = kj)) (r : Int) (hr : Hid (nN P Q G [G, kj, E1, v] = r)) (hne : (r != 0) = true) (hQ : Q < 9223372036854775808) (w : World) (hC : Hid (Sl w Cs cs)) (hK : Hid (Sl w (some ⟨bK, oK, none⟩) ks)) (iI : Hid (Sl w pA pX)) (iH : Hid (Sl w pZ pW)) :
  Calls Tryz.prog 130 #[gv P Q G, kN need Cs cn cc (some ⟨bK, oK, none⟩) kn kc, J6 E1 E2 A na ca C Z nz cz, .string s, PG ((j : Int) + 1) v pA l8 tu pC pZ l6 tq] w (Rt w (.bool false)) := by
 obtain ⟨dj, dj1, dj2, dj3, dj4⟩ := vO hjk hkb
 have hjl : j < ks.length := by rw [hkn.out]; exact hjk
 obtain ⟨w0, HW, aj, kC⟩ := KA (bq P Q G) fE (wJ need Cs cn cc (some ⟨bK, oK, none⟩) kn kc) fE (Nk E1 E2 A na ca C Z nz cz) AB (Ty ((j : Int) + 1) v pA l8 tu pC pZ l6 tq) Ai w
 have qU := mkS aj hC
 have xq := mkS aj hK
 have tQ := mkS aj iI
 have tO := mkS aj iH
 have ah := bP w0
 clear hC hK iI iH
 have kI := aa (show ∀ u : World, Hid (Below w0.heap.size w0 u) → u.cell? ⟨bK, oK + j, none⟩ = some (.int .i64 kj) from fun u h => by
  obtain ⟨b9, o9, hA, hi⟩ := (xq.out u h).out j hjl
  cases hA
  rwa [Xw.out] at hi)
 go_in
 go_wp2_with fail
 rw [HW.out]
 have hO := aa (fun (u : World) (h : Hid (Below w0.heap.size w0 u)) => And.intro (kC.out u h) (kI.out u h))
 refine iW [] ah (fun hHeld => ?_)
 refine aL 0 ?_
 refine aL 1 ?_
 refine bY 2 fun K hK => ?_
 go_simp
 refine (ji P Q G need Cs cs cn cc (some ⟨bK, oK, none⟩) ks kn kc hcn hkn true ht hQ _ (qU.out _ hHeld) (xq.out _ hHeld)).mono ?_
 rintro e wA ⟨rfl, bS⟩
 refine hK.out _ _ (bF hHeld bS) (fun hHeld => ?_)
 clear hK K
 refine aU 3 4 5 6 ?_
 refine aL 7 ?_
 refine bY 8 fun K hK => ?_
 go_simp
 refine (rQ need Cs cn cc (some ⟨bK, oK, none⟩) kn kc ((j : Int) + 1) true hm _).mono ?_
 rintro e wA ⟨rfl, bS⟩
 refine hK.out _ _ (bF hHeld bS) (fun hHeld => ?_)
 clear hK K
 refine aU 9 10 11 12 ?_
 refine aU 13 14 15 16 ?_
 refine aU 17 18 19 20 ?_
 refine aU 21 22 23 24 ?_
 refine aL 25 ?_
 refine bY 26 fun K hK => ?_
 go_simp
 refine (uZ P Q G G kj E1 v r hr hQ _).mono ?_
 rintro e wA ⟨rfl, bS⟩
 refine hK.out _ _ (bF hHeld bS) (fun hHeld => ?_)
 clear hK K
 refine aL 27 ?_
 refine aL 28 ?_
 refine gH ?_
 clear hO
 have bI := hHeld
 clear hHeld
 have zc := kC.out _ bI
 have Jg := kI.out _ bI
 go_wp2
 go_ret
 exact ⟨rfl, gy aj bI⟩
theorem Pd (P Q G need : Int) (Cs : Option Addr) (cs : List Int) (cn cc : Nat) (bK oK : Nat) (ks : List Int) (kn kc : Nat) (hcn : Hid (cs.length = cn)) (hkn : Hid (ks.length = kn)) (E1 E2 : Int) (A : Option Addr) (na ca : Nat) (C : Int) (Z : Option Addr) (nz cz : Nat) (j : Nat) (hjk : j < kn) (hkb : kn ≤ 8) (v : Int) (pA : Option Addr) (pX : List Int) (l8 tu : Nat) (pC : Int) (pZ : Option Addr) (pW : List Int) (l6 tq : Nat) (eu : Hid (pX.length = l8)) (hzn : Hid (pW.length = l6)) (hna : l8 < 1000000) (hnz : l6 < 1000000) (s : ByteArray) (hs : s.size ≤ 1000) (ht : Hid (tL P Q G need cs ks = true)) (hm : Hid (uB kn ((j : Int) + 1) = true)) (kj : Int) (Xw : Hid (ks.getD j 0 = kj)) (hr : Hid (nN P Q G [G, kj, E1, v] = 0)) (r : Bool) (HV : Kp (wI P Q G pC (aX s) [kj, v] (oP none none G E1) pX pW = r)) (hQ : Q < 9223372036854775808) (w : World) (hC : Hid (Sl w Cs cs)) (hK : Hid (Sl w (some ⟨bK, oK, none⟩) ks)) (iI : Hid (Sl w pA pX)) (iH : Hid (Sl w pZ pW)) :
  Calls Tryz.prog 130 #[gv P Q G, kN need Cs cn cc (some ⟨bK, oK, none⟩) kn kc, J6 E1 E2 A na ca C Z nz cz, .string s, PG ((j : Int) + 1) v pA l8 tu pC pZ l6 tq] w (Rt w (.bool r)) := by
 obtain ⟨dj, dj1, dj2, dj3, dj4⟩ := vO hjk hkb
 have hjl : j < ks.length := by rw [hkn.out]; exact hjk
 obtain ⟨w0, HW, aj, kC⟩ := KA (bq P Q G) fE (wJ need Cs cn cc (some ⟨bK, oK, none⟩) kn kc) fE (Nk E1 E2 A na ca C Z nz cz) AB (Ty ((j : Int) + 1) v pA l8 tu pC pZ l6 tq) Ai w
 have qU := mkS aj hC
 have xq := mkS aj hK
 have tQ := mkS aj iI
 have tO := mkS aj iH
 have ah := bP w0
 clear hC hK iI iH
 have kI := aa (show ∀ u : World, Hid (Below w0.heap.size w0 u) → u.cell? ⟨bK, oK + j, none⟩ = some (.int .i64 kj) from fun u h => by
  obtain ⟨b9, o9, hA, hi⟩ := (xq.out u h).out j hjl
  cases hA
  rwa [Xw.out] at hi)
 go_in
 go_wp2_with fail
 rw [HW.out]
 have hO := aa (fun (u : World) (h : Hid (Below w0.heap.size w0 u)) => And.intro (kC.out u h) (kI.out u h))
 refine iW [] ah (fun hHeld => ?_)
 refine aL 0 ?_
 refine aL 1 ?_
 refine bY 2 fun K hK => ?_
 go_simp
 refine (ji P Q G need Cs cs cn cc (some ⟨bK, oK, none⟩) ks kn kc hcn hkn true ht hQ _ (qU.out _ hHeld) (xq.out _ hHeld)).mono ?_
 rintro e wA ⟨rfl, bS⟩
 refine hK.out _ _ (bF hHeld bS) (fun hHeld => ?_)
 clear hK K
 refine aU 3 4 5 6 ?_
 refine aL 7 ?_
 refine bY 8 fun K hK => ?_
 go_simp
 refine (rQ need Cs cn cc (some ⟨bK, oK, none⟩) kn kc ((j : Int) + 1) true hm _).mono ?_
 rintro e wA ⟨rfl, bS⟩
 refine hK.out _ _ (bF hHeld bS) (fun hHeld => ?_)
 clear hK K
 refine aU 9 10 11 12 ?_
 refine aU 13 14 15 16 ?_
 refine aU 17 18 19 20 ?_
 refine aU 21 22 23 24 ?_
 refine aL 25 ?_
 refine bY 26 fun K hK => ?_
 go_simp
 refine (uZ P Q G G kj E1 v 0 hr hQ _).mono ?_
 rintro e wA ⟨rfl, bS⟩
 refine hK.out _ _ (bF hHeld bS) (fun hHeld => ?_)
 clear hK K
 refine aL 27 ?_
 refine aL 28 ?_
 refine gH ?_
 clear hO
 have bI := hHeld
 clear hHeld
 have zc := kC.out _ bI
 have Jg := kI.out _ bI
 go_upto_region 3 with (fail)
 clear zc Jg
 have hO := aa (fun (u : World) (h : Hid (Below w0.heap.size w0 u)) => And.intro (kC.out u h) (kI.out u h))
 refine iW [] bI (fun hHeld => ?_)
 refine aU 0 1 2 3 ?_
 refine aU 4 5 6 7 ?_
 refine aU 8 9 10 11 ?_
 refine aU 12 13 15 16 ?_
 refine aL 17 ?_
 refine bY 14 fun K hK => ?_
 go_simp
 refine (zh G kj E1 v _).mono ?_
 intro e wB hR
 obtain ⟨Y, B, A1, B1, rfl, hY, hB, bS⟩ := hR
 refine hK.out _ _ (bF hHeld bS) (fun hHeld => ?_)
 clear hK K
 try simp only [qq]
 refine bY 18 fun K hK => ?_
 go_simp
 refine (Lg P Q G Y [kj, v] 2 2 B (oP A1 B1 G E1) 2 2 pA pX l8 tu pC pZ pW l6 tq (aa rfl) (aa rfl) eu hzn hna hnz hQ s hs r ⟨(AY A1 B1).trans HV.1⟩ _ (aa hY) (aa hB) (tQ.out _ hHeld) (tO.out _ hHeld)).mono ?_
 rintro e wA ⟨rfl, bS⟩
 refine hK.out _ _ (bF hHeld bS) (fun hHeld => ?_)
 clear hK K
 refine aL 19 ?_
 refine gH ?_
 clear hO
 have aY := hHeld
 clear hHeld
 have zc := kC.out _ aY
 have Jg := kI.out _ aY
 go_wp2
 go_ret
 exact ⟨rfl, gy aj aY⟩
theorem Jq (P Q G need : Int) (Cs : Option Addr) (cs : List Int) (cn cc : Nat) (Ks : Option Addr) (ks : List Int) (kn kc : Nat) (hcn : Hid (cs.length = cn)) (hkn : Hid (ks.length = kn)) (E1 E2 : Int) (A : Option Addr) (na ca : Nat) (C : Int) (Z : Option Addr) (nz cz : Nat) (ix : Int) (v : Int) (pA : Option Addr) (pX : List Int) (l8 tu : Nat) (pC : Int) (pZ : Option Addr) (pW : List Int) (l6 tq : Nat) (eu : Hid (pX.length = l8)) (hzn : Hid (pW.length = l6)) (hna : l8 < 1000000) (hnz : l6 < 1000000) (s : ByteArray) (hs : s.size ≤ 1000) (r : Bool) (hr : Kp (DC P Q G need cs ks E1 ix v pC (aX s) pX pW = r)) (hQ : Q < 9223372036854775808) (w : World) (hC : Hid (Sl w Cs cs)) (hK : Hid (Sl w Ks ks)) (iI : Hid (Sl w pA pX)) (iH : Hid (Sl w pZ pW)) :
  Calls Tryz.prog 130 #[gv P Q G, kN need Cs cn cc Ks kn kc, J6 E1 E2 A na ca C Z nz cz, .string s, PG ix v pA l8 tu pC pZ l6 tq] w (Rt w (.bool r)) := by
 have hr1 := hr.1
 unfold DC at hr1
 rw [hkn.out] at hr1
 cases h1 : tL P Q G need cs ks with
 | false =>
  obtain rfl : r = false := by rw [← hr1, h1]; rfl
  exact Pg P Q G need Cs cs cn cc Ks ks kn kc hcn hkn E1 E2 A na ca C Z nz cz ix v pA pX l8 tu pC pZ pW l6 tq eu hzn hna hnz s hs (aa h1) hQ w hC hK iI iH
 | true =>
  cases h2 : uB kn ix with
  | false =>
   obtain rfl : r = false := by rw [← hr1, h1, h2]; rfl
   exact Pf P Q G need Cs cs cn cc Ks ks kn kc hcn hkn E1 E2 A na ca C Z nz cz ix v pA pX l8 tu pC pZ pW l6 tq eu hzn hna hnz s hs (aa h1) (aa h2) hQ w hC hK iI iH
  | true =>
   obtain ⟨q8, n1, n2, n3, n4, n5, n6⟩ := wL h1 hcn.out hkn.out
   obtain ⟨j, hjk, rfl⟩ := zA h2
   obtain ⟨bK, oK, rfl⟩ := sF hK.out (by rw [hkn.out]; omega)
   rw [h1, h2, show ((j : Int) + 1 - 1).toNat = j by omega] at hr1
   have hr2 : Br P Q G G (ks.getD j 0) E1 v pC (aX s) pX pW = r := by rw [← hr1]; rfl
   obtain ⟨k, hk⟩ : ∃ k, nN P Q G [G, ks.getD j 0, E1, v] = k := ⟨_, rfl⟩
   rw [Br, hk] at hr2
   cases h0 : (k == 0) with
   | false =>
    obtain rfl : r = false := by rw [← hr2, h0]; rfl
    exact Pe P Q G need Cs cs cn cc bK oK ks kn kc hcn hkn E1 E2 A na ca C Z nz cz j hjk n2 v pA pX l8 tu pC pZ pW l6 tq eu hzn hna hnz s hs (aa h1) (aa h2) _ (aa rfl) k (aa hk) (by simpa using h0) hQ w hC hK iI iH
   | true =>
    obtain rfl : k = 0 := by simpa using h0
    exact Pd P Q G need Cs cs cn cc bK oK ks kn kc hcn hkn E1 E2 A na ca C Z nz cz j hjk n2 v pA pX l8 tu pC pZ pW l6 tq eu hzn hna hnz s hs (aa h1) (aa h2) _ (aa rfl) (aa hk) r ⟨by rw [← hr2]; simp⟩ hQ w hC hK iI iH
def Ii (P Q G need : Int) (cs ks : List Int) (h : List Int) (o : az) (p : aV) : Bool := uO p.na p.nz && DC P Q G need cs ks o.E1 p.ix p.v p.C (aX (Ml h o)) p.al p.zs
theorem KW (P Q G need : Int) (Cs : Option Addr) (cs : List Int) (cn cc : Nat) (Ks : Option Addr) (ks : List Int) (kn kc : Nat) (hcn : Hid (cs.length = cn)) (hkn : Hid (ks.length = kn)) (hQ : Q < 9223372036854775808) (bO fO : Nat) (os : List az) (n c : Nat) (K : Option Addr) (hs : List (List Int)) (m d i : Nat) (hn : Hid (os.length = n)) (hm : Hid (hs.length = m)) (hi : i < n) (him : i ≤ m) (hb1 : n ≤ 1000000) (hb2 : m ≤ 1000000) (h : List Int) (hh : Hid (jf hs i = h)) (hl : Hid (h.length = 32)) (hb : Hid (aC h = true)) (o : az) (ho : Hid (bL os i = o)) (hI : Hid (dJ o)) (hSo : fH o) (p : aV) (eu : Hid (p.al.length = p.na)) (hzn : Hid (p.zs.length = p.nz)) (hna : p.na < 1000000) (hnz : p.nz < 1000000) (hsh : Hid (uO p.na p.nz = false)) (w : World) (hv : Hid (Vars w)) (hd0 : Hid (bz w)) (hC : Hid (Sl w Cs cs)) (hK : Hid (Sl w Ks ks)) (hO : Hid (Os w (some ⟨bO, fO, none⟩) os)) (hH : Hid (Hs w K hs)) (iI : Hid (Sl w p.A p.al)) (iH : Hid (Sl w p.Z p.zs)) :
  Calls Tryz.prog 74 #[gv P Q G, kN need Cs cn cc Ks kn kc, gI (some ⟨bO, fO, none⟩) n c K m d, .int .i64 (i : Int), Ae p] w (Rt w (.bool false)) := by
 obtain ⟨w0, HW, aj, kC⟩ := KA (bq P Q G) fE (.cells #[.int .i64 need, .slice Cs cn cc, .slice Ks kn kc] 26) fE (jh (some ⟨bO, fO, none⟩) n c K m d) rq (oh p) Ai w
 have kO := fq (fun u => Os u (some ⟨bO, fO, none⟩) os) aj hO (·.below)
 have kH := fq (fun u => Hs u K hs) aj hH (·.below)
 have kD := o6 aj hd0
 have jX := mkS aj hC
 have jW := mkS aj hK
 have kA1 := mkS aj iI
 have WQ := mkS aj iH
 have kV := mkV aj hv
 have ah := bP w0
 clear hO hH hd0 hC hK iI iH hv
 obtain ⟨bX, fX, hX, bN, hok⟩ := ((kO.out _ ah)).out i (by rw [hn.out]; exact hi)
 cases hX
 rw [show os.getD i dI = o from ho.out] at bN
 have xD := aa bN
 clear bN hok
 have mg := aa (show ∀ u : World, Hid (Below w0.heap.size w0 u) → u.cell? ⟨bO, fO + i * 9 + 2, none⟩ = some (.int .i64 o.E1) ∧ u.cell? ⟨bO, fO + i * 9 + 3, none⟩ = some (.int .i64 o.E2) ∧ u.cell? ⟨bO, fO + i * 9 + 4, none⟩ = some (.slice o.A o.na o.ca) ∧ u.cell? ⟨bO, fO + i * 9 + 5, none⟩ = some (.int .i64 o.C) ∧ u.cell? ⟨bO, fO + i * 9 + 6, none⟩ = some (.slice o.Z o.nz o.cz) from fun u h9 => by have h8 := xD.out.below h9.out; exact ⟨h8.2.2.1, h8.2.2.2.1, h8.2.2.2.2.1, h8.2.2.2.2.2.1, h8.2.2.2.2.2.2.1⟩)
 go_in
 go_upto_region 1 with (fail)
 rw [HW.out]
 have hO := aa (fun (u : World) (h : Hid (Below w0.heap.size w0 u)) => And.intro (kC.out u h) (mg.out u h))
 refine iW [] ah (fun hHeld => ?_)
 refine aL 0 ?_
 refine aL 1 ?_
 refine bY 2 fun K hK => ?_
 go_simp
 refine (f_ p.A p.na p.ca p.C p.Z p.nz p.cz false hsh _).mono ?_
 rintro e wA ⟨rfl, bS⟩
 refine hK.out _ _ (bF hHeld bS) (fun hHeld => ?_)
 clear hK K
 refine aL 3 ?_
 refine ek 4 5 6 7 ?_
 refine ek 8 9 10 11 ?_
 refine ek 12 13 14 15 ?_
 refine jD 16 ?_
 refine aL 17 ?_
 refine aL 18 ?_
 refine gH ?_
 clear hO
 have bI := hHeld
 clear hHeld
 have zc := kC.out _ bI
 have eX := mg.out _ bI
 go_wp2
 go_ret
 exact ⟨rfl, gy aj bI⟩
theorem KV (P Q G need : Int) (Cs : Option Addr) (cs : List Int) (cn cc : Nat) (Ks : Option Addr) (ks : List Int) (kn kc : Nat) (hcn : Hid (cs.length = cn)) (hkn : Hid (ks.length = kn)) (hQ : Q < 9223372036854775808) (bO fO : Nat) (os : List az) (n c : Nat) (K : Option Addr) (hs : List (List Int)) (m d i : Nat) (hn : Hid (os.length = n)) (hm : Hid (hs.length = m)) (hi : i < n) (him : i ≤ m) (hb1 : n ≤ 1000000) (hb2 : m ≤ 1000000) (h : List Int) (hh : Hid (jf hs i = h)) (hl : Hid (h.length = 32)) (hb : Hid (aC h = true)) (o : az) (ho : Hid (bL os i = o)) (hI : Hid (dJ o)) (hSo : fH o) (p : aV) (eu : Hid (p.al.length = p.na)) (hzn : Hid (p.zs.length = p.nz)) (hna : p.na < 1000000) (hnz : p.nz < 1000000) (hsh : Hid (uO p.na p.nz = true)) (r : Bool) (hr : Kp (DC P Q G need cs ks o.E1 p.ix p.v p.C (aX (Ml h o)) p.al p.zs = r)) (w : World) (hv : Hid (Vars w)) (hd0 : Hid (bz w)) (hC : Hid (Sl w Cs cs)) (hK : Hid (Sl w Ks ks)) (hO : Hid (Os w (some ⟨bO, fO, none⟩) os)) (hH : Hid (Hs w K hs)) (iI : Hid (Sl w p.A p.al)) (iH : Hid (Sl w p.Z p.zs)) :
  Calls Tryz.prog 74 #[gv P Q G, kN need Cs cn cc Ks kn kc, gI (some ⟨bO, fO, none⟩) n c K m d, .int .i64 (i : Int), Ae p] w (Rt w (.bool r)) := by
 obtain ⟨w0, HW, aj, kC⟩ := KA (bq P Q G) fE (.cells #[.int .i64 need, .slice Cs cn cc, .slice Ks kn kc] 26) fE (jh (some ⟨bO, fO, none⟩) n c K m d) rq (oh p) Ai w
 have kO := fq (fun u => Os u (some ⟨bO, fO, none⟩) os) aj hO (·.below)
 have kH := fq (fun u => Hs u K hs) aj hH (·.below)
 have kD := o6 aj hd0
 have jX := mkS aj hC
 have jW := mkS aj hK
 have kA1 := mkS aj iI
 have WQ := mkS aj iH
 have kV := mkV aj hv
 have ah := bP w0
 clear hO hH hd0 hC hK iI iH hv
 obtain ⟨bX, fX, hX, bN, hok⟩ := ((kO.out _ ah)).out i (by rw [hn.out]; exact hi)
 cases hX
 rw [show os.getD i dI = o from ho.out] at bN
 have xD := aa bN
 clear bN hok
 have mg := aa (show ∀ u : World, Hid (Below w0.heap.size w0 u) → u.cell? ⟨bO, fO + i * 9 + 2, none⟩ = some (.int .i64 o.E1) ∧ u.cell? ⟨bO, fO + i * 9 + 3, none⟩ = some (.int .i64 o.E2) ∧ u.cell? ⟨bO, fO + i * 9 + 4, none⟩ = some (.slice o.A o.na o.ca) ∧ u.cell? ⟨bO, fO + i * 9 + 5, none⟩ = some (.int .i64 o.C) ∧ u.cell? ⟨bO, fO + i * 9 + 6, none⟩ = some (.slice o.Z o.nz o.cz) from fun u h9 => by have h8 := xD.out.below h9.out; exact ⟨h8.2.2.1, h8.2.2.2.1, h8.2.2.2.2.1, h8.2.2.2.2.2.1, h8.2.2.2.2.2.2.1⟩)
 go_in
 go_upto_region 1 with (fail)
 rw [HW.out]
 have hO := aa (fun (u : World) (h : Hid (Below w0.heap.size w0 u)) => And.intro (kC.out u h) (mg.out u h))
 refine iW [] ah (fun hHeld => ?_)
 refine aL 0 ?_
 refine aL 1 ?_
 refine bY 2 fun K hK => ?_
 go_simp
 refine (f_ p.A p.na p.ca p.C p.Z p.nz p.cz true hsh _).mono ?_
 rintro e wA ⟨rfl, bS⟩
 refine hK.out _ _ (bF hHeld bS) (fun hHeld => ?_)
 clear hK K
 refine aU 3 4 5 6 ?_
 refine aU 7 8 9 10 ?_
 refine aU 11 12 13 15 ?_
 refine bY 14 fun K hK => ?_
 go_simp
 refine (JW bO fO os n c _ hs m d i hn hm hi him hb1 hb2 h hh hl hb o ho hI hSo _ (kD.out _ hHeld) (kO.out _ hHeld) (kH.out _ hHeld)).mono ?_
 rintro e wA ⟨rfl, bS⟩
 refine hK.out _ _ (bF hHeld bS) (fun hHeld => ?_)
 clear hK K
 try simp only [qq]
 refine bY 16 fun K hK => ?_
 go_simp
 refine (KU P Q G need Cs cs cn cc Ks ks kn kc hcn hkn o.E1 o.E2 o.A o.na o.ca o.C o.Z o.nz o.cz p.ix p.v p.A p.al p.na p.ca p.C p.Z p.zs p.nz p.cz eu hzn hna hnz (Ml h o) (Ej h o) r hr hQ _ (kV.out _ hHeld) (kD.out _ hHeld) (jX.out _ hHeld) (jW.out _ hHeld) (kA1.out _ hHeld) (WQ.out _ hHeld)).mono ?_
 rintro e wA ⟨rfl, bS⟩
 refine hK.out _ _ (bF hHeld bS) (fun hHeld => ?_)
 clear hK K
 refine aL 17 ?_
 refine aL 18 ?_
 refine gH ?_
 clear hO
 have bI := hHeld
 clear hHeld
 have zc := kC.out _ bI
 have eX := mg.out _ bI
 go_wp2
 go_ret
 exact ⟨rfl, gy aj bI⟩
theorem LC (P Q G need : Int) (Cs : Option Addr) (cs : List Int) (cn cc : Nat) (Ks : Option Addr) (ks : List Int) (kn kc : Nat) (hcn : Hid (cs.length = cn)) (hkn : Hid (ks.length = kn)) (hQ : Q < 9223372036854775808) (bO fO : Nat) (os : List az) (n c : Nat) (K : Option Addr) (hs : List (List Int)) (m d i : Nat) (hn : Hid (os.length = n)) (hm : Hid (hs.length = m)) (hi : i < n) (him : i ≤ m) (hb1 : n ≤ 1000000) (hb2 : m ≤ 1000000) (h : List Int) (hh : Hid (jf hs i = h)) (hl : Hid (h.length = 32)) (hb : Hid (aC h = true)) (o : az) (ho : Hid (bL os i = o)) (hI : Hid (dJ o)) (hSo : fH o) (p : aV) (eu : Hid (p.al.length = p.na)) (hzn : Hid (p.zs.length = p.nz)) (hna : p.na < 1000000) (hnz : p.nz < 1000000) (hsh : Hid (uO p.na p.nz = false)) (w : World) (hv : Hid (Vars w)) (hd0 : Hid (bz w)) (hC : Hid (Sl w Cs cs)) (hK : Hid (Sl w Ks ks)) (hO : Hid (Os w (some ⟨bO, fO, none⟩) os)) (hH : Hid (Hs w K hs)) (iI : Hid (Sl w p.A p.al)) (iH : Hid (Sl w p.Z p.zs)) :
  Calls Tryz.prog 79 #[gv P Q G, kN need Cs cn cc Ks kn kc, gI (some ⟨bO, fO, none⟩) n c K m d, .int .i64 (i : Int), Ae p] w (Rt w (.bool false)) := by
 obtain ⟨w0, HW, aj, kC⟩ := KA (bq P Q G) fE (.cells #[.int .i64 need, .slice Cs cn cc, .slice Ks kn kc] 26) fE (jh (some ⟨bO, fO, none⟩) n c K m d) rq (oh p) Ai w
 have kO := fq (fun u => Os u (some ⟨bO, fO, none⟩) os) aj hO (·.below)
 have kH := fq (fun u => Hs u K hs) aj hH (·.below)
 have kD := o6 aj hd0
 have jX := mkS aj hC
 have jW := mkS aj hK
 have kA1 := mkS aj iI
 have WQ := mkS aj iH
 have ah := bP w0
 clear hO hH hd0 hC hK iI iH hv
 obtain ⟨bX, fX, hX, bN, hok⟩ := ((kO.out _ ah)).out i (by rw [hn.out]; exact hi)
 cases hX
 rw [show os.getD i dI = o from ho.out] at bN
 have xD := aa bN
 clear bN hok
 have mg := aa (show ∀ u : World, Hid (Below w0.heap.size w0 u) → u.cell? ⟨bO, fO + i * 9 + 2, none⟩ = some (.int .i64 o.E1) ∧ u.cell? ⟨bO, fO + i * 9 + 3, none⟩ = some (.int .i64 o.E2) ∧ u.cell? ⟨bO, fO + i * 9 + 4, none⟩ = some (.slice o.A o.na o.ca) ∧ u.cell? ⟨bO, fO + i * 9 + 5, none⟩ = some (.int .i64 o.C) ∧ u.cell? ⟨bO, fO + i * 9 + 6, none⟩ = some (.slice o.Z o.nz o.cz) from fun u h9 => by have h8 := xD.out.below h9.out; exact ⟨h8.2.2.1, h8.2.2.2.1, h8.2.2.2.2.1, h8.2.2.2.2.2.1, h8.2.2.2.2.2.2.1⟩)
 go_in
 go_upto_region 1 with (fail)
 rw [HW.out]
 have hO := aa (fun (u : World) (h : Hid (Below w0.heap.size w0 u)) => And.intro (kC.out u h) (mg.out u h))
 refine iW [] ah (fun hHeld => ?_)
 refine aL 0 ?_
 refine aL 1 ?_
 refine bY 2 fun K hK => ?_
 go_simp
 refine (iN p.A p.na p.ca p.C p.Z p.nz p.cz false hsh _).mono ?_
 rintro e wA ⟨rfl, bS⟩
 refine hK.out _ _ (bF hHeld bS) (fun hHeld => ?_)
 clear hK K
 refine aL 3 ?_
 refine ek 4 5 6 7 ?_
 refine ek 8 9 10 11 ?_
 refine ek 12 13 14 15 ?_
 refine jD 16 ?_
 refine aL 17 ?_
 refine aL 18 ?_
 refine gH ?_
 clear hO
 have bI := hHeld
 clear hHeld
 have zc := kC.out _ bI
 have eX := mg.out _ bI
 go_wp2
 go_ret
 exact ⟨rfl, gy aj bI⟩
theorem LB (P Q G need : Int) (Cs : Option Addr) (cs : List Int) (cn cc : Nat) (Ks : Option Addr) (ks : List Int) (kn kc : Nat) (hcn : Hid (cs.length = cn)) (hkn : Hid (ks.length = kn)) (hQ : Q < 9223372036854775808) (bO fO : Nat) (os : List az) (n c : Nat) (K : Option Addr) (hs : List (List Int)) (m d i : Nat) (hn : Hid (os.length = n)) (hm : Hid (hs.length = m)) (hi : i < n) (him : i ≤ m) (hb1 : n ≤ 1000000) (hb2 : m ≤ 1000000) (h : List Int) (hh : Hid (jf hs i = h)) (hl : Hid (h.length = 32)) (hb : Hid (aC h = true)) (o : az) (ho : Hid (bL os i = o)) (hI : Hid (dJ o)) (hSo : fH o) (p : aV) (eu : Hid (p.al.length = p.na)) (hzn : Hid (p.zs.length = p.nz)) (hna : p.na < 1000000) (hnz : p.nz < 1000000) (hsh : Hid (uO p.na p.nz = true)) (r : Bool) (hr : Kp (DC P Q G need cs ks o.E1 p.ix p.v p.C (aX (Ml h o)) p.al p.zs = r)) (w : World) (hv : Hid (Vars w)) (hd0 : Hid (bz w)) (hC : Hid (Sl w Cs cs)) (hK : Hid (Sl w Ks ks)) (hO : Hid (Os w (some ⟨bO, fO, none⟩) os)) (hH : Hid (Hs w K hs)) (iI : Hid (Sl w p.A p.al)) (iH : Hid (Sl w p.Z p.zs)) :
  Calls Tryz.prog 79 #[gv P Q G, kN need Cs cn cc Ks kn kc, gI (some ⟨bO, fO, none⟩) n c K m d, .int .i64 (i : Int), Ae p] w (Rt w (.bool r)) := by
 obtain ⟨w0, HW, aj, kC⟩ := KA (bq P Q G) fE (.cells #[.int .i64 need, .slice Cs cn cc, .slice Ks kn kc] 26) fE (jh (some ⟨bO, fO, none⟩) n c K m d) rq (oh p) Ai w
 have kO := fq (fun u => Os u (some ⟨bO, fO, none⟩) os) aj hO (·.below)
 have kH := fq (fun u => Hs u K hs) aj hH (·.below)
 have kD := o6 aj hd0
 have jX := mkS aj hC
 have jW := mkS aj hK
 have kA1 := mkS aj iI
 have WQ := mkS aj iH
 have ah := bP w0
 clear hO hH hd0 hC hK iI iH hv
 obtain ⟨bX, fX, hX, bN, hok⟩ := ((kO.out _ ah)).out i (by rw [hn.out]; exact hi)
 cases hX
 rw [show os.getD i dI = o from ho.out] at bN
 have xD := aa bN
 clear bN hok
 have mg := aa (show ∀ u : World, Hid (Below w0.heap.size w0 u) → u.cell? ⟨bO, fO + i * 9 + 2, none⟩ = some (.int .i64 o.E1) ∧ u.cell? ⟨bO, fO + i * 9 + 3, none⟩ = some (.int .i64 o.E2) ∧ u.cell? ⟨bO, fO + i * 9 + 4, none⟩ = some (.slice o.A o.na o.ca) ∧ u.cell? ⟨bO, fO + i * 9 + 5, none⟩ = some (.int .i64 o.C) ∧ u.cell? ⟨bO, fO + i * 9 + 6, none⟩ = some (.slice o.Z o.nz o.cz) from fun u h9 => by have h8 := xD.out.below h9.out; exact ⟨h8.2.2.1, h8.2.2.2.1, h8.2.2.2.2.1, h8.2.2.2.2.2.1, h8.2.2.2.2.2.2.1⟩)
 go_in
 go_upto_region 1 with (fail)
 rw [HW.out]
 have hO := aa (fun (u : World) (h : Hid (Below w0.heap.size w0 u)) => And.intro (kC.out u h) (mg.out u h))
 refine iW [] ah (fun hHeld => ?_)
 refine aL 0 ?_
 refine aL 1 ?_
 refine bY 2 fun K hK => ?_
 go_simp
 refine (iN p.A p.na p.ca p.C p.Z p.nz p.cz true hsh _).mono ?_
 rintro e wA ⟨rfl, bS⟩
 refine hK.out _ _ (bF hHeld bS) (fun hHeld => ?_)
 clear hK K
 refine aU 3 4 5 6 ?_
 refine aU 7 8 9 10 ?_
 refine aU 11 12 13 15 ?_
 refine bY 14 fun K hK => ?_
 go_simp
 refine (BV bO fO os n c _ hs m d i hn hm hi him hb1 hb2 h hh hl hb o ho hI hSo _ (kD.out _ hHeld) (kO.out _ hHeld) (kH.out _ hHeld)).mono ?_
 rintro e wA ⟨rfl, bS⟩
 refine hK.out _ _ (bF hHeld bS) (fun hHeld => ?_)
 clear hK K
 try simp only [qq]
 refine bY 16 fun K hK => ?_
 go_simp
 refine (Jq P Q G need Cs cs cn cc Ks ks kn kc hcn hkn o.E1 o.E2 o.A o.na o.ca o.C o.Z o.nz o.cz p.ix p.v p.A p.al p.na p.ca p.C p.Z p.zs p.nz p.cz eu hzn hna hnz (Ml h o) (Ej h o) r hr hQ _ (jX.out _ hHeld) (jW.out _ hHeld) (kA1.out _ hHeld) (WQ.out _ hHeld)).mono ?_
 rintro e wA ⟨rfl, bS⟩
 refine hK.out _ _ (bF hHeld bS) (fun hHeld => ?_)
 clear hK K
 refine aL 17 ?_
 refine aL 18 ?_
 refine gH ?_
 clear hO
 have bI := hHeld
 clear hHeld
 have zc := kC.out _ bI
 have eX := mg.out _ bI
 go_wp2
 go_ret
 exact ⟨rfl, gy aj bI⟩
def IM (P Q G need : Int) (cs ks : List Int) (os : List az) (hs : List (List Int)) (n : Nat) (i : Int) : Int :=
 if fP os hs = false then 1 else if tL P Q G need cs ks = false then 1 else if i < 0 then 7 else if (n : Int) ≤ i then 7 else if (bL os i.toNat).key = 0 then 0 else 6
theorem IP (P Q G need : Int) (Cs : Option Addr) (cs : List Int) (cn cc : Nat) (Ks : Option Addr) (ks : List Int) (kn kc : Nat) (hcn : Hid (cs.length = cn)) (hkn : Hid (ks.length = kn)) (hQ : Q < 9223372036854775808) (O : Option Addr) (os : List az) (n c : Nat) (K : Option Addr) (hs : List (List Int)) (m d : Nat) (hn : Hid (os.length = n)) (hm : Hid (hs.length = m)) (hI : Hid (∀ k, k < n → dJ (bL os k))) (hb1 : n ≤ 1000000) (hb2 : m ≤ 1000000) (i : Int) (HT : Kp (fP os hs = false)) (w : World) (hv : Hid (Vars w)) (hd0 : Hid (bz w)) (hC : Hid (Sl w Cs cs)) (hK : Hid (Sl w Ks ks)) (hO : Hid (Os w O os)) (hH : Hid (Hs w K hs)) :
  Calls Tryz.prog 72 #[gv P Q G, kN need Cs cn cc Ks kn kc, gI O n c K m d, .int .i64 i] w (Rt w (.int .i64 1)) := by
 obtain ⟨w0, HW, aj, kC⟩ := sW (bq P Q G) fE (.cells #[.int .i64 need, .slice Cs cn cc, .slice Ks kn kc] 26) fE (jh O n c K m d) qA w
 have kO := fq (fun u => Os u O os) aj hO (·.below)
 have kH := fq (fun u => Hs u K hs) aj hH (·.below)
 have kD := o6 aj hd0
 have jX := mkS aj hC
 have jW := mkS aj hK
 have kV := mkV aj hv
 have ah := bP w0
 clear hO hH hd0 hC hK hv
 go_in
 go_upto_region 1 with (fail)
 rw [HW.out]
 have zc := kC.out _ ah
 go_wp2_with fail
 clear zc
 refine eH kC ah (jg O os n c K hs m d hn hm hI.out hb1 hb2 false HT _ (kD.out _ ah) (kO.out _ ah) (kH.out _ ah)) fun w1 ax zc => ?_
 go_wp2
 go_ret
 exact ⟨rfl, gy aj ax⟩
theorem Qn (P Q G need : Int) (Cs : Option Addr) (cs : List Int) (cn cc : Nat) (Ks : Option Addr) (ks : List Int) (kn kc : Nat) (hcn : Hid (cs.length = cn)) (hkn : Hid (ks.length = kn)) (hQ : Q < 9223372036854775808) (O : Option Addr) (os : List az) (n c : Nat) (K : Option Addr) (hs : List (List Int)) (m d : Nat) (hn : Hid (os.length = n)) (hm : Hid (hs.length = m)) (hI : Hid (∀ k, k < n → dJ (bL os k))) (hb1 : n ≤ 1000000) (hb2 : m ≤ 1000000) (i : Int) (HT : Kp (fP os hs = true)) (hr : Hid (tL P Q G need cs ks = false)) (w : World) (hv : Hid (Vars w)) (hd0 : Hid (bz w)) (hC : Hid (Sl w Cs cs)) (hK : Hid (Sl w Ks ks)) (hO : Hid (Os w O os)) (hH : Hid (Hs w K hs)) :
  Calls Tryz.prog 72 #[gv P Q G, kN need Cs cn cc Ks kn kc, gI O n c K m d, .int .i64 i] w (Rt w (.int .i64 1)) := by
 obtain ⟨w0, HW, aj, kC⟩ := sW (bq P Q G) fE (.cells #[.int .i64 need, .slice Cs cn cc, .slice Ks kn kc] 26) fE (jh O n c K m d) qA w
 have kO := fq (fun u => Os u O os) aj hO (·.below)
 have kH := fq (fun u => Hs u K hs) aj hH (·.below)
 have kD := o6 aj hd0
 have jX := mkS aj hC
 have jW := mkS aj hK
 have kV := mkV aj hv
 have ah := bP w0
 clear hO hH hd0 hC hK hv
 go_in
 go_upto_region 1 with (fail)
 rw [HW.out]
 have zc := kC.out _ ah
 go_wp2_with fail
 clear zc
 refine eH kC ah (jg O os n c K hs m d hn hm hI.out hb1 hb2 true HT _ (kD.out _ ah) (kO.out _ ah) (kH.out _ ah)) fun w1 ax zc => ?_
 go_wp2_with fail
 clear zc
 refine eH kC ax (n_ P Q G need Cs cs cn cc Ks ks kn kc hcn hkn false hr hQ _ (kV.out _ ax) (jX.out _ ax) (jW.out _ ax)) fun w2 aK zc => ?_
 go_wp2
 go_ret
 exact ⟨rfl, gy aj aK⟩
theorem given_3 (P Q G need : Int) (Cs : Option Addr) (cs : List Int) (cn cc : Nat) (Ks : Option Addr) (ks : List Int) (kn kc : Nat) (hcn : Hid (cs.length = cn)) (hkn : Hid (ks.length = kn)) (hQ : Q < 9223372036854775808) (O : Option Addr) (os : List az) (n c : Nat) (K : Option Addr) (hs : List (List Int)) (m d : Nat) (hn : Hid (os.length = n)) (hm : Hid (hs.length = m)) (hI : Hid (∀ k, k < n → dJ (bL os k))) (hb1 : n ≤ 1000000) (hb2 : m ≤ 1000000) (i : Int) (HT : Kp (fP os hs = true)) (hr : Hid (tL P Q G need cs ks = true)) (h : i < 0) (w : World) (hv : Hid (Vars w)) (hd0 : Hid (bz w)) (hC : Hid (Sl w Cs cs)) (hK : Hid (Sl w Ks ks)) (hO : Hid (Os w O os)) (hH : Hid (Hs w K hs)) :
  Calls Tryz.prog 72 #[gv P Q G, kN need Cs cn cc Ks kn kc, gI O n c K m d, .int .i64 i] w (Rt w (.int .i64 7)) := by
 have e1 : decide (i < 0) = true := by simpa using h
 obtain ⟨w0, HW, aj, kC⟩ := sW (bq P Q G) fE (.cells #[.int .i64 need, .slice Cs cn cc, .slice Ks kn kc] 26) fE (jh O n c K m d) qA w
 have kO := fq (fun u => Os u O os) aj hO (·.below)
 have kH := fq (fun u => Hs u K hs) aj hH (·.below)
 have kD := o6 aj hd0
 have jX := mkS aj hC
 have jW := mkS aj hK
 have kV := mkV aj hv
 have ah := bP w0
 clear hO hH hd0 hC hK hv
 go_in
 go_upto_region 1 with (fail)
 rw [HW.out]
 have zc := kC.out _ ah
 go_wp2_with fail
 clear zc
 refine eH kC ah (jg O os n c K hs m d hn hm hI.out hb1 hb2 true HT _ (kD.out _ ah) (kO.out _ ah) (kH.out _ ah)) fun w1 ax zc => ?_
 go_wp2_with fail
 clear zc
 refine eH kC ax (n_ P Q G need Cs cs cn cc Ks ks kn kc hcn hkn true hr hQ _ (kV.out _ ax) (jX.out _ ax) (jW.out _ ax)) fun w2 aK zc => ?_
 go_wp2
 go_ret
 exact ⟨rfl, gy aj aK⟩
theorem Qm (P Q G need : Int) (Cs : Option Addr) (cs : List Int) (cn cc : Nat) (Ks : Option Addr) (ks : List Int) (kn kc : Nat) (hcn : Hid (cs.length = cn)) (hkn : Hid (ks.length = kn)) (hQ : Q < 9223372036854775808) (O : Option Addr) (os : List az) (n c : Nat) (K : Option Addr) (hs : List (List Int)) (m d : Nat) (hn : Hid (os.length = n)) (hm : Hid (hs.length = m)) (hI : Hid (∀ k, k < n → dJ (bL os k))) (hb1 : n ≤ 1000000) (hb2 : m ≤ 1000000) (i : Int) (HT : Kp (fP os hs = true)) (hr : Hid (tL P Q G need cs ks = true)) (h0 : 0 ≤ i) (h : (n : Int) ≤ i) (w : World) (hv : Hid (Vars w)) (hd0 : Hid (bz w)) (hC : Hid (Sl w Cs cs)) (hK : Hid (Sl w Ks ks)) (hO : Hid (Os w O os)) (hH : Hid (Hs w K hs)) :
  Calls Tryz.prog 72 #[gv P Q G, kN need Cs cn cc Ks kn kc, gI O n c K m d, .int .i64 i] w (Rt w (.int .i64 7)) := by
 have e1 : decide (i < 0) = false := by simp; omega
 have e2 : decide ((n : Int) ≤ i) = true := by simpa using h
 obtain ⟨w0, HW, aj, kC⟩ := sW (bq P Q G) fE (.cells #[.int .i64 need, .slice Cs cn cc, .slice Ks kn kc] 26) fE (jh O n c K m d) qA w
 have kO := fq (fun u => Os u O os) aj hO (·.below)
 have kH := fq (fun u => Hs u K hs) aj hH (·.below)
 have kD := o6 aj hd0
 have jX := mkS aj hC
 have jW := mkS aj hK
 have kV := mkV aj hv
 have ah := bP w0
 clear hO hH hd0 hC hK hv
 go_in
 go_upto_region 1 with (fail)
 rw [HW.out]
 have zc := kC.out _ ah
 go_wp2_with fail
 clear zc
 refine eH kC ah (jg O os n c K hs m d hn hm hI.out hb1 hb2 true HT _ (kD.out _ ah) (kO.out _ ah) (kH.out _ ah)) fun w1 ax zc => ?_
 go_wp2_with fail
 clear zc
 refine eH kC ax (n_ P Q G need Cs cs cn cc Ks ks kn kc hcn hkn true hr hQ _ (kV.out _ ax) (jX.out _ ax) (jW.out _ ax)) fun w2 aK zc => ?_
 go_wp2
 go_ret
 exact ⟨rfl, gy aj aK⟩
theorem Ql (P Q G need : Int) (Cs : Option Addr) (cs : List Int) (cn cc : Nat) (Ks : Option Addr) (ks : List Int) (kn kc : Nat) (hcn : Hid (cs.length = cn)) (hkn : Hid (ks.length = kn)) (hQ : Q < 9223372036854775808) (O : Option Addr) (os : List az) (n c : Nat) (K : Option Addr) (hs : List (List Int)) (m d : Nat) (hn : Hid (os.length = n)) (hm : Hid (hs.length = m)) (hI : Hid (∀ k, k < n → dJ (bL os k))) (hb1 : n ≤ 1000000) (hb2 : m ≤ 1000000) (i : Nat) (HT : Kp (fP os hs = true)) (hr : Hid (tL P Q G need cs ks = true)) (hi : i < n) (hk0 : (bL os i).key = 0) (w : World) (hv : Hid (Vars w)) (hd0 : Hid (bz w)) (hC : Hid (Sl w Cs cs)) (hK : Hid (Sl w Ks ks)) (hO : Hid (Os w O os)) (hH : Hid (Hs w K hs)) :
  Calls Tryz.prog 72 #[gv P Q G, kN need Cs cn cc Ks kn kc, gI O n c K m d, .int .i64 (i : Int)] w (Rt w (.int .i64 0)) := by
 have e1 : decide ((i : Int) < 0) = false := by simp
 have e2 : decide ((n : Int) ≤ (i : Int)) = false := by simp; omega
 obtain ⟨w0, HW, aj, kC⟩ := sW (bq P Q G) fE (.cells #[.int .i64 need, .slice Cs cn cc, .slice Ks kn kc] 26) fE (jh O n c K m d) qA w
 have kO := fq (fun u => Os u O os) aj hO (·.below)
 have kH := fq (fun u => Hs u K hs) aj hH (·.below)
 have kD := o6 aj hd0
 have jX := mkS aj hC
 have jW := mkS aj hK
 have kV := mkV aj hv
 have ah := bP w0
 clear hO hH hd0 hC hK hv
 obtain ⟨bO, fO, CF, bN, hok⟩ := ((kO.out _ ah)).out i (by rw [hn.out]; exact hi)
 subst CF
 obtain ⟨o, hoe⟩ : ∃ x, bL os i = x := ⟨_, rfl⟩
 rw [show os.getD i dI = o from hoe] at bN hok
 have nW := aa hoe
 have xD := aa bN
 have lW := aa hok
 clear bN hok hoe
 rw [nW.out] at hk0
 have e3 : (o.key != 0) = false := by simpa using hk0
 go_in
 go_upto_region 1 with (fail)
 rw [HW.out]
 have zc := kC.out _ ah
 go_wp2_with fail
 clear zc
 refine eH kC ah (jg _ os n c K hs m d hn hm hI.out hb1 hb2 true HT _ (kD.out _ ah) (kO.out _ ah) (kH.out _ ah)) fun w1 ax zc => ?_
 go_wp2_with fail
 clear zc
 refine eH kC ax (n_ P Q G need Cs cs cn cc Ks ks kn kc hcn hkn true hr hQ _ (kV.out _ ax) (jX.out _ ax) (jW.out _ ax)) fun w2 aK zc => ?_
 have z8 := cell_below xD.out.2.2.2.2.2.2.2.2 aK.out
 go_wp2
 go_ret
 exact ⟨rfl, gy aj aK⟩
theorem Qk (P Q G need : Int) (Cs : Option Addr) (cs : List Int) (cn cc : Nat) (Ks : Option Addr) (ks : List Int) (kn kc : Nat) (hcn : Hid (cs.length = cn)) (hkn : Hid (ks.length = kn)) (hQ : Q < 9223372036854775808) (O : Option Addr) (os : List az) (n c : Nat) (K : Option Addr) (hs : List (List Int)) (m d : Nat) (hn : Hid (os.length = n)) (hm : Hid (hs.length = m)) (hI : Hid (∀ k, k < n → dJ (bL os k))) (hb1 : n ≤ 1000000) (hb2 : m ≤ 1000000) (i : Nat) (HT : Kp (fP os hs = true)) (hr : Hid (tL P Q G need cs ks = true)) (hi : i < n) (hk0 : (bL os i).key ≠ 0) (w : World) (hv : Hid (Vars w)) (hd0 : Hid (bz w)) (hC : Hid (Sl w Cs cs)) (hK : Hid (Sl w Ks ks)) (hO : Hid (Os w O os)) (hH : Hid (Hs w K hs)) :
  Calls Tryz.prog 72 #[gv P Q G, kN need Cs cn cc Ks kn kc, gI O n c K m d, .int .i64 (i : Int)] w (Rt w (.int .i64 6)) := by
 have e1 : decide ((i : Int) < 0) = false := by simp
 have e2 : decide ((n : Int) ≤ (i : Int)) = false := by simp; omega
 obtain ⟨w0, HW, aj, kC⟩ := sW (bq P Q G) fE (.cells #[.int .i64 need, .slice Cs cn cc, .slice Ks kn kc] 26) fE (jh O n c K m d) qA w
 have kO := fq (fun u => Os u O os) aj hO (·.below)
 have kH := fq (fun u => Hs u K hs) aj hH (·.below)
 have kD := o6 aj hd0
 have jX := mkS aj hC
 have jW := mkS aj hK
 have kV := mkV aj hv
 have ah := bP w0
 clear hO hH hd0 hC hK hv
 obtain ⟨bO, fO, CF, bN, hok⟩ := ((kO.out _ ah)).out i (by rw [hn.out]; exact hi)
 subst CF
 obtain ⟨o, hoe⟩ : ∃ x, bL os i = x := ⟨_, rfl⟩
 rw [show os.getD i dI = o from hoe] at bN hok
 have nW := aa hoe
 have xD := aa bN
 have lW := aa hok
 clear bN hok hoe
 rw [nW.out] at hk0
 have e3 : (o.key != 0) = true := by simpa using hk0
 go_in
 go_upto_region 1 with (fail)
 rw [HW.out]
 have zc := kC.out _ ah
 go_wp2_with fail
 clear zc
 refine eH kC ah (jg _ os n c K hs m d hn hm hI.out hb1 hb2 true HT _ (kD.out _ ah) (kO.out _ ah) (kH.out _ ah)) fun w1 ax zc => ?_
 go_wp2_with fail
 clear zc
 refine eH kC ax (n_ P Q G need Cs cs cn cc Ks ks kn kc hcn hkn true hr hQ _ (kV.out _ ax) (jX.out _ ax) (jW.out _ ax)) fun w2 aK zc => ?_
 have z8 := cell_below xD.out.2.2.2.2.2.2.2.2 aK.out
 go_wp2
 go_ret
 exact ⟨rfl, gy aj aK⟩
theorem sK (P Q G need : Int) (Cs : Option Addr) (cs : List Int) (cn cc : Nat) (Ks : Option Addr) (ks : List Int) (kn kc : Nat) (hcn : Hid (cs.length = cn)) (hkn : Hid (ks.length = kn)) (hQ : Q < 9223372036854775808) (O : Option Addr) (os : List az) (n c : Nat) (K : Option Addr) (hs : List (List Int)) (m d : Nat) (hn : Hid (os.length = n)) (hm : Hid (hs.length = m)) (hI : Hid (∀ k, k < n → dJ (bL os k))) (hb1 : n ≤ 1000000) (hb2 : m ≤ 1000000) (i : Int) (r : Int) (hr : Hid (IM P Q G need cs ks os hs n i = r)) (w : World) (hv : Hid (Vars w)) (hd0 : Hid (bz w)) (hC : Hid (Sl w Cs cs)) (hK : Hid (Sl w Ks ks)) (hO : Hid (Os w O os)) (hH : Hid (Hs w K hs)) :
  Calls Tryz.prog 72 #[gv P Q G, kN need Cs cn cc Ks kn kc, gI O n c K m d, .int .i64 i] w (Rt w (.int .i64 r)) := by
 have hr1 := hr.out
 unfold IM at hr1
 cases h2 : tL P Q G need cs ks with
 | false =>
  have hr2 : r = 1 := by rw [← hr1, h2]; split <;> rfl
  subst hr2
  cases h1 : fP os hs with
  | false => exact IP P Q G need Cs cs cn cc Ks ks kn kc hcn hkn hQ O os n c K hs m d hn hm hI hb1 hb2 i ⟨h1⟩ w hv hd0 hC hK hO hH
  | true => exact Qn P Q G need Cs cs cn cc Ks ks kn kc hcn hkn hQ O os n c K hs m d hn hm hI hb1 hb2 i ⟨h1⟩ (aa h2) w hv hd0 hC hK hO hH
 | true =>
  cases h1 : fP os hs with
  | false =>
   have hr2 : r = 1 := by rw [← hr1, h1]; rfl
   subst hr2
   exact IP P Q G need Cs cs cn cc Ks ks kn kc hcn hkn hQ O os n c K hs m d hn hm hI hb1 hb2 i ⟨h1⟩ w hv hd0 hC hK hO hH
  | true =>
   rw [h1, h2] at hr1
   by_cases h3 : i < 0
   ·
    rw [if_neg (by simp), if_neg (by simp), if_pos h3] at hr1
    subst hr1
    exact given_3 P Q G need Cs cs cn cc Ks ks kn kc hcn hkn hQ O os n c K hs m d hn hm hI hb1 hb2 i ⟨h1⟩ (aa h2) h3 w hv hd0 hC hK hO hH
   ·
    by_cases h4 : (n : Int) ≤ i
    ·
     rw [if_neg (by simp), if_neg (by simp), if_neg h3, if_pos h4] at hr1
     subst hr1
     exact Qm P Q G need Cs cs cn cc Ks ks kn kc hcn hkn hQ O os n c K hs m d hn hm hI hb1 hb2 i ⟨h1⟩ (aa h2) (by omega) h4 w hv hd0 hC hK hO hH
    ·
     obtain ⟨k, rfl⟩ : ∃ k : Nat, i = (k : Int) := ⟨i.toNat, by omega⟩
     rw [if_neg (by simp), if_neg (by simp), if_neg h3, if_neg h4, Int.toNat_natCast] at hr1
     by_cases h5 : (bL os k).key = 0
     ·
      rw [if_pos h5] at hr1
      subst hr1
      exact Ql P Q G need Cs cs cn cc Ks ks kn kc hcn hkn hQ O os n c K hs m d hn hm hI hb1 hb2 k ⟨h1⟩ (aa h2) (by omega) h5 w hv hd0 hC hK hO hH
     ·
      rw [if_neg h5] at hr1
      subst hr1
      exact Qk P Q G need Cs cs cn cc Ks ks kn kc hcn hkn hQ O os n c K hs m d hn hm hI hb1 hb2 k ⟨h1⟩ (aa h2) (by omega) h5 w hv hd0 hC hK hO hH
theorem Qv (P Q G need : Int) (Cs : Option Addr) (cs : List Int) (cn cc : Nat) (Ks : Option Addr) (ks : List Int) (kn kc : Nat) (hcn : Hid (cs.length = cn)) (hkn : Hid (ks.length = kn)) (hQ : Q < 9223372036854775808) (O : Option Addr) (os : List az) (n c : Nat) (K : Option Addr) (hs : List (List Int)) (m d : Nat) (hn : Hid (os.length = n)) (hm : Hid (hs.length = m)) (hI : Hid (∀ k, k < n → dJ (bL os k))) (hb1 : n ≤ 1000000) (hb2 : m ≤ 1000000) (i : Int) (HT : Kp (fP os hs = false)) (hr : Hid (tL P Q G need cs ks = true)) (w : World) (hv : Hid (Vars w)) (hd0 : Hid (bz w)) (hC : Hid (Sl w Cs cs)) (hK : Hid (Sl w Ks ks)) (hO : Hid (Os w O os)) (hH : Hid (Hs w K hs)) :
  Calls Tryz.prog 77 #[gv P Q G, kN need Cs cn cc Ks kn kc, gI O n c K m d, .int .i64 i] w (Rt w (.int .i64 1)) := by
 obtain ⟨w0, HW, aj, kC⟩ := sW (bq P Q G) fE (.cells #[.int .i64 need, .slice Cs cn cc, .slice Ks kn kc] 26) fE (jh O n c K m d) qA w
 have kO := fq (fun u => Os u O os) aj hO (·.below)
 have kH := fq (fun u => Hs u K hs) aj hH (·.below)
 have kD := o6 aj hd0
 have jX := mkS aj hC
 have jW := mkS aj hK
 have kV := mkV aj hv
 have ah := bP w0
 clear hO hH hd0 hC hK hv
 go_in
 go_upto_region 1 with (fail)
 rw [HW.out]
 have zc := kC.out _ ah
 go_wp2_with fail
 clear zc
 refine eH kC ah (ji P Q G need Cs cs cn cc Ks ks kn kc hcn hkn true hr hQ _ (jX.out _ ah) (jW.out _ ah)) fun w1 ax zc => ?_
 go_wp2_with fail
 clear zc
 refine eH kC ax (pg O os n c K hs m d hn hm hI.out hb1 hb2 false HT _ (kD.out _ ax) (kO.out _ ax) (kH.out _ ax)) fun w2 aK zc => ?_
 go_wp2
 go_ret
 exact ⟨rfl, gy aj aK⟩
theorem IV (P Q G need : Int) (Cs : Option Addr) (cs : List Int) (cn cc : Nat) (Ks : Option Addr) (ks : List Int) (kn kc : Nat) (hcn : Hid (cs.length = cn)) (hkn : Hid (ks.length = kn)) (hQ : Q < 9223372036854775808) (O : Option Addr) (os : List az) (n c : Nat) (K : Option Addr) (hs : List (List Int)) (m d : Nat) (hn : Hid (os.length = n)) (hm : Hid (hs.length = m)) (hI : Hid (∀ k, k < n → dJ (bL os k))) (hb1 : n ≤ 1000000) (hb2 : m ≤ 1000000) (i : Int) (hr : Hid (tL P Q G need cs ks = false)) (w : World) (hv : Hid (Vars w)) (hd0 : Hid (bz w)) (hC : Hid (Sl w Cs cs)) (hK : Hid (Sl w Ks ks)) (hO : Hid (Os w O os)) (hH : Hid (Hs w K hs)) :
  Calls Tryz.prog 77 #[gv P Q G, kN need Cs cn cc Ks kn kc, gI O n c K m d, .int .i64 i] w (Rt w (.int .i64 1)) := by
 obtain ⟨w0, HW, aj, kC⟩ := sW (bq P Q G) fE (.cells #[.int .i64 need, .slice Cs cn cc, .slice Ks kn kc] 26) fE (jh O n c K m d) qA w
 have kO := fq (fun u => Os u O os) aj hO (·.below)
 have kH := fq (fun u => Hs u K hs) aj hH (·.below)
 have kD := o6 aj hd0
 have jX := mkS aj hC
 have jW := mkS aj hK
 have kV := mkV aj hv
 have ah := bP w0
 clear hO hH hd0 hC hK hv
 go_in
 go_upto_region 1 with (fail)
 rw [HW.out]
 have zc := kC.out _ ah
 go_wp2_with fail
 clear zc
 refine eH kC ah (ji P Q G need Cs cs cn cc Ks ks kn kc hcn hkn false hr hQ _ (jX.out _ ah) (jW.out _ ah)) fun w1 ax zc => ?_
 go_wp2
 go_ret
 exact ⟨rfl, gy aj ax⟩
theorem Qu (P Q G need : Int) (Cs : Option Addr) (cs : List Int) (cn cc : Nat) (Ks : Option Addr) (ks : List Int) (kn kc : Nat) (hcn : Hid (cs.length = cn)) (hkn : Hid (ks.length = kn)) (hQ : Q < 9223372036854775808) (O : Option Addr) (os : List az) (n c : Nat) (K : Option Addr) (hs : List (List Int)) (m d : Nat) (hn : Hid (os.length = n)) (hm : Hid (hs.length = m)) (hI : Hid (∀ k, k < n → dJ (bL os k))) (hb1 : n ≤ 1000000) (hb2 : m ≤ 1000000) (i : Int) (HT : Kp (fP os hs = true)) (hr : Hid (tL P Q G need cs ks = true)) (h : i < 0) (w : World) (hv : Hid (Vars w)) (hd0 : Hid (bz w)) (hC : Hid (Sl w Cs cs)) (hK : Hid (Sl w Ks ks)) (hO : Hid (Os w O os)) (hH : Hid (Hs w K hs)) :
  Calls Tryz.prog 77 #[gv P Q G, kN need Cs cn cc Ks kn kc, gI O n c K m d, .int .i64 i] w (Rt w (.int .i64 7)) := by
 have e1 : decide (i < 0) = true := by simpa using h
 obtain ⟨w0, HW, aj, kC⟩ := sW (bq P Q G) fE (.cells #[.int .i64 need, .slice Cs cn cc, .slice Ks kn kc] 26) fE (jh O n c K m d) qA w
 have kO := fq (fun u => Os u O os) aj hO (·.below)
 have kH := fq (fun u => Hs u K hs) aj hH (·.below)
 have kD := o6 aj hd0
 have jX := mkS aj hC
 have jW := mkS aj hK
 have kV := mkV aj hv
 have ah := bP w0
 clear hO hH hd0 hC hK hv
 go_in
 go_upto_region 1 with (fail)
 rw [HW.out]
 have zc := kC.out _ ah
 go_wp2_with fail
 clear zc
 refine eH kC ah (ji P Q G need Cs cs cn cc Ks ks kn kc hcn hkn true hr hQ _ (jX.out _ ah) (jW.out _ ah)) fun w1 ax zc => ?_
 go_wp2_with fail
 clear zc
 refine eH kC ax (pg O os n c K hs m d hn hm hI.out hb1 hb2 true HT _ (kD.out _ ax) (kO.out _ ax) (kH.out _ ax)) fun w2 aK zc => ?_
 go_wp2
 go_ret
 exact ⟨rfl, gy aj aK⟩
theorem Qt (P Q G need : Int) (Cs : Option Addr) (cs : List Int) (cn cc : Nat) (Ks : Option Addr) (ks : List Int) (kn kc : Nat) (hcn : Hid (cs.length = cn)) (hkn : Hid (ks.length = kn)) (hQ : Q < 9223372036854775808) (O : Option Addr) (os : List az) (n c : Nat) (K : Option Addr) (hs : List (List Int)) (m d : Nat) (hn : Hid (os.length = n)) (hm : Hid (hs.length = m)) (hI : Hid (∀ k, k < n → dJ (bL os k))) (hb1 : n ≤ 1000000) (hb2 : m ≤ 1000000) (i : Int) (HT : Kp (fP os hs = true)) (hr : Hid (tL P Q G need cs ks = true)) (h0 : 0 ≤ i) (h : (n : Int) ≤ i) (w : World) (hv : Hid (Vars w)) (hd0 : Hid (bz w)) (hC : Hid (Sl w Cs cs)) (hK : Hid (Sl w Ks ks)) (hO : Hid (Os w O os)) (hH : Hid (Hs w K hs)) :
  Calls Tryz.prog 77 #[gv P Q G, kN need Cs cn cc Ks kn kc, gI O n c K m d, .int .i64 i] w (Rt w (.int .i64 7)) := by
 have e1 : decide (i < 0) = false := by simp; omega
 have e2 : decide ((n : Int) ≤ i) = true := by simpa using h
 obtain ⟨w0, HW, aj, kC⟩ := sW (bq P Q G) fE (.cells #[.int .i64 need, .slice Cs cn cc, .slice Ks kn kc] 26) fE (jh O n c K m d) qA w
 have kO := fq (fun u => Os u O os) aj hO (·.below)
 have kH := fq (fun u => Hs u K hs) aj hH (·.below)
 have kD := o6 aj hd0
 have jX := mkS aj hC
 have jW := mkS aj hK
 have kV := mkV aj hv
 have ah := bP w0
 clear hO hH hd0 hC hK hv
 go_in
 go_upto_region 1 with (fail)
 rw [HW.out]
 have zc := kC.out _ ah
 go_wp2_with fail
 clear zc
 refine eH kC ah (ji P Q G need Cs cs cn cc Ks ks kn kc hcn hkn true hr hQ _ (jX.out _ ah) (jW.out _ ah)) fun w1 ax zc => ?_
 go_wp2_with fail
 clear zc
 refine eH kC ax (pg O os n c K hs m d hn hm hI.out hb1 hb2 true HT _ (kD.out _ ax) (kO.out _ ax) (kH.out _ ax)) fun w2 aK zc => ?_
 go_wp2
 go_ret
 exact ⟨rfl, gy aj aK⟩
theorem Qs (P Q G need : Int) (Cs : Option Addr) (cs : List Int) (cn cc : Nat) (Ks : Option Addr) (ks : List Int) (kn kc : Nat) (hcn : Hid (cs.length = cn)) (hkn : Hid (ks.length = kn)) (hQ : Q < 9223372036854775808) (O : Option Addr) (os : List az) (n c : Nat) (K : Option Addr) (hs : List (List Int)) (m d : Nat) (hn : Hid (os.length = n)) (hm : Hid (hs.length = m)) (hI : Hid (∀ k, k < n → dJ (bL os k))) (hb1 : n ≤ 1000000) (hb2 : m ≤ 1000000) (i : Nat) (HT : Kp (fP os hs = true)) (hr : Hid (tL P Q G need cs ks = true)) (hi : i < n) (hk0 : (bL os i).key = 0) (w : World) (hv : Hid (Vars w)) (hd0 : Hid (bz w)) (hC : Hid (Sl w Cs cs)) (hK : Hid (Sl w Ks ks)) (hO : Hid (Os w O os)) (hH : Hid (Hs w K hs)) :
  Calls Tryz.prog 77 #[gv P Q G, kN need Cs cn cc Ks kn kc, gI O n c K m d, .int .i64 (i : Int)] w (Rt w (.int .i64 0)) := by
 have e1 : decide ((i : Int) < 0) = false := by simp
 have e2 : decide ((n : Int) ≤ (i : Int)) = false := by simp; omega
 obtain ⟨w0, HW, aj, kC⟩ := sW (bq P Q G) fE (.cells #[.int .i64 need, .slice Cs cn cc, .slice Ks kn kc] 26) fE (jh O n c K m d) qA w
 have kO := fq (fun u => Os u O os) aj hO (·.below)
 have kH := fq (fun u => Hs u K hs) aj hH (·.below)
 have kD := o6 aj hd0
 have jX := mkS aj hC
 have jW := mkS aj hK
 have kV := mkV aj hv
 have ah := bP w0
 clear hO hH hd0 hC hK hv
 obtain ⟨bO, fO, CF, bN, hok⟩ := ((kO.out _ ah)).out i (by rw [hn.out]; exact hi)
 subst CF
 obtain ⟨o, hoe⟩ : ∃ x, bL os i = x := ⟨_, rfl⟩
 rw [show os.getD i dI = o from hoe] at bN hok
 have nW := aa hoe
 have xD := aa bN
 have lW := aa hok
 clear bN hok hoe
 rw [nW.out] at hk0
 have e3 : (o.key != 0) = false := by simpa using hk0
 go_in
 go_upto_region 1 with (fail)
 rw [HW.out]
 have zc := kC.out _ ah
 go_wp2_with fail
 clear zc
 refine eH kC ah (ji P Q G need Cs cs cn cc Ks ks kn kc hcn hkn true hr hQ _ (jX.out _ ah) (jW.out _ ah)) fun w1 ax zc => ?_
 go_wp2_with fail
 clear zc
 refine eH kC ax (pg _ os n c K hs m d hn hm hI.out hb1 hb2 true HT _ (kD.out _ ax) (kO.out _ ax) (kH.out _ ax)) fun w2 aK zc => ?_
 have z8 := cell_below xD.out.2.2.2.2.2.2.2.2 aK.out
 go_wp2
 go_ret
 exact ⟨rfl, gy aj aK⟩
theorem Qr (P Q G need : Int) (Cs : Option Addr) (cs : List Int) (cn cc : Nat) (Ks : Option Addr) (ks : List Int) (kn kc : Nat) (hcn : Hid (cs.length = cn)) (hkn : Hid (ks.length = kn)) (hQ : Q < 9223372036854775808) (O : Option Addr) (os : List az) (n c : Nat) (K : Option Addr) (hs : List (List Int)) (m d : Nat) (hn : Hid (os.length = n)) (hm : Hid (hs.length = m)) (hI : Hid (∀ k, k < n → dJ (bL os k))) (hb1 : n ≤ 1000000) (hb2 : m ≤ 1000000) (i : Nat) (HT : Kp (fP os hs = true)) (hr : Hid (tL P Q G need cs ks = true)) (hi : i < n) (hk0 : (bL os i).key ≠ 0) (w : World) (hv : Hid (Vars w)) (hd0 : Hid (bz w)) (hC : Hid (Sl w Cs cs)) (hK : Hid (Sl w Ks ks)) (hO : Hid (Os w O os)) (hH : Hid (Hs w K hs)) :
  Calls Tryz.prog 77 #[gv P Q G, kN need Cs cn cc Ks kn kc, gI O n c K m d, .int .i64 (i : Int)] w (Rt w (.int .i64 6)) := by
 have e1 : decide ((i : Int) < 0) = false := by simp
 have e2 : decide ((n : Int) ≤ (i : Int)) = false := by simp; omega
 obtain ⟨w0, HW, aj, kC⟩ := sW (bq P Q G) fE (.cells #[.int .i64 need, .slice Cs cn cc, .slice Ks kn kc] 26) fE (jh O n c K m d) qA w
 have kO := fq (fun u => Os u O os) aj hO (·.below)
 have kH := fq (fun u => Hs u K hs) aj hH (·.below)
 have kD := o6 aj hd0
 have jX := mkS aj hC
 have jW := mkS aj hK
 have kV := mkV aj hv
 have ah := bP w0
 clear hO hH hd0 hC hK hv
 obtain ⟨bO, fO, CF, bN, hok⟩ := ((kO.out _ ah)).out i (by rw [hn.out]; exact hi)
 subst CF
 obtain ⟨o, hoe⟩ : ∃ x, bL os i = x := ⟨_, rfl⟩
 rw [show os.getD i dI = o from hoe] at bN hok
 have nW := aa hoe
 have xD := aa bN
 have lW := aa hok
 clear bN hok hoe
 rw [nW.out] at hk0
 have e3 : (o.key != 0) = true := by simpa using hk0
 go_in
 go_upto_region 1 with (fail)
 rw [HW.out]
 have zc := kC.out _ ah
 go_wp2_with fail
 clear zc
 refine eH kC ah (ji P Q G need Cs cs cn cc Ks ks kn kc hcn hkn true hr hQ _ (jX.out _ ah) (jW.out _ ah)) fun w1 ax zc => ?_
 go_wp2_with fail
 clear zc
 refine eH kC ax (pg _ os n c K hs m d hn hm hI.out hb1 hb2 true HT _ (kD.out _ ax) (kO.out _ ax) (kH.out _ ax)) fun w2 aK zc => ?_
 have z8 := cell_below xD.out.2.2.2.2.2.2.2.2 aK.out
 go_wp2
 go_ret
 exact ⟨rfl, gy aj aK⟩
theorem sM (P Q G need : Int) (Cs : Option Addr) (cs : List Int) (cn cc : Nat) (Ks : Option Addr) (ks : List Int) (kn kc : Nat) (hcn : Hid (cs.length = cn)) (hkn : Hid (ks.length = kn)) (hQ : Q < 9223372036854775808) (O : Option Addr) (os : List az) (n c : Nat) (K : Option Addr) (hs : List (List Int)) (m d : Nat) (hn : Hid (os.length = n)) (hm : Hid (hs.length = m)) (hI : Hid (∀ k, k < n → dJ (bL os k))) (hb1 : n ≤ 1000000) (hb2 : m ≤ 1000000) (i : Int) (r : Int) (hr : Hid (IM P Q G need cs ks os hs n i = r)) (w : World) (hv : Hid (Vars w)) (hd0 : Hid (bz w)) (hC : Hid (Sl w Cs cs)) (hK : Hid (Sl w Ks ks)) (hO : Hid (Os w O os)) (hH : Hid (Hs w K hs)) :
  Calls Tryz.prog 77 #[gv P Q G, kN need Cs cn cc Ks kn kc, gI O n c K m d, .int .i64 i] w (Rt w (.int .i64 r)) := by
 have hr1 := hr.out
 unfold IM at hr1
 cases h2 : tL P Q G need cs ks with
 | false =>
  have hr2 : r = 1 := by rw [← hr1, h2]; split <;> rfl
  subst hr2
  cases h1 : fP os hs with
  | false => exact IV P Q G need Cs cs cn cc Ks ks kn kc hcn hkn hQ O os n c K hs m d hn hm hI hb1 hb2 i (aa h2) w hv hd0 hC hK hO hH
  | true => exact IV P Q G need Cs cs cn cc Ks ks kn kc hcn hkn hQ O os n c K hs m d hn hm hI hb1 hb2 i (aa h2) w hv hd0 hC hK hO hH
 | true =>
  cases h1 : fP os hs with
  | false =>
   have hr2 : r = 1 := by rw [← hr1, h1]; rfl
   subst hr2
   exact Qv P Q G need Cs cs cn cc Ks ks kn kc hcn hkn hQ O os n c K hs m d hn hm hI hb1 hb2 i ⟨h1⟩ (aa h2) w hv hd0 hC hK hO hH
  | true =>
   rw [h1, h2] at hr1
   by_cases h3 : i < 0
   ·
    rw [if_neg (by simp), if_neg (by simp), if_pos h3] at hr1
    subst hr1
    exact Qu P Q G need Cs cs cn cc Ks ks kn kc hcn hkn hQ O os n c K hs m d hn hm hI hb1 hb2 i ⟨h1⟩ (aa h2) h3 w hv hd0 hC hK hO hH
   ·
    by_cases h4 : (n : Int) ≤ i
    ·
     rw [if_neg (by simp), if_neg (by simp), if_neg h3, if_pos h4] at hr1
     subst hr1
     exact Qt P Q G need Cs cs cn cc Ks ks kn kc hcn hkn hQ O os n c K hs m d hn hm hI hb1 hb2 i ⟨h1⟩ (aa h2) (by omega) h4 w hv hd0 hC hK hO hH
    ·
     obtain ⟨k, rfl⟩ : ∃ k : Nat, i = (k : Int) := ⟨i.toNat, by omega⟩
     rw [if_neg (by simp), if_neg (by simp), if_neg h3, if_neg h4, Int.toNat_natCast] at hr1
     by_cases h5 : (bL os k).key = 0
     ·
      rw [if_pos h5] at hr1
      subst hr1
      exact Qs P Q G need Cs cs cn cc Ks ks kn kc hcn hkn hQ O os n c K hs m d hn hm hI hb1 hb2 k ⟨h1⟩ (aa h2) (by omega) h5 w hv hd0 hC hK hO hH
     ·
      rw [if_neg h5] at hr1
      subst hr1
      exact Qr P Q G need Cs cs cn cc Ks ks kn kc hcn hkn hQ O os n c K hs m d hn hm hI hb1 hb2 k ⟨h1⟩ (aa h2) (by omega) h5 w hv hd0 hC hK hO hH
def nZ (D : Nat → Prop) (w : World) (φ : World → Prop) : Prop := ∀ w' : World, (∀ b, b < w.heap.size → ¬ D b → w'.heap[b]? = w.heap[b]?) → φ w'
section
variable {D D' : Nat → Prop} {w w' : World} {φ ψ : World → Prop}
theorem nZ.self (h : nZ D w φ) : φ w := h w fun _ _ _ => rfl
theorem nZ.step (h : nZ D w φ) (hz : w.heap.size ≤ w'.heap.size) (hch : ∀ b, b < w.heap.size → ¬ D b → w'.heap[b]? = w.heap[b]?) (hD : ∀ b, b < w.heap.size → D' b → D b) : nZ D' w' φ :=
 fun w2 h2 => h w2 fun b hb hn => (h2 b (Nat.lt_of_lt_of_le hb hz) (fun e => hn (hD b hb e))).trans (hch b hb hn)
theorem nZ.below (h : nZ D w φ) (hb : Below w.heap.size w w') : nZ D w' φ := h.step hb.size (fun b q _ => hb.block b q) (fun _ _ e => e)
theorem nZ.shrink (h : nZ D w φ) (hD : ∀ b, b < w.heap.size → D' b → D b) : nZ D' w φ := h.step (Nat.le_refl _) (fun _ _ _ => rfl) hD
theorem nZ.imp (h : nZ D w φ) (hi : ∀ u, φ u → ψ u) : nZ D w ψ := fun u hu => hi u (h u hu)
theorem nZ.and (h : nZ D w φ) (h2 : nZ D w ψ) : nZ D w (fun u => φ u ∧ ψ u) := fun u hu => ⟨h u hu, h2 u hu⟩
theorem nZ.grown {row : Option Nat} (h : nZ D w φ) (hg : w.grownBy w' row) (hr : ∀ b, row = some b → D b) (hD : ∀ b, b < w.heap.size → D' b → D b) : nZ D' w' φ :=
 h.step hg.size (fun b q hn => hg.block b q (fun e => hn (hr b e.symm))) hD
theorem nZ.setCell {a j : Nat} {v : Value} (h : nZ D w φ) (ha : D a) : nZ D (w.setCell ⟨a, j, none⟩ v) φ :=
 h.step (by rw [World.size_setCell]; exact Nat.le_refl _) (fun b q hn => Go.Deep.blk_setCell_other _ _ _ _ (fun e => hn (by rw [e]; exact ha))) (fun _ _ e => e)
theorem nZ.setRow {a : Nat} {cs : Array Value} (h : nZ D w φ) (ha : D a) : nZ D (w.setRow a cs) φ :=
 h.step (by simp [World.setRow]) (fun b q hn => setRow_other w a b cs (fun e => hn (by rw [e]; exact ha))) (fun _ _ e => e)
theorem za {A : Option Addr} {xs : List Int} (h : Sl w A xs) (hA : ∀ b o, A = some ⟨b, o, none⟩ → 0 < xs.length → ¬ D b) : nZ D w (fun u => Sl u A xs) := fun w' h' k hk => by
 obtain ⟨b, o, rfl, hc⟩ := h k hk
 exact ⟨b, o, rfl, (kF (h' b (World.block_lt_of_cell? _ _ hc) (hA b o rfl (by omega)))).trans hc⟩
end
structure qC (p p' : aV) : Prop where
 ix : p'.ix = p.ix
 v : p'.v = p.v
 na : p'.na = p.na
 al : p'.al = p.al
 C : p'.C = p.C
 nz : p'.nz = p.nz
 zs : p'.zs = p.zs
theorem qC.rfl' (p : aV) : qC p p := ⟨rfl, rfl, rfl, rfl, rfl, rfl, rfl⟩
theorem qC.it {p p' : aV} (h : qC p p') : Af p' = Af p := by rw [Af, Af, h.ix, h.v, h.al, h.C, h.zs]
theorem qC.i {p p' : aV} (h : qC p p') (hi : ug p) : ug p' := by
 obtain ⟨h1, h2, h3, h4, h5⟩ := hi
 exact ⟨by rw [h.ix]; exact h1, by rw [h.v]; exact h2, by rw [h.C]; exact h3, by rw [h.al]; exact h4, by rw [h.zs]; exact h5⟩
structure sj (o o' : az) : Prop where
 num : o'.num = o.num
 rs : o'.rs = o.rs
 E1 : o'.E1 = o.E1
 E2 : o'.E2 = o.E2
 na : o'.na = o.na
 al : o'.al = o.al
 C : o'.C = o.C
 nz : o'.nz = o.nz
 zs : o'.zs = o.zs
 np : o'.np = o.np
 key : o'.key = o.key
 ln : o'.ps.length = o.ps.length
 p : ∀ k, k < o.ps.length → qC (o.ps.getD k aH) (o'.ps.getD k aH)
theorem Qo {ps : List aV} {k : Nat} (h : k < ps.length) : ps.getD k aH = ps[k] := by
 rw [List.getD_eq_getElem?_getD, List.getElem?_eq_getElem h]; rfl
theorem PS {ps ps' : List aV} (hl : ps'.length = ps.length) (h : ∀ k, k < ps.length → qC (ps.getD k aH) (ps'.getD k aH)) : ps'.map Af = ps.map Af := by
 refine List.ext_getElem (by simp [hl]) fun k h1 h2 => ?_
 have hk : k < ps.length := by simpa using h2
 have h9 := (h k hk).it
 rw [Qo hk, Qo (by rw [hl]; exact hk)] at h9
 rw [List.getElem_map, List.getElem_map]
 exact h9
theorem Iw {ps ps' : List aV} (hl : ps'.length = ps.length) (h : ∀ k, k < ps.length → qC (ps.getD k aH) (ps'.getD k aH)) {p' : aV} (hp : p' ∈ ps') : ∃ p, p ∈ ps ∧ qC p p' := by
 obtain ⟨k, hk, rfl⟩ := List.getElem_of_mem hp
 have hk2 : k < ps.length := by rw [← hl]; exact hk
 have h9 := h k hk2
 rw [Qo hk2, Qo hk] at h9
 exact ⟨_, List.getElem_mem hk2, h9⟩
theorem sj.it {o o' : az} (h : sj o o') : xk o' = xk o := by rw [xk, xk, h.num, h.rs, h.E1, h.E2, h.al, h.C, h.zs, h.key, PS h.ln h.p]
theorem sj.s {o o' : az} (h : sj o o') (hs : fH o) : fH o' :=
 ⟨by rw [h.al]; exact hs.a, by rw [h.zs]; exact hs.z, by rw [h.ln]; exact hs.n, fun p' hp => by
  obtain ⟨p, hp2, hq⟩ := Iw h.ln h.p hp
  rw [hq.al, hq.zs]
  exact hs.p p hp2, by rw [h.rs]; exact hs.r0, by rw [h.rs]; exact hs.r1⟩
theorem sj.i {o o' : az} (h : sj o o') (hi : dJ o) : dJ o' := by
 obtain ⟨h1, h2, h3, h4, h5, h6, h7, h8⟩ := hi
 refine ⟨by rw [h.num]; exact h1, by rw [h.E1]; exact h2, by rw [h.E2]; exact h3, by rw [h.C]; exact h4, by rw [h.key]; exact h5, by rw [h.al]; exact h6, by rw [h.zs]; exact h7, fun p' hp => ?_⟩
 obtain ⟨p, hp2, hq⟩ := Iw h.ln h.p hp
 exact hq.i (h8 p hp2)
theorem sj.rfl' (o : az) : sj o o := ⟨rfl, rfl, rfl, rfl, rfl, rfl, rfl, rfl, rfl, rfl, rfl, rfl, fun k _ => qC.rfl' _⟩
theorem Pb (o : az) (L : Option Addr) (c : Nat) : sj o (Tp o L c) := ⟨rfl, rfl, rfl, rfl, rfl, rfl, rfl, rfl, rfl, rfl, rfl, rfl, fun k _ => qC.rfl' _⟩
structure xA (base : Nat) (D : Nat → Prop) (w : World) (o : az) : Prop where
 la : o.al.length = o.na
 lz : o.zs.length = o.nz
 lp : o.ps.length = o.np
 cp : o.np ≤ o.cp
 dA : nZ D w (fun u => Sl u o.A o.al)
 dZ : nZ D w (fun u => Sl u o.Z o.zs)
 dP : nZ D w (fun u => ∀ k, k < o.ps.length → vV u (o.ps.getD k aH))
 row : w.ownsRow base 56 5 (.slice o.L o.np o.cp) o.np (o.ps.flatMap qQ)
theorem F5 {w : World} {base n c : Nat} {L : Option Addr} {ps : List aV} (hl : ps.length = n) (hr : w.ownsRow base 56 5 (.slice L n c) n (ps.flatMap qQ)) (hok : ∀ k, k < ps.length → vV w (ps.getD k aH)) : Pa w L ps := fun k hk => by
 obtain ⟨g, cap, e, _, _, _, _, hc⟩ := mV qQ 5 aH hr hl (fun _ _ => rfl) (by omega)
 cases e
 have h9 := hc k (by omega)
 refine ⟨g, 0, rfl, ?_, ?_, ?_, ?_, ?_, hok k hk⟩
 · rw [Nat.zero_add]; exact h9 0 (by decide)
 · rw [Nat.zero_add]; exact h9 1 (by decide)
 · rw [Nat.zero_add]; exact h9 2 (by decide)
 · rw [Nat.zero_add]; exact h9 3 (by decide)
 · rw [Nat.zero_add]; exact h9 4 (by decide)
theorem xA.ok {base : Nat} {D : Nat → Prop} {w : World} {o : az} (h : xA base D w o) : dW w o :=
 ⟨h.la, h.lz, ⟨h.lp, h.cp⟩, h.dA.self, h.dZ.self, F5 h.lp h.row h.dP.self⟩
theorem xA.dep {base : Nat} {D D' : Nat → Prop} {w : World} {o : az} (h : xA base D w o) (hD : ∀ b, b < w.heap.size → D' b → D b) (hL : ∀ b, (Value.slice o.L o.np o.cp).ownBlock = some b → ¬ D' b) : nZ D' w (fun u => dW u o) := fun w' h' =>
 ⟨h.la, h.lz, ⟨h.lp, h.cp⟩, (h.dA.shrink hD) w' h', (h.dZ.shrink hD) w' h', by
  refine F5 (base := base) (c := o.cp) h.lp ⟨h.row.1, ?_⟩ ((h.dP.shrink hD) w' h')
  rcases h.row.2 with e | ⟨g, cap, cur, e, hg, hh, rest⟩
  · exact .inl e
  ·
   refine .inr ⟨g, cap, cur, e, hg, ?_, rest⟩
   refine (h' g (Array.getElem?_eq_some_iff.1 hh).1 (hL g ?_)).trans hh
   rw [e]; rfl⟩
theorem xA.step {base : Nat} {D D' : Nat → Prop} {w w' : World} {o : az} (h : xA base D w o) (hz : w.heap.size ≤ w'.heap.size) (hch : ∀ b, b < w.heap.size → ¬ D b → w'.heap[b]? = w.heap[b]?) (hD : ∀ b, b < w.heap.size → D' b → D b) (hrow : ∀ b, (Value.slice o.L o.np o.cp).ownBlock = some b → w'.heap[b]? = w.heap[b]?) : xA base D' w' o :=
 ⟨h.la, h.lz, h.lp, h.cp, h.dA.step hz hch hD, h.dZ.step hz hch hD, h.dP.step hz hch hD, h.row.1, by
  rcases h.row.2 with e | ⟨g, cap, cur, e, hg, hh, rest⟩
  · exact .inl e
  · exact .inr ⟨g, cap, cur, e, hg, (hrow g (by rw [e]; rfl)).trans hh, rest⟩⟩
def Yi (hs : List (List Int)) (m : Nat) (w : World) (e : Ending) (w' : World) : Prop := ∃ K d, e = .returned (.slice K m d) ∧ w'.ownsRow w.heap.size 41 32 (.slice K m d) m (hs.flatMap oN) ∧ Below w.heap.size w w'
theorem GQ (K : Option Addr) (hs : List (List Int)) (m d : Nat) (hm : Hid (hs.length = m)) (hb : m ≤ 1000000) (w : World) (hK : Hid (Hs w K hs)) :
  Calls Tryz.prog 128 #[.slice K m d] w (Yi hs m w) := by
 have hq : ∀ (w : World) (a : Option Addr) (n c n' c' : Nat), (binOp .eql 50 (.slice a n c) (.slice none n' c')).run Tryz.prog w = .ok (.bool a.isNone) w := fun w a n c n' c' => Lib.run_eql_slice_nil w _ _ a n c n' c' Tryz.underlying50
 cases K with
 | none =>
  have h0 : m = 0 := by
   refine Nat.eq_zero_of_not_pos fun h => ?_
   obtain ⟨b, o, e, _⟩ := hK.out 0 (by rw [hm.out]; exact h)
   cases e
  subst h0
  have hn : hs = [] := List.eq_nil_of_length_eq_zero hm.out
  subst hn
  go_in
  go_wp2
  go_ret
  exact ⟨none, 0, rfl, World.ownsRow_nil _ _ _ _, Below.refl _ _⟩
 | some a =>
  obtain ⟨i0, hi, hz0, hz1, hz2⟩ := info_parts IK
  have hrow : (w.alloc (.cells #[] 41)).ownsRow w.heap.size 41 32 (.slice (some ⟨w.heap.size, 0, none⟩) 0 0) 0 [] := World.ownsRow_lit w #[] 0 (Nat.le_refl _) (by decide) rfl
  have hK1 := aa (hK.out.below (af w (.cells #[] 41)))
  have hnw := IL hK1.out hm.out
  have hln : (hs.flatMap oN).length = m * 32 := by rw [rU oN 32 hs (fun x hx => by rw [oN, List.length_map]; exact vJ hK.out x hx), hm.out]
  have b1 : 0 + m ≤ maxLen := by unfold maxLen; omega
  have b2 : (0 + m) * 32 ≤ 140737488355328 := by omega
  clear hK hK1
  go_in
  go_wp2_with (at_builtin; refine jG rfl _ _ 50 rfl w.heap.size 41 i0 (.agg (arr .u8 (dz 32))) 32 32 Tryz.underlying50 hi hz0 hz1 hz2 (by rfl) (by decide) _ _ _ rfl hrow (some a) m d _ rfl hln hnw (IJ _) b1 b2 (by simp) ?_; intro A1 c1 w1 hown1 hgrow1 Xn)
  have hown2 : w1.ownsRow w.heap.size 41 32 (.slice A1 m c1) m (hs.flatMap oN) := by simpa using hown1
  have bV : Below w.heap.size w w1 := ((Below.refl w.heap.size w).alloc (Nat.le_refl _) (.cells #[] 41)).grown hgrow1 (by simp) (fun j hj => by cases hj; exact Nat.le_refl _)
  go_wp2
  go_ret
  exact ⟨A1, c1, by simp, hown2, bV⟩
def Yg (p : aV) (w : World) (e : Ending) (w' : World) : Prop := ∃ p', e = .returned (Ae p') ∧ qC p p' ∧ (p'.al.length = p'.na ∧ p'.zs.length = p'.nz) ∧ nZ (fun b => b < w.heap.size) w' (fun u => Sl u p'.A p'.al) ∧ nZ (fun b => b < w.heap.size) w' (fun u => Sl u p'.Z p'.zs) ∧ Below w.heap.size w w'
theorem LU (p : aV) (hna : Hid (p.al.length = p.na)) (hnz : Hid (p.zs.length = p.nz)) (hb1 : p.na ≤ 100000) (hb2 : p.nz ≤ 100000) (w : World) (hA : Hid (Sl w p.A p.al)) (hZ : Hid (Sl w p.Z p.zs)) :
  Calls Tryz.prog 76 #[Ae p] w (Yg p w) := by
 obtain ⟨w0, HW, aj, kC⟩ := st2 (oh p) AB (.cells #[.int .i64 0, .int .i64 0, .slice none 0 0, .int .i64 0, .slice none 0 0] 56) sO w
 have kA := mkS aj hA
 have kZ := mkS aj hZ
 have nT := Bg (w0 := w0) (o := .cells #[.int .i64 0, .int .i64 0, .slice none 0 0, .int .i64 0, .slice none 0 0] 56) (w.heap.size + 1) (by rw [← HW.out]; exact heap_alloc2_new _ _ _)
 have Fj := aa (show ∀ u : World, Hid (Below w0.heap.size w0 u) → ∀ j, u.frozen? ⟨w.heap.size, j, none⟩ = false from fun u h j => av (bG (by rw [← HW.out]; exact heap_alloc2_old _ _ _) h.out) j)
 have ah := bP w0
 clear hA hZ
 have jO : Hid (w0.heap.size = w.heap.size + 2) := aa (by rw [← HW.out]; simp)
 go_in
 go_wp2_with fail
 rw [HW.out]
 have zc := kC.out _ ah
 go_wp2_with fail
 refine (Ca p.A p.na p.ca p.al p.C p.Z p.nz p.cz p.zs hna hnz hb1 hb2 _ (kA.out _ ah) (kZ.out _ ah)).mono ?_
 rintro e w1 ⟨A, ca, Z, cz, rfl, hsa, hsz, hb0⟩
 have ax := bF ah hb0
 clear zc hb0
 have zc := kC.out _ ax
 have RX := aa hsa
 have lu := aa hsz
 clear hsa hsz
 have f0 := Fj.out _ ax 0
 have f1 := Fj.out _ ax 1
 have f2 := Fj.out _ ax 2
 have f3 := Fj.out _ ax 3
 have f4 := Fj.out _ ax 4
 go_upto_region 2 with (fail)
 clear zc
 obtain ⟨wm, wh, xH, xG, Ap, -⟩ := kC.out _ ax
 obtain ⟨wz, hwz⟩ : ∃ x, (((w1.setCell ⟨w.heap.size, 2, none⟩ (.slice A p.na ca)).setCell ⟨w.heap.size, 3, none⟩ (.int .i64 p.C)).setCell ⟨w.heap.size, 4, none⟩ (.slice Z p.nz cz)) = x := ⟨_, rfl⟩
 have z0 : Own wz ⟨w.heap.size, 0, none⟩ (.int .i64 p.ix) := by rw [← hwz]; exact ak (ak (ak ⟨wm, f0⟩ (by simp)) (by simp)) (by simp)
 have z1 : Own wz ⟨w.heap.size, 1, none⟩ (.int .i64 p.v) := by rw [← hwz]; exact ak (ak (ak ⟨wh, f1⟩ (by simp)) (by simp)) (by simp)
 have z2 : Own wz ⟨w.heap.size, 2, none⟩ (.slice A p.na ca) := by rw [← hwz]; exact ak (ak (bu ⟨xH, f2⟩) (by simp)) (by simp)
 have z3 : Own wz ⟨w.heap.size, 3, none⟩ (.int .i64 p.C) := by rw [← hwz]; exact ak (bu (ak ⟨xG, f3⟩ (by simp))) (by simp)
 have z4 : Own wz ⟨w.heap.size, 4, none⟩ (.slice Z p.nz cz) := by rw [← hwz]; exact bu (ak (ak ⟨Ap, f4⟩ (by simp)) (by simp))
 have Ex : w.heap.size < w0.heap.size := by have := jO.out; omega
 have HDA : Hid (nZ (fun b => b < w0.heap.size) wz (fun u => Sl u A p.al)) := aa (by rw [← hwz]; exact (((za RX.out.1 fun b o e h0 => Nat.not_lt.2 (RX.out.2 b o e h0)).setCell Ex).setCell Ex).setCell Ex)
 have HDZ : Hid (nZ (fun b => b < w0.heap.size) wz (fun u => Sl u Z p.zs)) := aa (by rw [← hwz]; exact (((za lu.out.1 fun b o e h0 => Nat.not_lt.2 (lu.out.2 b o e h0)).setCell Ex).setCell Ex).setCell Ex)
 have R7 : Hid (Below w.heap.size w wz) := aa (by rw [← hwz]; exact (((ag aj.out ax.out).setCell (Nat.le_refl _) _).setCell (Nat.le_refl _) _).setCell (Nat.le_refl _) _)
 have jF : Hid (wz.heap[w.heap.size + 1]? = some (.cells #[.int .i64 0, .int .i64 0, .slice none 0 0, .int .i64 0, .slice none 0 0] 56)) := aa (by rw [← hwz]; exact (Go.Deep.blk_setCell_other _ _ _ _ (show w.heap.size + 1 ≠ w.heap.size by omega)).trans ((Go.Deep.blk_setCell_other _ _ _ _ (show w.heap.size + 1 ≠ w.heap.size by omega)).trans ((Go.Deep.blk_setCell_other _ _ _ _ (show w.heap.size + 1 ≠ w.heap.size by omega)).trans (nT.out _ ax).out)))
 rw [hwz]
 clear hwz f0 f1 f2 f3 f4
 clear wm wh xH xG Ap
 obtain ⟨z0, y0⟩ := z0
 obtain ⟨z1, y1⟩ := z1
 obtain ⟨z2, y2⟩ := z2
 obtain ⟨z3, y3⟩ := z3
 obtain ⟨z4, y4⟩ := z4
 go_wp2_with ((with_reducible show wpList _ _ _ (⟨none, _, _, _, _, _⟩ :: _) _ _); refine wpList_store_row rfl 56 _ _ rfl (w.heap.size + 1) #[.int .i64 p.ix, .int .i64 p.v, .slice A p.na ca, .int .i64 p.C, .slice Z p.nz cz] rfl rfl _ _ jF.out (by kernel_rfl) rfl (by simp [Value.oneCell']) ?_)
 have hrw := setRow_heap _ _ _ #[.int .i64 p.ix, .int .i64 p.v, .slice A p.na ca, .int .i64 p.C, .slice Z p.nz cz] _ _ jF.out
 have bV := ai R7.out (cs := #[.int .i64 p.ix, .int .i64 p.v, .slice A p.na ca, .int .i64 p.C, .slice Z p.nz cz]) (Nat.le_add_right w.heap.size 1)
 have hlt1 : w.heap.size + 1 < w0.heap.size := by have := jO.out; omega
 exact bodyPost_ret (v := Ae { p with A := A, ca := ca, Z := Z, cz := cz }) (aD (p := 2) (ty := 56) rfl _ _ ⟨w.heap.size + 1, 0, none⟩ _ rfl (run_loadVar_row _ _ _ _ _ _ _ hrw Tryz.underlying56 rfl (by kernel_rfl))) rfl ⟨{ p with A := A, ca := ca, Z := Z, cz := cz }, rfl, ⟨rfl, rfl, rfl, rfl, rfl, rfl, rfl⟩, ⟨hna.out, hnz.out⟩, (HDA.out.setRow hlt1).shrink (fun b _ q => Nat.lt_of_lt_of_le q (Nat.le_of_lt Ex)), (HDZ.out.setRow hlt1).shrink (fun b _ q => Nat.lt_of_lt_of_le q (Nat.le_of_lt Ex)), bV⟩
end Go.Proofs.YtchcllcbknfikaaGreatDoor