/- Contracts and lemmas: DigG, TrB, TrC, TrD, TrE, TrF, TrG, TrH, DrA, DrC, Two, TruD, Cmb, LcA. -/
import Derived.Laws.AppendOwnNone
import Derived.Deep.AppendLies
import Derived.Deep.MidRow
import Derived.Test.YtjnoaejikapmdaaGreatDoorTo4
namespace Go.Proofs.YtjnoaejikapmdaaGreatDoor
open Go.RowKit SpM
set_option linter.unusedVariables false
set_option linter.unusedSimpArgs false
set_option maxRecDepth 100000
def numL (m : Int) (h : List Int) : Nat → Int
  | 0 => 0
  | k + 1 => (numL m h k * 256 + h.getD k 0) % m
def numv (m : Int) (h : List Int) : Int := numL m h 16
theorem numL_lo {m : Int} {h : List Int} (hm : 1 ≤ m) (k : Nat) : 0 ≤ numL m h k ∧ numL m h k < m := by
  cases k with
  | zero => exact ⟨Int.le_refl _, by simp [numL]; omega⟩
  | succ k => exact ⟨Int.emod_nonneg _ (by omega), Int.emod_lt_of_pos _ (by omega)⟩
theorem dbl_step {acc m a : Int} {j : Nat} (h : acc * 2 ^ j % m = a) : acc * 2 ^ (j + 1) % m = (a + a) % m := by
  rw [← h, Int.pow_succ, ← Int.mul_assoc, Int.mul_comm _ 2, Int.add_emod_emod, Int.emod_add_emod]
  congr 1
  omega
theorem num_step {acc m a c : Int} (h : acc * 2 ^ 8 % m = a) : (a + c % m) % m = (acc * 256 + c) % m := by
  rw [← h, Int.add_emod_emod, Int.emod_add_emod]
  rfl
theorem num_step2 {acc m c : Int} : (acc * (256 % m) % m + c) % m = (acc * 256 + c) % m := by
  have e : acc * (256 % m) % m = acc * 256 % m := by
    rw [Int.mul_emod acc (256 % m), Int.emod_emod_of_dvd _ (Int.dvd_refl m), ← Int.mul_emod]
  rw [e, Int.emod_add_emod]
set_option maxHeartbeats 1600000 in
theorem number_any (h : List Int) (hh : Hid (h.length = 32)) (hb : Hid (bytesB h = true)) (m : Int) (h1 : 1 ≤ m) (h2 : m < 2305843009213693952) (w : World) :
    Calls Tryz.prog 290 #[.agg (arr .u8 h), .int .i64 m] w fun e w' => e = .returned (.tuple #[.int .i64 (numv m h), .int .i64 0]) ∧ Below w.heap.size w w' := by
  obtain ⟨W, hW⟩ : ∃ W, w.alloc (.cells (arr .u8 h) 41) = W := ⟨_, rfl⟩
  have HBX : Hid (Below w.heap.size w W) := Lib.hid (by rw [← hW]; exact below_box0 _ _)
  have HR0 : Hid (Blk .u8 41 W w.heap.size h) := Lib.hid (by rw [← hW]; exact Blk.new _ _)
  have HW := Lib.hid hW
  clear hW
  have hm0 : ((m : Int) == 0) = false := by simp; omega
  have hm1 : ¬ m < 1 := by omega
  have hm2 : ¬ 2305843009213693952 ≤ m := by omega
  go_enter Tryz.func290, Tryz.ntmps290
  go_wp2
  rw [HW.out]
  go_loopw [6, 17] (fun p i u => ∃ (k : Nat) (acc : Int), k ≤ 16 ∧ i = .int .i64 k ∧ p = .int .i64 acc ∧ Hid (numL m h k = acc) ∧ Hid (Below W.heap.size W u)) (fun _ i _ => 16 - (intOf i).toNat)
  case atStart => exact ⟨0, 0, by omega, rfl, rfl, Lib.hid rfl, Lib.hid (Below.refl _ _)⟩
  case round =>
    obtain ⟨k, acc, hk, rfl, rfl, HN, HBr⟩ := hrel
    have ha := numL_lo (m := m) (h := h) h1 k
    rw [HN.out] at ha
    obtain ⟨a0, a1⟩ := ha
    by_cases hlt : k < 16
    · have hc := (HR0.out.below HBr.out).cell (j := k) (by have := hh.out; omega)
      obtain ⟨c0, c1⟩ := bytesB_get hb.out k
      have hnx : numL m h (k + 1) = (acc * 256 + h.getD k 0) % m := by rw [numL, HN.out]
      obtain ⟨c, hcc⟩ : ∃ c, h.getD k 0 = c := ⟨_, rfl⟩
      rw [hcc] at hc c0 c1 hnx
      have HNX := Lib.hid hnx
      clear hcc hnx
      have dk : decide ((k : Int) < 16) = true := by simp; omega
      go_wp2
      go_loopw [6, 21] (fun p i u => ∃ (j : Nat) (a : Int), j ≤ 8 ∧ i = .int .i64 j ∧ p = .int .i64 a ∧ Hid (acc * 2 ^ j % m = a) ∧ 0 ≤ a ∧ a < m ∧ Hid (Below W.heap.size W u)) (fun _ i _ => 8 - (intOf i).toNat)
      case atStart => exact ⟨0, acc, by omega, rfl, rfl, Lib.hid (by rw [Int.pow_zero, Int.mul_one]; exact Int.emod_eq_of_lt a0 a1), a0, a1, HBr⟩
      case round =>
        obtain ⟨j, a, hj, rfl, rfl, HA, b0, b1, HBu⟩ := hrel
        by_cases hlj : j < 8
        · have HA2 := Lib.hid (dbl_step HA.out)
          have e0 : 0 ≤ (a + a) % m := Int.emod_nonneg _ (by omega)
          have e1 : (a + a) % m < m := Int.emod_lt_of_pos _ (by omega)
          obtain ⟨q, hq⟩ : ∃ q, (a + a) % m = q := ⟨_, rfl⟩
          rw [hq] at e0 e1 HA2
          have HQ := Lib.hid hq
          clear hq HA
          go_wp2_with fail
          refine (add_ok a a m h2 b0 b1 b0 b1 _).mono ?_
          rintro e w' ⟨rfl, rfl⟩
          rw [HQ.out]
          go_wp2
          go_roundw
          case rel => exact ⟨j + 1, q, by omega, by go_num, rfl, HA2, e0, e1, HBu⟩
          case measure => simp [intOf]; omega
        · have HA8 : Hid (acc * 2 ^ 8 % m = a) := Lib.hid (by have h := HA.out; rwa [show j = 8 by omega] at h)
          have HE : Hid ((a + c % m) % m = (acc * 256 + c) % m) := Lib.hid (num_step HA8.out)
          have f0 : 0 ≤ c % m := Int.emod_nonneg _ (by omega)
          have f1 : c % m < m := Int.emod_lt_of_pos _ (by omega)
          obtain ⟨cm, hcm⟩ : ∃ x, c % m = x := ⟨_, rfl⟩
          rw [hcm] at f0 f1 HE
          obtain ⟨q, hq⟩ : ∃ q, (a + cm) % m = q := ⟨_, rfl⟩
          have HN2 : Hid (numL m h (k + 1) = q) := Lib.hid (by rw [HNX.out, ← HE.out, hq])
          have HQ := Lib.hid hq
          clear hq HA HA8 HE HNX HN
          go_wp2_with fail
          refine (add_ok a cm m h2 b0 b1 f0 f1 _).mono ?_
          rintro e w' ⟨rfl, rfl⟩
          rw [HQ.out]
          go_wp2
          go_roundw
          case rel => exact ⟨k + 1, q, by omega, by go_num, rfl, HN2, HBu⟩
          case measure => simp [intOf]; omega
    · have HF : Hid (numv m h = acc) := Lib.hid (by have e := HN.out; rwa [show k = 16 by omega] at e)
      have hbf := below_ext HBX.out HBr.out
      clear HN
      go_wp2
      go_ret2
      exact ⟨by rw [HF.out]; rfl, hbf⟩
set_option maxHeartbeats 1600000 in
theorem rnumber_any (h : List Int) (hh : Hid (h.length = 32)) (hb : Hid (bytesB h = true)) (m : Int) (h1 : 1 ≤ m) (h2 : m < 2305843009213693952) (w : World) :
    Calls Tryz.prog 274 #[.agg (arr .u8 h), .int .i64 m] w fun e w' => e = .returned (.int .i64 (numv m h)) ∧ Below w.heap.size w w' := by
  obtain ⟨W, hW⟩ : ∃ W, w.alloc (.cells (arr .u8 h) 41) = W := ⟨_, rfl⟩
  have HBX : Hid (Below w.heap.size w W) := Lib.hid (by rw [← hW]; exact below_box0 _ _)
  have HR0 : Hid (Blk .u8 41 W w.heap.size h) := Lib.hid (by rw [← hW]; exact Blk.new _ _)
  have HW := Lib.hid hW
  clear hW
  have hm0 : ((m : Int) == 0) = false := by simp; omega
  go_enter Tryz.func274, Tryz.ntmps274
  go_wp2
  rw [HW.out]
  go_loopw [5, 6] (fun p i u => ∃ (k : Nat) (acc : Int), k ≤ 16 ∧ i = .int .i64 k ∧ p = .int .i64 acc ∧ Hid (numL m h k = acc) ∧ Hid (Below W.heap.size W u)) (fun _ i _ => 16 - (intOf i).toNat)
  case atStart => exact ⟨0, 0, by omega, rfl, rfl, Lib.hid rfl, Lib.hid (Below.refl _ _)⟩
  case round =>
    obtain ⟨k, acc, hk, rfl, rfl, HN, HBr⟩ := hrel
    have ha := numL_lo (m := m) (h := h) h1 k
    rw [HN.out] at ha
    obtain ⟨a0, a1⟩ := ha
    by_cases hlt : k < 16
    · have hc := (HR0.out.below HBr.out).cell (j := k) (by have := hh.out; omega)
      obtain ⟨c0, c1⟩ := bytesB_get hb.out k
      have hnx : numL m h (k + 1) = (acc * 256 + h.getD k 0) % m := by rw [numL, HN.out]
      obtain ⟨c, hcc⟩ : ∃ c, h.getD k 0 = c := ⟨_, rfl⟩
      rw [hcc] at hc c0 c1 hnx
      have HNX := Lib.hid hnx
      have f0 : 0 ≤ 256 % m := Int.emod_nonneg _ (by omega)
      have f1 : 256 % m < m := Int.emod_lt_of_pos _ (by omega)
      have hst := num_step2 (acc := acc) (m := m) (c := c)
      have ht : Int.tmod 256 m = 256 % m := Int.tmod_eq_emod_of_nonneg (by decide)
      have hw0 : IntKind.i64.wrap (256 % m) = 256 % m := IntWalk.i64_in _ (by omega)
      obtain ⟨d, hd⟩ : ∃ d, 256 % m = d := ⟨_, rfl⟩
      rw [hd] at f0 f1 hst ht hw0
      have g0 : 0 ≤ acc * d % m := Int.emod_nonneg _ (by omega)
      have g1 : acc * d % m < m := Int.emod_lt_of_pos _ (by omega)
      obtain ⟨p, hp⟩ : ∃ p, acc * d % m = p := ⟨_, rfl⟩
      rw [hp] at g0 g1 hst
      obtain ⟨q, hq⟩ : ∃ q, (p + c) % m = q := ⟨_, rfl⟩
      have HP := Lib.hid hp
      have HQ := Lib.hid hq
      have hw1 : IntKind.i64.wrap (p + c) = p + c := IntWalk.i64_in _ (by omega)
      have HN2 : Hid (numL m h (k + 1) = q) := Lib.hid (by rw [HNX.out, ← hst, hq])
      clear hst hp hq HNX HN hd
      go_wp2
      go_quiet ((first | (go_at_call 62; exact quiet_w (rmul_any acc d m p HP h2 a0 a1 f0 f1 _)) | (go_at_call 72; exact quiet_w (rreduce_any (p + c) m q HQ h1 h2 (by omega) (by omega) _))))
      have HB2 := Lib.hid (below_drawN HBr.out nq)
      clear hc
      go_wp2
      go_roundw
      case rel => exact ⟨k + 1, q, by omega, by go_num, rfl, HN2, HB2⟩
      case measure => simp [intOf]; omega
    · have HF : Hid (numv m h = acc) := Lib.hid (by have e := HN.out; rwa [show k = 16 by omega] at e)
      have hbf := below_ext HBX.out HBr.out
      clear HN
      go_wp2
      go_ret
      exact ⟨by rw [HF.out]; rfl, hbf⟩
def tcs (h : List Int) (c : Int) : Array Value := arr .u8 h ++ #[.int .i64 c]
theorem list32 : ∀ h : List Int, h.length = 32 → ∃ a0 a1 a2 a3 a4 a5 a6 a7 a8 a9 a10 a11 a12 a13 a14 a15 a16 a17 a18 a19 a20 a21 a22 a23 a24 a25 a26 a27 a28 a29 a30 a31, h = [a0, a1, a2, a3, a4, a5, a6, a7, a8, a9, a10, a11, a12, a13, a14, a15, a16, a17, a18, a19, a20, a21, a22, a23, a24, a25, a26, a27, a28, a29, a30, a31]
  | [a0, a1, a2, a3, a4, a5, a6, a7, a8, a9, a10, a11, a12, a13, a14, a15, a16, a17, a18, a19, a20, a21, a22, a23, a24, a25, a26, a27, a28, a29, a30, a31], _ => ⟨a0, a1, a2, a3, a4, a5, a6, a7, a8, a9, a10, a11, a12, a13, a14, a15, a16, a17, a18, a19, a20, a21, a22, a23, a24, a25, a26, a27, a28, a29, a30, a31, rfl⟩
theorem built0 : Tryz.prog.built 204 [] = some (tcs (zer 32) 0) := by kernel_rfl
theorem built1 (h : List Int) (hl : h.length = 32) : Tryz.prog.built 204 [(0, .agg (arr .u8 h))] = some (tcs h 0) := by
  obtain ⟨a0, a1, a2, a3, a4, a5, a6, a7, a8, a9, a10, a11, a12, a13, a14, a15, a16, a17, a18, a19, a20, a21, a22, a23, a24, a25, a26, a27, a28, a29, a30, a31, rfl⟩ := list32 h hl
  kernel_rfl
theorem built2 (h : List Int) (hl : h.length = 32) (c : Int) : Tryz.prog.built 204 [(0, .agg (arr .u8 h)), (1, .int .i64 c)] = some (tcs h c) := by
  obtain ⟨a0, a1, a2, a3, a4, a5, a6, a7, a8, a9, a10, a11, a12, a13, a14, a15, a16, a17, a18, a19, a20, a21, a22, a23, a24, a25, a26, a27, a28, a29, a30, a31, rfl⟩ := list32 h hl
  kernel_rfl
theorem wpList_built {P : Program} {ops : Array Oper} {rest : List Oper} {o : Oper} {a : Act} {w : World} {Q : Exit → Act → World → Prop} (hg : o.guard = none) (t : TypeId) (l : List (Nat × Operand)) (ho : o.op = .build t l.toArray) (cells : Array Value)
    (hf : P.built t (l.map fun x => (x.1, a.eval x.2)) = some cells) (h : wpList P ops Q rest (a.put o.dst (.agg cells)) w) : wpList P ops Q (o :: rest) a w := by
  have e : (l.toArray.map fun (x : Nat × Operand) => (x.1, a.eval x.2)).toList = l.map fun x => (x.1, a.eval x.2) := by simp
  refine wpList_build hg t l.toArray ho ?_ ?_
  · show (P.built t (l.toArray.map fun (x : Nat × Operand) => (x.1, a.eval x.2)).toList).isSome = true
    rw [e, hf]; rfl
  · show wpList P ops Q rest (a.put o.dst (.agg ((P.built t (l.toArray.map fun (x : Nat × Operand) => (x.1, a.eval x.2)).toList).getD #[]))) w
    rw [e, hf]; exact h
theorem tcs_size {h : List Int} {c : Int} (hl : h.length = 32) : (tcs h c).size = 33 := by simp [tcs, arr_size, hl]
theorem infoT : (Tryz.prog.info? 204).map (·.size) = some 33 := by kernel_rfl
theorem tr_info {h : List Int} {c : Int} (hl : h.length = 32) : (Tryz.prog.info? 204).map (·.size) = some (tcs h c).size := infoT.trans (congrArg some (tcs_size hl).symm)
theorem tcs_one (h : List Int) (c : Int) : (tcs h c).all (·.oneCell') = true := by simp [tcs, arr, Value.oneCell']
theorem ztr : (#[.int .u8 0, .int .u8 0, .int .u8 0, .int .u8 0, .int .u8 0, .int .u8 0, .int .u8 0, .int .u8 0, .int .u8 0, .int .u8 0, .int .u8 0, .int .u8 0, .int .u8 0, .int .u8 0, .int .u8 0, .int .u8 0, .int .u8 0, .int .u8 0, .int .u8 0, .int .u8 0, .int .u8 0, .int .u8 0, .int .u8 0, .int .u8 0, .int .u8 0, .int .u8 0, .int .u8 0, .int .u8 0, .int .u8 0, .int .u8 0, .int .u8 0, .int .u8 0, .int .i64 0] : Array Value) = tcs (zer 32) 0 := rfl
theorem tcs_sz {h h' : List Int} {c c' : Int} (hl : h.length = 32) (hl' : h'.length = 32) : (tcs h c).size = (tcs h' c').size := by rw [tcs_size hl, tcs_size hl']
def TBlk (w : World) (b : Nat) (h : List Int) (c : Int) : Prop := w.heap[b]? = some (.cells (tcs h c) 204 (0, 0))
theorem TBlk.below {w w' : World} {b : Nat} {h : List Int} {c : Int} (hh : TBlk w b h c) (hb : Below w.heap.size w w') : TBlk w' b h c := (hb.block b (Array.getElem?_eq_some_iff.1 hh).1).trans hh
theorem TBlk.new (w : World) (h : List Int) (c : Int) : TBlk (w.alloc (.cells (tcs h c) 204)) w.heap.size h c := heap_alloc_new _ _
theorem TBlk.lt {w : World} {b : Nat} {h : List Int} {c : Int} (hh : TBlk w b h c) : b < w.heap.size := (Array.getElem?_eq_some_iff.1 hh).1
theorem TBlk.setRow {w : World} {b : Nat} {h h' : List Int} {c c' : Int} (hh : TBlk w b h c) : TBlk (w.setRow b (tcs h' c')) b h' c' := setRow_heap w b _ _ _ _ hh
theorem TBlk.count {w : World} {b : Nat} {h : List Int} {c : Int} (hh : TBlk w b h c) (hl : h.length = 32) : w.cell? ⟨b, 32, none⟩ = some (.int .i64 c) := by
  rw [cell_blk hh, tcs, Array.getElem?_append_right (by rw [arr_size, hl]; exact Nat.le_refl _), arr_size, hl]
  rfl
theorem TBlk.sk {w : World} {b : Nat} {h : List Int} {c : Int} (hh : TBlk w b h c) : Sk .u8 w (some ⟨b, 0, none⟩) h := fun j hj => ⟨b, 0, rfl, by
  rw [Nat.zero_add, cell_blk hh, tcs, Array.getElem?_append_left (by rw [arr_size]; exact hj)]
  exact arr_get hj⟩
theorem tvalid_any (h : List Int) (hl : Hid (h.length = 32)) (c : Int) (h0 : 0 ≤ c) (h1 : c ≤ 1000) (w : World) :
    Calls Tryz.prog 288 #[.agg (tcs h c)] w fun e w' => e = .returned (.bool true) ∧ Below w.heap.size w w' := by
  have hc := (TBlk.new w h c).count hl.out
  have d1 : decide ((0 : Int) ≤ c) = true := by simp [h0]
  have d2 : decide (c ≤ 1000) = true := by simp [h1]
  go_enter Tryz.func288, Tryz.ntmps288
  go_wp2
  go_ret
  exact ⟨rfl, below_box0 _ _⟩
theorem rtvalid_any (h : List Int) (hl : Hid (h.length = 32)) (c : Int) (h0 : 0 ≤ c) (h1 : c ≤ 1000) (w : World) :
    Calls Tryz.prog 273 #[.agg (tcs h c)] w fun e w' => e = .returned (.bool true) ∧ Below w.heap.size w w' := by
  have hc := (TBlk.new w h c).count hl.out
  have d1 : decide ((0 : Int) ≤ c) = true := by simp [h0]
  have d2 : decide (c ≤ 1000) = true := by simp [h1]
  go_enter Tryz.func273, Tryz.ntmps273
  go_wp2
  go_ret
  exact ⟨rfl, below_box0 _ _⟩
def tagT : ByteArray := ⟨#[115, 112, 101, 99, 105, 101, 47, 116, 114, 97, 110, 115, 99, 114, 105, 112, 116]⟩
def TrE (h : List Int) (c e : Int) : Value := .tuple #[.agg (tcs h c), .int .i64 e]
def newL (l : List Int) : List Int := tagged (bys tagT) l
set_option maxHeartbeats 1600000 in
theorem tnew_bad (s : ByteArray) (hs : s.size ≤ 1000) (hr : Hid (labB (bys s) = false)) (w : World) :
    Calls Tryz.prog 178 #[.string s] w fun e w' => e = .returned (TrE (zer 32) 0 1) ∧ Below w.heap.size w w' := by
  obtain ⟨W, hW⟩ : ∃ W, w.alloc (.cells #[.int .u8 0, .int .u8 0, .int .u8 0, .int .u8 0, .int .u8 0, .int .u8 0, .int .u8 0, .int .u8 0, .int .u8 0, .int .u8 0, .int .u8 0, .int .u8 0, .int .u8 0, .int .u8 0, .int .u8 0, .int .u8 0, .int .u8 0, .int .u8 0, .int .u8 0, .int .u8 0, .int .u8 0, .int .u8 0, .int .u8 0, .int .u8 0, .int .u8 0, .int .u8 0, .int .u8 0, .int .u8 0, .int .u8 0, .int .u8 0, .int .u8 0, .int .u8 0, .int .i64 0] 204) = W := ⟨_, rfl⟩
  have HBX : Hid (Below w.heap.size w W) := Lib.hid (by rw [← hW]; exact below_box0 _ _)
  have HT0 : Hid (TBlk W w.heap.size (zer 32) 0) := Lib.hid (by rw [← hW, ztr]; exact TBlk.new _ _ _)
  have HW := Lib.hid hW
  clear hW
  go_enter Tryz.func178, Tryz.ntmps178
  go_wp2_with fail
  rw [HW.out]
  refine (tlabel_any s hs false hr _).mono ?_
  rintro e w1 ⟨rfl, hb1⟩
  have HT1 := Lib.hid (HT0.out.below hb1)
  have HB1 := Lib.hid (below_ext HBX.out hb1)
  clear hb1
  go_wp2_with (first
    | ((with_reducible show wpList _ _ _ (⟨some 9, _, _, _, _, _⟩ :: _) _ _); refine wpList_built rfl 204 _ rfl _ built0 ?_)
    | ((with_reducible show wpList _ _ _ (⟨none, _, _, _, _, _⟩ :: _) _ _); refine wpList_store_row rfl 204 _ _ rfl w.heap.size (tcs (zer 32) 0) rfl rfl _ _ HT1.out (tr_info rfl) rfl (tcs_one _ _) ?_))
  have HRR : Hid (TBlk (w1.setRow w.heap.size (tcs (zer 32) 0)) w.heap.size (zer 32) 0) := Lib.hid HT1.out.setRow
  have HBF : Below w.heap.size w (w1.setRow w.heap.size (tcs (zer 32) 0)) := below_setRow' HB1.out (Nat.le_refl _)
  exact bodyPost_ret (v := TrE (zer 32) 0 1) (results_cell_tmp2 (p := 2) (q := 3) (ty := 204) rfl _ _ ⟨w.heap.size, 0, none⟩ _ _ rfl rfl (run_loadVar_row _ _ _ _ _ _ _ HRR.out Tryz.underlying204 rfl (tr_info rfl))) rfl ⟨rfl, HBF⟩
set_option maxHeartbeats 1600000 in
theorem tnew_ok (s : ByteArray) (hs : s.size ≤ 1000) (hr : Hid (labB (bys s) = true)) (w : World) (hv : Hid (VarsD w)) :
    Calls Tryz.prog 178 #[.string s] w fun e w' => e = .returned (TrE (newL (bys s)) 0 0) ∧ Below w.heap.size w w' := by
  have hs0 : 1 ≤ s.size := by
    have h := hr.out
    rw [labB, bys_len] at h
    simp at h
    exact h.1.1
  obtain ⟨W, hW⟩ : ∃ W, w.alloc (.cells #[.int .u8 0, .int .u8 0, .int .u8 0, .int .u8 0, .int .u8 0, .int .u8 0, .int .u8 0, .int .u8 0, .int .u8 0, .int .u8 0, .int .u8 0, .int .u8 0, .int .u8 0, .int .u8 0, .int .u8 0, .int .u8 0, .int .u8 0, .int .u8 0, .int .u8 0, .int .u8 0, .int .u8 0, .int .u8 0, .int .u8 0, .int .u8 0, .int .u8 0, .int .u8 0, .int .u8 0, .int .u8 0, .int .u8 0, .int .u8 0, .int .u8 0, .int .u8 0, .int .i64 0] 204) = W := ⟨_, rfl⟩
  have HBX : Hid (Below w.heap.size w W) := Lib.hid (by rw [← hW]; exact below_box0 _ _)
  have HT0 : Hid (TBlk W w.heap.size (zer 32) 0) := Lib.hid (by rw [← hW, ztr]; exact TBlk.new _ _ _)
  have HV := Lib.hid (hv.out.below HBX.out)
  have HW := Lib.hid hW
  have hcv := fun w => run_bytes_of_string (P := Tryz.prog) w 9 145 5 s Tryz.underlying9 Tryz.underlying145 Tryz.underlying5
  clear hW hv
  go_enter Tryz.func178, Tryz.ntmps178
  go_wp2_with fail
  rw [HW.out]
  refine (tlabel_any s hs true hr _).mono ?_
  rintro e w1 ⟨rfl, hb1⟩
  have HT1 := Lib.hid (HT0.out.below hb1)
  have HB1 := Lib.hid (below_ext HBX.out hb1)
  have HV1 := Lib.hid (HV.out.below hb1)
  clear hb1 HW
  go_wp2_with fail
  clear hcv
  obtain ⟨Wc, hWc⟩ : ∃ u, (w1.alloc (.cells (bytesRow s (grownCap w1 s.size 0 5)) 5 ((bytesRow s (grownCap w1 s.size 0 5)).size, (bytesRow s (grownCap w1 s.size 0 5)).size + 1))).drew = u := ⟨_, rfl⟩
  have HBc : Hid (Below w1.heap.size w1 Wc) := Lib.hid (by rw [← hWc]; exact (below_box0 _ _).drew)
  have HSc : Hid (Sk .u8 Wc (some ⟨w1.heap.size, 0, none⟩) (bys s)) := Lib.hid (by
    rw [← hWc]
    exact bys_sk (heap_alloc_new w1 _))
  obtain ⟨gc, hgc⟩ : ∃ g, grownCap w1 s.size 0 5 = g := ⟨_, rfl⟩
  rw [hWc, hgc]
  clear hWc hgc
  refine (tagged_any tagT (by decide) (by decide) w1.heap.size 0 gc (bys s) s.size (Lib.hid (bys_len s)) hs0 (by omega) (Lib.hid (bys_bytes s)) _ HSc (Lib.hid (HV1.out.below HBc.out))).mono ?_
  rintro e w2 ⟨rfl, hb2⟩
  have HT2 := Lib.hid ((HT1.out.below HBc.out).below hb2)
  have HB2 := Lib.hid (below_ext (below_ext HB1.out HBc.out) hb2)
  obtain ⟨R, hR⟩ : ∃ R, tagged (bys tagT) (bys s) = R := ⟨_, rfl⟩
  have hRl : R.length = 32 := by rw [← hR]; exact tagged_len _ _
  have HN : Kp (newL (bys s) = R) := ⟨hR⟩
  have HRL := Lib.hid hRl
  rw [hR, show HashOk R = .tuple #[.agg (arr .u8 R), .int .i64 0] from rfl]
  clear hb2 HSc HBc HT1 HB1 HV1 hR hRl
  go_upto_region 4 with ((with_reducible show wpList _ _ _ (⟨none, _, _, _, _, _⟩ :: _) _ _); refine wpList_store_row rfl 41 _ _ rfl w2.heap.size (arr .u8 R) rfl rfl _ _ (heap_alloc_new _ _) (hash_info HRL.out) (arrs_sz (l := zer 32) rfl HRL.out) (arr_one _) ?_)
  rw [World.setRow_alloc_new]
  try simp only [Act.put]
  have HH3 : Hid (Blk .u8 41 (w2.alloc (.cells (arr .u8 R) 41)) w2.heap.size R) := Lib.hid (Blk.new _ _)
  have HT3 := Lib.hid (HT2.out.below (below_box0 w2 (.cells (arr .u8 R) 41)))
  have HB3 := Lib.hid (below_ext HB2.out (below_box0 w2 (.cells (arr .u8 R) 41)))
  obtain ⟨W3, hW3⟩ : ∃ u, w2.alloc (.cells (arr .u8 R) 41) = u := ⟨_, rfl⟩
  rw [hW3] at HH3 HT3 HB3 ⊢
  clear hW3
  go_wp2_with (first
    | ((with_reducible show wpList _ _ _ (⟨some 16, _, _, _, _, _⟩ :: _) _ _); refine wpList_load_row rfl 41 _ rfl w2.heap.size rfl _ _ _ _ HH3.out Tryz.underlying41 rfl (hash_info HRL.out) ?_)
    | ((with_reducible show wpList _ _ _ (⟨some 17, _, _, _, _, _⟩ :: _) _ _); refine wpList_built rfl 204 _ rfl _ (built1 R HRL.out) ?_)
    | ((with_reducible show wpList _ _ _ (⟨none, _, _, _, _, _⟩ :: _) _ _); refine wpList_store_row rfl 204 _ _ rfl w.heap.size (tcs R 0) rfl rfl _ _ HT3.out (tr_info HRL.out) (tcs_sz rfl HRL.out) (tcs_one _ _) ?_))
  have HRR : Hid (TBlk (W3.setRow w.heap.size (tcs R 0)) w.heap.size R 0) := Lib.hid HT3.out.setRow
  have HBF : Below w.heap.size w (W3.setRow w.heap.size (tcs R 0)) := below_setRow' HB3.out (Nat.le_refl _)
  exact bodyPost_ret (v := TrE R 0 0) (results_cell_tmp2 (p := 2) (q := 3) (ty := 204) rfl _ _ ⟨w.heap.size, 0, none⟩ _ _ rfl rfl (run_loadVar_row _ _ _ _ _ _ _ HRR.out Tryz.underlying204 rfl (tr_info HRL.out))) rfl ⟨by rw [HN.out], HBF⟩
set_option maxHeartbeats 1600000 in
theorem rtnew_ok (s : ByteArray) (hs : s.size ≤ 1000) (hs0 : 1 ≤ s.size) (w : World) :
    Calls Tryz.prog 214 #[.string s] w fun e w' => e = .returned (.agg (tcs (newL (bys s)) 0)) ∧ Below w.heap.size w w' := by
  obtain ⟨W, hW⟩ : ∃ W, w.alloc (.cells #[.int .u8 0, .int .u8 0, .int .u8 0, .int .u8 0, .int .u8 0, .int .u8 0, .int .u8 0, .int .u8 0, .int .u8 0, .int .u8 0, .int .u8 0, .int .u8 0, .int .u8 0, .int .u8 0, .int .u8 0, .int .u8 0, .int .u8 0, .int .u8 0, .int .u8 0, .int .u8 0, .int .u8 0, .int .u8 0, .int .u8 0, .int .u8 0, .int .u8 0, .int .u8 0, .int .u8 0, .int .u8 0, .int .u8 0, .int .u8 0, .int .u8 0, .int .u8 0, .int .i64 0] 204) = W := ⟨_, rfl⟩
  have HBX : Hid (Below w.heap.size w W) := Lib.hid (by rw [← hW]; exact below_box0 _ _)
  have HT0 : Hid (TBlk W w.heap.size (zer 32) 0) := Lib.hid (by rw [← hW, ztr]; exact TBlk.new _ _ _)
  have HSZ : Hid (W.heap.size = w.heap.size + 1) := Lib.hid (by rw [← hW]; simp)
  have HW := Lib.hid hW
  have hcv := fun w => run_bytes_of_string (P := Tryz.prog) w 9 145 5 s Tryz.underlying9 Tryz.underlying145 Tryz.underlying5
  clear hW
  go_enter Tryz.func214, Tryz.ntmps214
  go_wp2_with fail
  rw [HW.out]
  clear hcv HW
  obtain ⟨Wc, hWc⟩ : ∃ u, (W.alloc (.cells (bytesRow s (grownCap W s.size 0 5)) 5 ((bytesRow s (grownCap W s.size 0 5)).size, (bytesRow s (grownCap W s.size 0 5)).size + 1))).drew = u := ⟨_, rfl⟩
  have HBc : Hid (Below W.heap.size W Wc) := Lib.hid (by rw [← hWc]; exact (below_box0 _ _).drew)
  have HSc : Hid (Sk .u8 Wc (some ⟨w.heap.size + 1, 0, none⟩) (bys s)) := Lib.hid (by
    rw [← hWc, ← HSZ.out]
    exact bys_sk (heap_alloc_new W _))
  obtain ⟨gc, hgc⟩ : ∃ g, grownCap W s.size 0 5 = g := ⟨_, rfl⟩
  rw [hWc, hgc]
  clear hWc hgc
  refine (rtagged_any tagT (by decide) (by decide) (w.heap.size + 1) 0 gc (bys s) s.size (Lib.hid (bys_len s)) hs0 (by omega) (Lib.hid (bys_bytes s)) _ HSc).mono ?_
  rintro e w2 ⟨rfl, hb2⟩
  have HT2 := Lib.hid ((HT0.out.below HBc.out).below hb2)
  have HB2 := Lib.hid (below_ext (below_ext HBX.out HBc.out) hb2)
  obtain ⟨R, hR⟩ : ∃ R, tagged (bys tagT) (bys s) = R := ⟨_, rfl⟩
  have hRl : R.length = 32 := by rw [← hR]; exact tagged_len _ _
  have HN : Kp (newL (bys s) = R) := ⟨hR⟩
  have HRL := Lib.hid hRl
  rw [hR]
  clear hb2 HSc HBc hR hRl
  go_wp2_with (first
    | ((with_reducible show wpList _ _ _ (⟨some 6, _, _, _, _, _⟩ :: _) _ _); refine wpList_built rfl 204 _ rfl _ (built1 R HRL.out) ?_)
    | ((with_reducible show wpList _ _ _ (⟨none, _, _, _, _, _⟩ :: _) _ _); refine wpList_store_row rfl 204 _ _ rfl w.heap.size (tcs R 0) rfl rfl _ _ HT2.out (tr_info HRL.out) (tcs_sz rfl HRL.out) (tcs_one _ _) ?_))
  have HRR : Hid (TBlk (w2.setRow w.heap.size (tcs R 0)) w.heap.size R 0) := Lib.hid HT2.out.setRow
  have HBF : Below w.heap.size w (w2.setRow w.heap.size (tcs R 0)) := below_setRow' HB2.out (Nat.le_refl _)
  exact bodyPost_ret (v := .agg (tcs R 0)) (results_cell1 (p := 2) (ty := 204) rfl _ _ ⟨w.heap.size, 0, none⟩ _ rfl (run_loadVar_row _ _ _ _ _ _ _ HRR.out Tryz.underlying204 rfl (tr_info HRL.out))) rfl ⟨by rw [HN.out], HBF⟩
theorem itr_list {w : World} {base : Nat} {v : Value} {cs : List Ic} {l : List It} {n : Nat} (h : OwnI w base v cs) (hc : cs.length = n) (hl : l.length = n) (hpos : 0 < n) (hr : ∀ k, k < n → ItR w (l.getD k default) (cs.getD k default)) :
    ∃ g cap, v = .slice (some ⟨g, 0, none⟩) n cap ∧ ItR w (.lst l) ⟨3, 0, none, 0, 0, some ⟨g, 0, none⟩, n, cap⟩ := by
  obtain ⟨g, cap, e, _, _, hf⟩ := h.four (by omega)
  rw [hc] at e hf
  exact ⟨g, cap, e, .lst l _ rfl rfl rfl hl.symm (fun k => cs.getD k default) (fun k hk => ⟨g, 0, rfl, hf k (by omega)⟩) (fun k hk => hr k (by omega))⟩
def icByt (A : Option Addr) (n c : Nat) : Ic := ⟨2, 0, A, n, c, none, 0, 0⟩
theorem itr_byt {w : World} {A : Option Addr} {n c : Nat} {b : List Int} (h : Sk .u8 w A b) (hn : b.length = n) : ItR w (.byt b) (icByt A n c) := .byt b _ rfl rfl hn.symm rfl h
theorem ownI_two (w : World) (a b : Ic) : OwnI (w.alloc (.cells #[.int .i64 a.kind, .int .i64 a.n, .slice a.B a.nb a.cb, .slice a.L a.nl a.cl, .int .i64 b.kind, .int .i64 b.n, .slice b.B b.nb b.cb, .slice b.L b.nl b.cl] 148)) w.heap.size (.slice (some ⟨w.heap.size, 0, none⟩) 2 2) [a, b] :=
  ⟨rfl, Or.inr ⟨w.heap.size, 2, _, rfl, Nat.le_refl _, heap_alloc_new _ _, Nat.le_refl _, by decide, rfl, rfl⟩⟩
theorem four_news {w : World} {b : Nat} {c : Ic} (h : Four w b 0 c) (j : Nat) (u : Value) (hj : (itemCells c)[j]? = some u) : w.cell? ((⟨b, 0, none⟩ : Addr).add j) = some u := by
  obtain ⟨h0, h1, h2, h3⟩ := h
  match j, hj with
  | 0, e => simp [itemCells] at e; subst e; exact h0
  | 1, e => simp [itemCells] at e; subst e; exact h1
  | 2, e => simp [itemCells] at e; subst e; exact h2
  | 3, e => simp [itemCells] at e; subst e; exact h3
  | j + 4, e => simp [itemCells] at e
theorem itemCells_one (c : Ic) : ∀ u ∈ itemCells c, u.oneCell' = true := by
  intro u hu
  simp [itemCells] at hu
  rcases hu with rfl | rfl | rfl | rfl <;> rfl
theorem sk_old {K : IntKind} {w w' : World} {B b : Nat} {l : List Int} (h : Sk K w (some ⟨b, 0, none⟩) l) (hb : Below B w w') (hl : b < B) : Sk K w' (some ⟨b, 0, none⟩) l := by
  intro j hj
  obtain ⟨b1, o, e, hc⟩ := h j hj
  injection e with e
  injection e with e1 e2 e3
  subst e1
  subst e2
  exact ⟨b, 0, rfl, (hb.cell (p := ⟨b, 0 + j, none⟩) hl).trans hc⟩
set_option maxHeartbeats 3200000 in
theorem hash0_any (tg : ByteArray) (ht1 : 1 ≤ tg.size) (ht2 : tg.size ≤ 100) (h : List Int) (hl : Hid (h.length = 32)) (hb : Hid (bytesB h = true)) (c : Int) (s : ByteArray) (hs0 : 1 ≤ s.size) (hs : s.size ≤ 1000) (w : World) (hv : Hid (VarsD w)) :
    Calls Tryz.prog 289 #[.string tg, .agg (tcs h c), .string s, .slice none 0 0] w fun e w' => e = .returned (HashOk (tagged (bys tg) (enc (.lst [.byt h, .byt (bys s)])))) ∧ Below w.heap.size w w' := by
  obtain ⟨i0, hi, hz0, hz1, hz2⟩ := info_parts itemInfo
  obtain ⟨RR, hRR⟩ : ∃ R, tagged (bys tg) (enc (.lst [.byt h, .byt (bys s)])) = R := ⟨_, rfl⟩
  rw [hRR]
  have HRR0 : Kp (tagged (bys tg) (enc (.lst [.byt h, .byt (bys s)])) = RR) := ⟨hRR⟩
  clear hRR
  obtain ⟨W, hW⟩ : ∃ W, (w.alloc (.cells (tcs h c) 204)).alloc (.cells #[.int .u8 0, .int .u8 0, .int .u8 0, .int .u8 0, .int .u8 0, .int .u8 0, .int .u8 0, .int .u8 0, .int .u8 0, .int .u8 0, .int .u8 0, .int .u8 0, .int .u8 0, .int .u8 0, .int .u8 0, .int .u8 0, .int .u8 0, .int .u8 0, .int .u8 0, .int .u8 0, .int .u8 0, .int .u8 0, .int .u8 0, .int .u8 0, .int .u8 0, .int .u8 0, .int .u8 0, .int .u8 0, .int .u8 0, .int .u8 0, .int .u8 0, .int .u8 0] 41) = W := ⟨_, rfl⟩
  have HBX : Hid (Below w.heap.size w W) := Lib.hid (by rw [← hW]; exact below_two (Below.refl _ _))
  have HT0 : Hid (TBlk W w.heap.size h c) := Lib.hid (by rw [← hW]; exact heap_alloc2_old _ _ _)
  have HR0 : Hid (Blk .u8 41 W (w.heap.size + 1) (zer 32)) := Lib.hid (by rw [← hW, zarrh]; exact heap_alloc2_new _ _ _)
  have HSZ : Hid (W.heap.size = w.heap.size + 2) := Lib.hid (by rw [← hW]; simp)
  have HV := Lib.hid (hv.out.below HBX.out)
  have HW := Lib.hid hW
  have hcv := fun w => run_bytes_of_string (P := Tryz.prog) w 9 145 5 s Tryz.underlying9 Tryz.underlying145 Tryz.underlying5
  clear hW hv
  go_enter Tryz.func289, Tryz.ntmps289
  go_upto_region 1 with (fail)
  rw [HW.out]
  go_upto_region 2 with (fail)
  clear hcv HW
  obtain ⟨gc, hgc⟩ : ∃ g, grownCap W s.size 0 5 = g := ⟨_, rfl⟩
  rw [hgc]
  obtain ⟨Wc, hWc⟩ : ∃ u, W.alloc (.cells (bytesRow s gc) 5 ((bytesRow s gc).size, (bytesRow s gc).size + 1)) = u := ⟨_, rfl⟩
  rw [hWc]
  have HBc : Hid (Below W.heap.size W Wc) := Lib.hid (by rw [← hWc]; exact below_box0 _ _)
  have HSc : Hid (Sk .u8 Wc (some ⟨W.heap.size, 0, none⟩) (bys s)) := Lib.hid (by rw [← hWc]; exact bys_sk (heap_alloc_new W _))
  have HCZ : Hid (Wc.heap.size = W.heap.size + 1) := Lib.hid (by rw [← hWc]; simp)
  obtain ⟨W2, hW2⟩ : ∃ u, (Wc.alloc (.cells #[.int .i64 2, .int .i64 0, .slice (some ⟨w.heap.size, 0, none⟩) 32 32, .slice none 0 0, .int .i64 2, .int .i64 0, .slice (some ⟨W.heap.size, 0, none⟩) s.size gc, .slice none 0 0] 148)).drew = u := ⟨_, rfl⟩
  have HO2 : Hid (OwnI W2 Wc.heap.size (.slice (some ⟨W.heap.size + 1, 0, none⟩) 2 2) [icByt (some ⟨w.heap.size, 0, none⟩) 32 32, icByt (some ⟨W.heap.size, 0, none⟩) s.size gc]) := Lib.hid (by
    rw [← hW2]
    have h := (ownI_two Wc (icByt (some ⟨w.heap.size, 0, none⟩) 32 32) (icByt (some ⟨W.heap.size, 0, none⟩) s.size gc)).keep (Below.refl _ _).drew
    rw [HCZ.out] at h ⊢
    exact h)
  have HB2 : Hid (Below W.heap.size W W2) := Lib.hid (below_ext HBc.out (by rw [← hW2]; exact (below_box0 _ _).drew))
  have HS2 : Hid (Sk .u8 W2 (some ⟨W.heap.size, 0, none⟩) (bys s)) := Lib.hid (HSc.out.below (by rw [← hW2]; exact (below_box0 _ _).drew))
  have hzW : Wc.heap.size < W2.heap.size := by rw [← hW2]; simp
  rw [hW2]
  clear hW2 hWc hgc HSc HBc
  have hrow : W2.ownsRow Wc.heap.size 148 4 (.slice (some ⟨W.heap.size + 1, 0, none⟩) 2 2) 2 ([icByt (some ⟨w.heap.size, 0, none⟩) 32 32, icByt (some ⟨W.heap.size, 0, none⟩) s.size gc].flatMap itemCells) := HO2.out
  have HSZB := hs
  go_wp2_with (at_builtin; refine wpList_append_own_none rfl _ _ 146 rfl Wc.heap.size 148 i0 4 Tryz.underlying146 hi _ _ _ rfl hrow rfl ?_)
  have HIX : Hid (∃ g cap, (Value.slice (some ⟨W.heap.size + 1, 0, none⟩) 2 2) = .slice (some ⟨g, 0, none⟩) 2 cap ∧ ItR W2 (.lst [.byt h, .byt (bys s)]) ⟨3, 0, none, 0, 0, some ⟨g, 0, none⟩, 2, cap⟩) := Lib.hid (itr_list HO2.out rfl rfl (by decide) (fun k hk => by
    rcases (show k = 0 ∨ k = 1 by omega) with rfl | rfl
    · exact itr_byt (HT0.out.below HB2.out).sk hl.out
    · exact itr_byt HS2.out (bys_len s)))
  obtain ⟨g3, cap3, e3, hit⟩ := HIX.out
  simp only [Value.slice.injEq, Option.some.injEq, Addr.mk.injEq] at e3
  obtain ⟨⟨rfl, -⟩, -, rfl⟩ := e3
  have HIT := Lib.hid hit
  have HB3 := HB2
  have HFIT : Hid (fits 8 (.lst [.byt h, .byt (bys s)])) := Lib.hid (by
    refine ⟨by simp, fun x hx => ?_⟩
    rcases (by simpa using hx : x = .byt h ∨ x = .byt (bys s)) with rfl | rfl
    · exact ⟨⟨by rw [hl.out]; decide, by rw [hl.out]; decide⟩, hb.out⟩
    · exact ⟨⟨by rw [bys_len]; omega, by rw [bys_len]; omega⟩, bys_bytes s⟩)
  have HLEN : Hid ((enc (.lst [.byt h, .byt (bys s)])).length ≤ 16384) := Lib.hid (by
    rw [enc_lst]
    simp only [encL, enc_byt, List.length_cons, List.length_append, be4_len, hl.out, bys_len, List.length_nil]
    omega)
  clear hit HIX hrow
  rw [show (Value.agg #[.int .i64 3, .int .i64 0, .slice none 0 0, .slice (some ⟨W.heap.size + 1, 0, none⟩) 2 2]) = (Ic.mk 3 0 none 0 0 (some ⟨W.heap.size + 1, 0, none⟩) 2 2).val from rfl]
  refine (encode_any _ _ _ HFIT.out HIT.out HLEN.out).mono ?_
  rintro e w4 ⟨v4, rfl, ho4, hb4⟩
  obtain ⟨E, hE⟩ : ∃ E, enc (.lst [.byt h, .byt (bys s)]) = E := ⟨_, rfl⟩
  have HEB : Hid (bytesB E = true) := Lib.hid (by rw [← hE]; exact enc_bytes HFIT.out)
  have HEL : Hid (0 < E.length ∧ E.length ≤ 16384) := Lib.hid (by rw [← hE]; exact ⟨enc_pos _, HLEN.out⟩)
  rw [hE] at ho4
  obtain ⟨g4, cap4, e4, hg4, -, -, hsk4⟩ := ho4.cells HEL.out.1
  obtain ⟨n4, hn4⟩ : ∃ n, E.length = n := ⟨_, rfl⟩
  rw [hn4] at e4 HEL
  subst e4
  have HN4 := Lib.hid hn4
  have HS4 := Lib.hid hsk4
  have HB4 := Lib.hid (below_ext HB3.out hb4)
  have HEE : Kp (enc (.lst [.byt h, .byt (bys s)]) = E) := ⟨hE⟩
  clear hE hsk4 ho4 hb4 hn4 HIT HLEN HFIT
  obtain ⟨he0, he1⟩ := HEL.out
  go_wp2_with fail
  refine (tagged_any tg ht1 ht2 g4 0 cap4 E n4 HN4 he0 (by omega) HEB _ HS4 (Lib.hid (HV.out.below HB4.out))).mono ?_
  rintro e w5 ⟨rfl, hb5⟩
  have HB5 := Lib.hid (below_ext HB4.out hb5)
  obtain ⟨R, hR⟩ : ∃ R, tagged (bys tg) E = R := ⟨_, rfl⟩
  have HRL : Hid (R.length = 32) := Lib.hid (by rw [← hR]; exact tagged_len _ _)
  have hRe : RR = R := by rw [← HRR0.1, HEE.1, hR]
  subst hRe
  rw [hR, show HashOk RR = .tuple #[.agg (arr .u8 RR), .int .i64 0] from rfl]
  clear hb5 hR HS4 HB4
  have HR5 : Hid (Blk .u8 41 w5 (w.heap.size + 1) (zer 32)) := Lib.hid (HR0.out.below HB5.out)
  go_wp2_with ((with_reducible show wpList _ _ _ (⟨none, _, _, _, _, _⟩ :: _) _ _); refine wpList_store_row rfl 41 _ _ rfl (w.heap.size + 1) (arr .u8 RR) rfl rfl _ _ HR5.out (hash_info HRL.out) (arrs_sz (l := zer 32) rfl HRL.out) (arr_one _) ?_)
  have HRR : Hid (Blk .u8 41 (w5.setRow (w.heap.size + 1) (arr .u8 RR)) (w.heap.size + 1) RR) := Lib.hid HR5.out.setRow
  have HBF : Below w.heap.size w (w5.setRow (w.heap.size + 1) (arr .u8 RR)) := below_setRow' (below_ext HBX.out HB5.out) (Nat.le_succ _)
  exact bodyPost_ret (v := HashOk RR) (results_cell_tmp2 (p := 8) (q := 9) (ty := 41) rfl _ _ ⟨w.heap.size + 1, 0, none⟩ _ _ rfl rfl (run_loadVar_row _ _ _ _ _ _ _ HRR.out Tryz.underlying41 rfl (hash_info HRL.out))) rfl ⟨rfl, HBF⟩
set_option maxHeartbeats 3200000 in
theorem hash1_any (tg : ByteArray) (ht1 : 1 ≤ tg.size) (ht2 : tg.size ≤ 100) (h : List Int) (hl : Hid (h.length = 32)) (hb : Hid (bytesB h = true)) (c : Int) (s : ByteArray) (hs0 : 1 ≤ s.size) (hs : s.size ≤ 1000) (item : It) (cI : Ic) (gm cm : Nat) (w : World) (hv : Hid (VarsD w)) (hF : Hid (Four w gm 0 cI)) (hI : Hid (ItR w item cI)) (hfi : Hid (fits 7 item)) (hle : Hid ((enc item).length ≤ 14000)) :
    Calls Tryz.prog 289 #[.string tg, .agg (tcs h c), .string s, .slice (some ⟨gm, 0, none⟩) 1 cm] w fun e w' => e = .returned (HashOk (tagged (bys tg) (enc (.lst [.byt h, .byt (bys s), item])))) ∧ Below w.heap.size w w' := by
  obtain ⟨i0, hi, hz0, hz1, hz2⟩ := info_parts itemInfo
  obtain ⟨RR, hRR⟩ : ∃ R, tagged (bys tg) (enc (.lst [.byt h, .byt (bys s), item])) = R := ⟨_, rfl⟩
  rw [hRR]
  have HRR0 : Kp (tagged (bys tg) (enc (.lst [.byt h, .byt (bys s), item])) = RR) := ⟨hRR⟩
  clear hRR
  obtain ⟨W, hW⟩ : ∃ W, (w.alloc (.cells (tcs h c) 204)).alloc (.cells #[.int .u8 0, .int .u8 0, .int .u8 0, .int .u8 0, .int .u8 0, .int .u8 0, .int .u8 0, .int .u8 0, .int .u8 0, .int .u8 0, .int .u8 0, .int .u8 0, .int .u8 0, .int .u8 0, .int .u8 0, .int .u8 0, .int .u8 0, .int .u8 0, .int .u8 0, .int .u8 0, .int .u8 0, .int .u8 0, .int .u8 0, .int .u8 0, .int .u8 0, .int .u8 0, .int .u8 0, .int .u8 0, .int .u8 0, .int .u8 0, .int .u8 0, .int .u8 0] 41) = W := ⟨_, rfl⟩
  have HBX : Hid (Below w.heap.size w W) := Lib.hid (by rw [← hW]; exact below_two (Below.refl _ _))
  have HT0 : Hid (TBlk W w.heap.size h c) := Lib.hid (by rw [← hW]; exact heap_alloc2_old _ _ _)
  have HR0 : Hid (Blk .u8 41 W (w.heap.size + 1) (zer 32)) := Lib.hid (by rw [← hW, zarrh]; exact heap_alloc2_new _ _ _)
  have HSZ : Hid (W.heap.size = w.heap.size + 2) := Lib.hid (by rw [← hW]; simp)
  have HV := Lib.hid (hv.out.below HBX.out)
  have HW := Lib.hid hW
  have hcv := fun w => run_bytes_of_string (P := Tryz.prog) w 9 145 5 s Tryz.underlying9 Tryz.underlying145 Tryz.underlying5
  clear hW hv
  go_enter Tryz.func289, Tryz.ntmps289
  go_upto_region 1 with (fail)
  rw [HW.out]
  go_upto_region 2 with (fail)
  clear hcv HW
  obtain ⟨gc, hgc⟩ : ∃ g, grownCap W s.size 0 5 = g := ⟨_, rfl⟩
  rw [hgc]
  obtain ⟨Wc, hWc⟩ : ∃ u, W.alloc (.cells (bytesRow s gc) 5 ((bytesRow s gc).size, (bytesRow s gc).size + 1)) = u := ⟨_, rfl⟩
  rw [hWc]
  have HBc : Hid (Below W.heap.size W Wc) := Lib.hid (by rw [← hWc]; exact below_box0 _ _)
  have HSc : Hid (Sk .u8 Wc (some ⟨W.heap.size, 0, none⟩) (bys s)) := Lib.hid (by rw [← hWc]; exact bys_sk (heap_alloc_new W _))
  have HCZ : Hid (Wc.heap.size = W.heap.size + 1) := Lib.hid (by rw [← hWc]; simp)
  obtain ⟨W2, hW2⟩ : ∃ u, (Wc.alloc (.cells #[.int .i64 2, .int .i64 0, .slice (some ⟨w.heap.size, 0, none⟩) 32 32, .slice none 0 0, .int .i64 2, .int .i64 0, .slice (some ⟨W.heap.size, 0, none⟩) s.size gc, .slice none 0 0] 148)).drew = u := ⟨_, rfl⟩
  have HO2 : Hid (OwnI W2 Wc.heap.size (.slice (some ⟨W.heap.size + 1, 0, none⟩) 2 2) [icByt (some ⟨w.heap.size, 0, none⟩) 32 32, icByt (some ⟨W.heap.size, 0, none⟩) s.size gc]) := Lib.hid (by
    rw [← hW2]
    have h := (ownI_two Wc (icByt (some ⟨w.heap.size, 0, none⟩) 32 32) (icByt (some ⟨W.heap.size, 0, none⟩) s.size gc)).keep (Below.refl _ _).drew
    rw [HCZ.out] at h ⊢
    exact h)
  have HB2 : Hid (Below W.heap.size W W2) := Lib.hid (below_ext HBc.out (by rw [← hW2]; exact (below_box0 _ _).drew))
  have HS2 : Hid (Sk .u8 W2 (some ⟨W.heap.size, 0, none⟩) (bys s)) := Lib.hid (HSc.out.below (by rw [← hW2]; exact (below_box0 _ _).drew))
  have hzW : Wc.heap.size < W2.heap.size := by rw [← hW2]; simp
  rw [hW2]
  clear hW2 hWc hgc HSc HBc
  have hrow : W2.ownsRow Wc.heap.size 148 4 (.slice (some ⟨W.heap.size + 1, 0, none⟩) 2 2) 2 ([icByt (some ⟨w.heap.size, 0, none⟩) 32 32, icByt (some ⟨W.heap.size, 0, none⟩) s.size gc].flatMap itemCells) := HO2.out
  have HSZB := hs
  have HF2 : Hid (Four W2 gm 0 cI) := Lib.hid ((hF.out.below HBX.out).below HB2.out)
  have HI2 : Hid (ItR W2 item cI) := Lib.hid ((hI.out.kept HBX.out).kept HB2.out)
  have HBW : Wc.heap.size ≤ W2.heap.size := by omega
  have b1 : 2 + 1 ≤ maxLen := by unfold maxLen; omega
  have b2 : (2 + 1) * 64 ≤ 140737488355328 := by omega
  have HNW : ∀ (j : Nat) (u : Value), (itemCells cI)[j]? = some u → W2.cell? ((⟨gm, 0, none⟩ : Addr).add j) = some u := four_news HF2.out
  go_wp2_with (at_builtin; refine wpList_append_lies rfl _ _ 146 rfl Wc.heap.size 148 i0 (.agg #[.int .i64 0, .int .i64 0, .slice none 0 0, .slice none 0 0]) 4 64 Tryz.underlying146 hi hz0 hz1 hz2 rfl (by decide) _ _ _ rfl hrow ⟨gm, 0, none⟩ 1 cm (itemCells cI) rfl rfl HNW (itemCells_one cI) (by decide) b1 b2 HBW _ rfl ?_; intro g3 cap3 w3 hown3 hgrow3 hat3 hlt3)
  have HB3 : Hid (Below W.heap.size W w3) := Lib.hid (HB2.out.grown hgrow3 (by have := HCZ.out; omega) (fun j hj => by have := HCZ.out; have := (World.ownsRow.lt hrow j hj).1; omega))
  have HB23 : Hid (Below (W.heap.size + 1) W2 w3) := Lib.hid ((Below.refl _ _).grown hgrow3 (by have := HCZ.out; omega) (fun j hj => by have := HCZ.out; have := (World.ownsRow.lt hrow j hj).1; omega))
  have HO3 : Hid (OwnI w3 Wc.heap.size (.slice (some ⟨g3, 0, none⟩) 3 cap3) [icByt (some ⟨w.heap.size, 0, none⟩) 32 32, icByt (some ⟨W.heap.size, 0, none⟩) s.size gc, cI]) := Lib.hid hown3
  have HIX : Hid (∃ g cap, (Value.slice (some ⟨g3, 0, none⟩) 3 cap3) = .slice (some ⟨g, 0, none⟩) 3 cap ∧ ItR w3 (.lst [.byt h, .byt (bys s), item]) ⟨3, 0, none, 0, 0, some ⟨g, 0, none⟩, 3, cap⟩) := Lib.hid (itr_list HO3.out rfl rfl (by decide) (fun k hk => by
    rcases (show k = 0 ∨ k = 1 ∨ k = 2 by omega) with rfl | rfl | rfl
    · exact itr_byt (HT0.out.below HB3.out).sk hl.out
    · exact itr_byt (sk_old HS2.out HB23.out (by omega)) (bys_len s)
    · exact ((hI.out.kept HBX.out).kept HB3.out)))
  obtain ⟨g, cap, e3, hit⟩ := HIX.out
  simp only [Value.slice.injEq, Option.some.injEq, Addr.mk.injEq] at e3
  obtain ⟨⟨rfl, -⟩, -, rfl⟩ := e3
  have HIT := Lib.hid hit
  have HFIT : Hid (fits 8 (.lst [.byt h, .byt (bys s), item])) := Lib.hid (by
    refine ⟨by simp, fun x hx => ?_⟩
    rcases (by simpa using hx : x = .byt h ∨ x = .byt (bys s) ∨ x = item) with rfl | rfl | rfl
    · exact ⟨⟨by rw [hl.out]; decide, by rw [hl.out]; decide⟩, hb.out⟩
    · exact ⟨⟨by rw [bys_len]; omega, by rw [bys_len]; omega⟩, bys_bytes s⟩
    · exact hfi.out)
  have HLEN : Hid ((enc (.lst [.byt h, .byt (bys s), item])).length ≤ 16384) := Lib.hid (by
    have := hle.out
    rw [enc_lst]
    simp only [encL, enc_byt, List.length_cons, List.length_append, be4_len, hl.out, bys_len, List.length_nil]
    omega)
  clear hit HIX hrow HO3 hown3 hgrow3 hat3 hlt3 HNW HF2 HI2 HB23
  rw [show (Value.agg #[.int .i64 3, .int .i64 0, .slice none 0 0, .slice (some ⟨g3, 0, none⟩) 3 cap3]) = (Ic.mk 3 0 none 0 0 (some ⟨g3, 0, none⟩) 3 cap3).val from rfl]
  refine (encode_any _ _ _ HFIT.out HIT.out HLEN.out).mono ?_
  rintro e w4 ⟨v4, rfl, ho4, hb4⟩
  obtain ⟨E, hE⟩ : ∃ E, enc (.lst [.byt h, .byt (bys s), item]) = E := ⟨_, rfl⟩
  have HEB : Hid (bytesB E = true) := Lib.hid (by rw [← hE]; exact enc_bytes HFIT.out)
  have HEL : Hid (0 < E.length ∧ E.length ≤ 16384) := Lib.hid (by rw [← hE]; exact ⟨enc_pos _, HLEN.out⟩)
  rw [hE] at ho4
  obtain ⟨g4, cap4, e4, hg4, -, -, hsk4⟩ := ho4.cells HEL.out.1
  obtain ⟨n4, hn4⟩ : ∃ n, E.length = n := ⟨_, rfl⟩
  rw [hn4] at e4 HEL
  subst e4
  have HN4 := Lib.hid hn4
  have HS4 := Lib.hid hsk4
  have HB4 := Lib.hid (below_ext HB3.out hb4)
  have HEE : Kp (enc (.lst [.byt h, .byt (bys s), item]) = E) := ⟨hE⟩
  clear hE hsk4 ho4 hb4 hn4 HIT HLEN HFIT
  obtain ⟨he0, he1⟩ := HEL.out
  go_wp2_with fail
  refine (tagged_any tg ht1 ht2 g4 0 cap4 E n4 HN4 he0 (by omega) HEB _ HS4 (Lib.hid (HV.out.below HB4.out))).mono ?_
  rintro e w5 ⟨rfl, hb5⟩
  have HB5 := Lib.hid (below_ext HB4.out hb5)
  obtain ⟨R, hR⟩ : ∃ R, tagged (bys tg) E = R := ⟨_, rfl⟩
  have HRL : Hid (R.length = 32) := Lib.hid (by rw [← hR]; exact tagged_len _ _)
  have hRe : RR = R := by rw [← HRR0.1, HEE.1, hR]
  subst hRe
  rw [hR, show HashOk RR = .tuple #[.agg (arr .u8 RR), .int .i64 0] from rfl]
  clear hb5 hR HS4 HB4
  have HR5 : Hid (Blk .u8 41 w5 (w.heap.size + 1) (zer 32)) := Lib.hid (HR0.out.below HB5.out)
  go_wp2_with ((with_reducible show wpList _ _ _ (⟨none, _, _, _, _, _⟩ :: _) _ _); refine wpList_store_row rfl 41 _ _ rfl (w.heap.size + 1) (arr .u8 RR) rfl rfl _ _ HR5.out (hash_info HRL.out) (arrs_sz (l := zer 32) rfl HRL.out) (arr_one _) ?_)
  have HRR : Hid (Blk .u8 41 (w5.setRow (w.heap.size + 1) (arr .u8 RR)) (w.heap.size + 1) RR) := Lib.hid HR5.out.setRow
  have HBF : Below w.heap.size w (w5.setRow (w.heap.size + 1) (arr .u8 RR)) := below_setRow' (below_ext HBX.out HB5.out) (Nat.le_succ _)
  exact bodyPost_ret (v := HashOk RR) (results_cell_tmp2 (p := 8) (q := 9) (ty := 41) rfl _ _ ⟨w.heap.size + 1, 0, none⟩ _ _ rfl rfl (run_loadVar_row _ _ _ _ _ _ _ HRR.out Tryz.underlying41 rfl (hash_info HRL.out))) rfl ⟨rfl, HBF⟩
def tagAb : ByteArray := { data := #[115, 112, 101, 99, 105, 101, 47, 97, 98, 115, 111, 114, 98] }
def abL (h s : List Int) (i : It) : List Int := tagged (bys tagAb) (enc (.lst [.byt h, .byt s, i]))
theorem abL_len (h s : List Int) (i : It) : (abL h s i).length = 32 := tagged_len _ _
theorem four_cells {w : World} {b : Nat} {c : Ic} {t : TypeId} (h : w.heap[b]? = some (.cells #[.int .i64 c.kind, .int .i64 c.n, .slice c.B c.nb c.cb, .slice c.L c.nl c.cl] t)) : Four w b 0 c :=
  ⟨cell_blk h 0, cell_blk h 1, cell_blk h 2, cell_blk h 3⟩
set_option maxHeartbeats 3200000 in
theorem tabsorb_ok (h : List Int) (hl : Hid (h.length = 32)) (hb : Hid (bytesB h = true)) (c : Int) (hc0 : 0 ≤ c) (hc1 : c < 1000) (s : ByteArray) (hs : s.size ≤ 1000) (hr : Hid (labB (bys s) = true)) (item : It) (cI : Ic) (w : World) (hv : Hid (VarsD w)) (hI : Hid (ItR w item cI)) (hfi : Hid (fits 7 item)) (hle : Hid ((enc item).length ≤ 14000)) :
    Calls Tryz.prog 287 #[.agg (tcs h c), .string s, .agg #[.int .i64 cI.kind, .int .i64 cI.n, .slice cI.B cI.nb cI.cb, .slice cI.L cI.nl cI.cl]] w fun e w' => e = .returned (TrE (abL h (bys s) item) (c + 1) 0) ∧ Below w.heap.size w w' := by
  have hs0 : 1 ≤ s.size := by
    have h := hr.out
    rw [labB, bys_len] at h
    simp at h
    exact h.1.1
  obtain ⟨i0, hi, hz0, hz1, hz2⟩ := info_parts itemInfo
  obtain ⟨W, hW⟩ : ∃ W, ((w.alloc (.cells (tcs h c) 204)).alloc (.cells #[.int .i64 cI.kind, .int .i64 cI.n, .slice cI.B cI.nb cI.cb, .slice cI.L cI.nl cI.cl] 148)).alloc (.cells #[.int .u8 0, .int .u8 0, .int .u8 0, .int .u8 0, .int .u8 0, .int .u8 0, .int .u8 0, .int .u8 0, .int .u8 0, .int .u8 0, .int .u8 0, .int .u8 0, .int .u8 0, .int .u8 0, .int .u8 0, .int .u8 0, .int .u8 0, .int .u8 0, .int .u8 0, .int .u8 0, .int .u8 0, .int .u8 0, .int .u8 0, .int .u8 0, .int .u8 0, .int .u8 0, .int .u8 0, .int .u8 0, .int .u8 0, .int .u8 0, .int .u8 0, .int .u8 0, .int .i64 0] 204) = W := ⟨_, rfl⟩
  have HBX : Hid (Below w.heap.size w W) := Lib.hid (by rw [← hW]; exact below_ext (below_two (Below.refl _ _)) (below_box0 _ _))
  have HT0 : Hid (TBlk W w.heap.size h c) := Lib.hid (by rw [← hW]; exact ((TBlk.new _ _ _).below (below_box0 _ _)).below (below_box0 _ _))
  have HIB : Hid (W.heap[w.heap.size + 1]? = some (.cells #[.int .i64 cI.kind, .int .i64 cI.n, .slice cI.B cI.nb cI.cb, .slice cI.L cI.nl cI.cl] 148 (0, 0))) := Lib.hid (by rw [← hW, ← (show (w.alloc (.cells (tcs h c) 204)).heap.size = w.heap.size + 1 by simp)]; exact heap_alloc2_old _ _ _)
  have HR0 : Hid (TBlk W (w.heap.size + 1 + 1) (zer 32) 0) := Lib.hid (by rw [← hW, ztr, show w.heap.size + 1 + 1 = (w.alloc (.cells (tcs h c) 204)).heap.size + 1 by simp]; exact heap_alloc2_new _ _ _)
  have HSZ : Hid (W.heap.size = w.heap.size + 3) := Lib.hid (by rw [← hW]; simp)
  have HV := Lib.hid (hv.out.below HBX.out)
  have HII := Lib.hid (hI.out.kept HBX.out)
  have HW := Lib.hid hW
  clear hW hv
  go_enter Tryz.func287, Tryz.ntmps287
  go_upto_region 1 with (fail)
  rw [HW.out]
  clear HW
  go_wp2_with ((with_reducible show wpList _ _ _ (⟨some 10, _, _, _, _, _⟩ :: _) _ _); refine wpList_load_row rfl 204 _ rfl w.heap.size rfl _ _ _ _ HT0.out Tryz.underlying204 rfl (tr_info hl.out) ?_)
  refine (tvalid_any h hl c hc0 (by omega) _).mono ?_
  rintro e w1 ⟨rfl, hb1⟩
  have HB1 := Lib.hid (below_ext HBX.out hb1)
  have HT1 := Lib.hid (HT0.out.below hb1)
  have HI1 := Lib.hid (HII.out.kept hb1)
  have HV1 := Lib.hid (HV.out.below hb1)
  have HR1 := Lib.hid (HR0.out.below hb1)
  have HIB1 : Hid (Four w1 (w.heap.size + 1) 0 cI) := Lib.hid (four_cells ((hb1.block _ (by have := HSZ.out; omega)).trans HIB.out))
  clear hb1 HT0 HII HV HR0 HIB HBX
  go_wp2_with fail
  refine (tlabel_any s hs true hr _).mono ?_
  rintro e w2 ⟨rfl, hb2⟩
  have HT2 := Lib.hid (HT1.out.below hb2)
  have HI2 := Lib.hid (HI1.out.kept hb2)
  have HV2 := Lib.hid (HV1.out.below hb2)
  have HR2 := Lib.hid (HR1.out.below hb2)
  have HIB2 := Lib.hid (HIB1.out.below hb2)
  have HB2 := Lib.hid (below_ext HB1.out hb2)
  clear hb2 HT1 HI1 HV1 HR1 HIB1 HB1
  obtain ⟨f0, f1, f2, f3⟩ := HIB2.out
  go_wp2_with ((with_reducible show wpList _ _ _ (⟨some 20, _, _, _, _, _⟩ :: _) _ _); refine wpList_load_row rfl 204 _ rfl w.heap.size rfl _ _ _ _ HT2.out Tryz.underlying204 rfl (tr_info hl.out) ?_)
  clear f0 f1 f2 f3
  obtain ⟨W3, hW3⟩ : ∃ u, w2.alloc (.cells #[.int .i64 cI.kind, .int .i64 cI.n, .slice cI.B cI.nb cI.cb, .slice cI.L cI.nl cI.cl] 148) = u := ⟨_, rfl⟩
  have HF3 : Hid (Four W3 w2.heap.size 0 cI) := Lib.hid (by rw [← hW3]; exact four_cells (heap_alloc_new _ _))
  have hb3 : Below w2.heap.size w2 W3 := by rw [← hW3]; exact below_box0 _ _
  rw [hW3]
  have HI3 := Lib.hid (HI2.out.kept hb3)
  have HV3 := Lib.hid (HV2.out.below hb3)
  refine (hash1_any tagAb (by decide) (by decide) h hl hb c s hs0 hs item cI w2.heap.size 1 W3 HV3 HF3 HI3 hfi hle).mono ?_
  rintro e w4 ⟨rfl, hb4⟩
  have HT4 := Lib.hid ((HT2.out.below hb3).below hb4)
  have HR4 := Lib.hid ((HR2.out.below hb3).below hb4)
  have HB4 := Lib.hid (below_ext (below_ext HB2.out hb3) hb4)
  obtain ⟨R, hR⟩ : ∃ R, tagged (bys tagAb) (enc (.lst [.byt h, .byt (bys s), item])) = R := ⟨_, rfl⟩
  have hRl : R.length = 32 := by rw [← hR]; exact tagged_len _ _
  have HN : Kp (abL h (bys s) item = R) := ⟨hR⟩
  have HRL := Lib.hid hRl
  rw [hR, show HashOk R = .tuple #[.agg (arr .u8 R), .int .i64 0] from rfl]
  clear hb3 hb4 hW3 HF3 HI3 HV3 HT2 HI2 HV2 HR2 HB2 HIB2 hR hRl
  go_upto_region 4 with ((with_reducible show wpList _ _ _ (⟨none, _, _, _, _, _⟩ :: _) _ _); refine wpList_store_row rfl 41 _ _ rfl w4.heap.size (arr .u8 R) rfl rfl _ _ (heap_alloc_new _ _) (hash_info HRL.out) (arrs_sz (l := zer 32) rfl HRL.out) (arr_one _) ?_)
  rw [World.setRow_alloc_new]
  try simp only [Act.put]
  have HK3 : Hid (Blk .u8 41 (w4.alloc (.cells (arr .u8 R) 41)) w4.heap.size R) := Lib.hid (Blk.new _ _)
  have HT5 := Lib.hid (HT4.out.below (below_box0 w4 (.cells (arr .u8 R) 41)))
  have HR5 := Lib.hid (HR4.out.below (below_box0 w4 (.cells (arr .u8 R) 41)))
  have HB5 := Lib.hid (below_ext HB4.out (below_box0 w4 (.cells (arr .u8 R) 41)))
  obtain ⟨W5, hW5⟩ : ∃ u, w4.alloc (.cells (arr .u8 R) 41) = u := ⟨_, rfl⟩
  rw [hW5] at HK3 HT5 HR5 HB5 ⊢
  clear hW5
  have hcnt := HT5.out.count hl.out
  have hcn : ¬ (c = 1000) := by omega
  have hwr : IntKind.i64.wrap (c + 1) = c + 1 := IntWalk.i64_in _ (by omega)
  go_wp2_with (first
    | ((with_reducible show wpList _ _ _ (⟨some 40, _, _, _, _, _⟩ :: _) _ _); refine wpList_load_row rfl 41 _ rfl w4.heap.size rfl _ _ _ _ HK3.out Tryz.underlying41 rfl (hash_info HRL.out) ?_)
    | ((with_reducible show wpList _ _ _ (⟨some 44, _, _, _, _, _⟩ :: _) _ _); refine wpList_built rfl 204 _ rfl _ (built2 R HRL.out (c + 1)) ?_)
    | ((with_reducible show wpList _ _ _ (⟨none, _, _, _, _, _⟩ :: _) _ _); refine wpList_store_row rfl 204 _ _ rfl (w.heap.size + 1 + 1) (tcs R (c + 1)) rfl rfl _ _ HR5.out (tr_info HRL.out) (tcs_sz rfl HRL.out) (tcs_one _ _) ?_))
  have HRR : Hid (TBlk (W5.setRow (w.heap.size + 1 + 1) (tcs R (c + 1))) (w.heap.size + 1 + 1) R (c + 1)) := Lib.hid HR5.out.setRow
  have HBF : Below w.heap.size w (W5.setRow (w.heap.size + 1 + 1) (tcs R (c + 1))) := below_setRow' HB5.out (by omega)
  exact bodyPost_ret (v := TrE R (c + 1) 0) (results_cell_tmp2 (p := 6) (q := 7) (ty := 204) rfl _ _ ⟨w.heap.size + 1 + 1, 0, none⟩ _ _ rfl rfl (run_loadVar_row _ _ _ _ _ _ _ HRR.out Tryz.underlying204 rfl (tr_info HRL.out))) rfl ⟨by rw [HN.out], HBF⟩
set_option maxHeartbeats 3200000 in
theorem tints_ok (h : List Int) (hl : Hid (h.length = 32)) (hb : Hid (bytesB h = true)) (c : Int) (hc0 : 0 ≤ c) (hc1 : c < 1000) (s : ByteArray) (hs : s.size ≤ 1000) (hr : Hid (labB (bys s) = true)) (A : Option Addr) (l : List Int) (n cA : Nat) (hn : Hid (l.length = n)) (hbig : n ≤ 1000) (w : World) (hv : Hid (VarsD w)) (hS : Hid (Sl w A l)) (hfi : Hid (fits 7 (.lst (l.map .int)))) (hle : Hid ((enc (.lst (l.map .int))).length ≤ 14000)) :
    Calls Tryz.prog 243 #[.agg (tcs h c), .string s, .slice A n cA] w fun e w' => e = .returned (TrE (abL h (bys s) (.lst (l.map .int))) (c + 1) 0) ∧ Below w.heap.size w w' := by
  obtain ⟨W, hW⟩ : ∃ W, (w.alloc (.cells (tcs h c) 204)).alloc (.cells #[.int .u8 0, .int .u8 0, .int .u8 0, .int .u8 0, .int .u8 0, .int .u8 0, .int .u8 0, .int .u8 0, .int .u8 0, .int .u8 0, .int .u8 0, .int .u8 0, .int .u8 0, .int .u8 0, .int .u8 0, .int .u8 0, .int .u8 0, .int .u8 0, .int .u8 0, .int .u8 0, .int .u8 0, .int .u8 0, .int .u8 0, .int .u8 0, .int .u8 0, .int .u8 0, .int .u8 0, .int .u8 0, .int .u8 0, .int .u8 0, .int .u8 0, .int .u8 0, .int .i64 0] 204) = W := ⟨_, rfl⟩
  have HBX : Hid (Below w.heap.size w W) := Lib.hid (by rw [← hW]; exact below_two (Below.refl _ _))
  have HT0 : Hid (TBlk W w.heap.size h c) := Lib.hid (by rw [← hW]; exact heap_alloc2_old _ _ _)
  have HR0 : Hid (TBlk W (w.heap.size + 1) (zer 32) 0) := Lib.hid (by rw [← hW, ztr]; exact heap_alloc2_new _ _ _)
  have HV := Lib.hid (hv.out.below HBX.out)
  have HSL := Lib.hid (hS.out.below HBX.out)
  have HW := Lib.hid hW
  clear hW hv
  go_enter Tryz.func243, Tryz.ntmps243
  go_upto_region 1 with (fail)
  rw [HW.out]
  clear HW
  have HBd := Lib.hid ((Below.refl W.heap.size W).drew)
  have HTd := Lib.hid (HT0.out.below HBd.out)
  have HRd := Lib.hid (HR0.out.below HBd.out)
  have HVd := Lib.hid (HV.out.below HBd.out)
  have HSd := Lib.hid (HSL.out.below HBd.out)
  have HB3 := Lib.hid (below_ext HBX.out HBd.out)
  obtain ⟨Wd, hWd⟩ : ∃ u, W.drew = u := ⟨_, rfl⟩
  refine wp_region_T (S := fun w' => w'.heap[w.heap.size]? = some (.cells (tcs h c) 204 (0, 0))) (E := [7, 8]) (by kernel_rfl) (HTd.out) (fun hHeld => ?_)
  refine wpT_take (i := 0) (oi := _) (v := (.agg (tcs h c))) rfl (by kernel_rfl) (by kernel_rfl) (by kernel_rfl) (by kernel_rfl) (fun _ _ _ h => h) (Or.inl ⟨by rfl, yields_row 204 _ rfl w.heap.size rfl _ _ _ _ (fun _ h => h) Tryz.underlying204 rfl (tr_info hl.out)⟩) (by assumption) ?_
  try simp only [qq1, qq2, qq3, Act.put, qq4, qq5, qq6]
  refine tkV 1 ?_
  try simp only [qq1, qq2, qq3, Act.put, qq4, qq5, qq6]
  refine tkV 2 ?_
  try simp only [qq1, qq2, qq3, Act.put, qq4, qq5, qq6]
  refine wpT_one (i := 3) (by kernel_rfl) rfl (fun K hK => ?_)
  go_simp
  try rw [hWd]
  rw [hWd] at HBd HTd HRd HVd HSd HB3
  refine (ints_any A l n cA hn (by omega) _ HSd).mono ?_
  rintro e w4 ⟨cI, rfl, hI4, hb4⟩
  refine hK.out _ _ ?_ (fun hHeld => ?_)
  · exact HTd.out.below hb4
  clear hK K
  try simp only [qq1, qq2, qq3, Act.put, qq4, qq5, qq6]
  refine wpT_one (i := 4) (by kernel_rfl) rfl (fun K hK => ?_)
  go_simp
  have HV4 := Lib.hid (HVd.out.below hb4)
  rw [show cI.val = (.agg #[.int .i64 cI.kind, .int .i64 cI.n, .slice cI.B cI.nb cI.cb, .slice cI.L cI.nl cI.cl] : Value) from rfl]
  refine (tabsorb_ok h hl hb c hc0 hc1 s hs hr _ cI _ HV4 (Lib.hid hI4) hfi hle).mono ?_
  rintro e w5 ⟨rfl, hb5⟩
  have HR5 := Lib.hid ((HRd.out.below hb4).below hb5)
  have HB5 := Lib.hid (below_ext (below_ext HB3.out hb4) hb5)
  obtain ⟨R, hR⟩ : ∃ R, abL h (bys s) (.lst (l.map .int)) = R := ⟨_, rfl⟩
  have hRl : R.length = 32 := by rw [← hR]; exact abL_len _ _ _
  have HN : Kp (abL h (bys s) (.lst (l.map .int)) = R) := ⟨hR⟩
  have HRL := Lib.hid hRl
  rw [hR, show TrE R (c + 1) 0 = .tuple #[.agg (tcs R (c + 1)), .int .i64 0] from rfl]
  refine hK.out _ _ ?_ (fun hHeld => ?_)
  · exact (HTd.out.below hb4).below hb5
  clear hK K
  try simp only [qq1, qq2, qq3, Act.put, qq4, qq5, qq6]
  refine tkV 5 ?_
  try simp only [qq1, qq2, qq3, Act.put, qq4, qq5, qq6]
  refine tkV 6 ?_
  try simp only [qq1, qq2, qq3, Act.put, qq4, qq5, qq6]
  refine wpT_pass (i := 7) (by kernel_rfl) (by simp) rfl (fun K hK => ?_)
  rw [show (if Region.wanted _ _ = true then _ else _ : Prop) = _ from if_pos rfl]
  refine wp_store_row 204 _ _ rfl (w.heap.size + 1) (tcs R (c + 1)) rfl rfl 204 _ HR5.out (tr_info HRL.out) (tcs_sz rfl HRL.out) (tcs_one _ _) ?_
  refine hK.out _ _ ?_
  clear hK K
  try simp only [qq1, qq2, qq3, Act.put, qq4, qq5, qq6]
  refine wpT_pass (i := 8) (by kernel_rfl) (by simp) rfl (fun K hK => ?_)
  go_simp
  refine hK.out _ _ ?_
  clear hK K
  try simp only [qq1, qq2, qq3, Act.put, qq4, qq5, qq6]
  refine wpT_done (by kernel_rfl) ?_ _
  have HRR : Hid (TBlk (w5.setRow (w.heap.size + 1) (tcs R (c + 1))) (w.heap.size + 1) R (c + 1)) := Lib.hid HR5.out.setRow
  have HBF : Below w.heap.size w (w5.setRow (w.heap.size + 1) (tcs R (c + 1))) := below_setRow' HB5.out (by omega)
  clear hR hRl hb4 hb5 hI4 HV4 HB5 HR5 hWd
  go_wp2
  exact bodyPost_ret (v := TrE R (c + 1) 0) (results_cell_tmp2 (p := 6) (q := 7) (ty := 204) rfl _ _ ⟨w.heap.size + 1, 0, none⟩ _ _ rfl rfl (run_loadVar_row _ _ _ _ _ _ _ HRR.out Tryz.underlying204 rfl (tr_info HRL.out))) rfl ⟨by rw [HN.out], HBF⟩
def tagCh : ByteArray := { data := #[115, 112, 101, 99, 105, 101, 47, 99, 104, 97, 108, 108, 101, 110, 103, 101] }
def chD (h s : List Int) : List Int := tagged (bys tagCh) (enc (.lst [.byt h, .byt s]))
def chN (q : Int) (h s : List Int) : Int := numv q (chD h s)
def chL (q : Int) (h s : List Int) : List Int := abL h s (.int (chN q h s))
theorem chD_bytes (h s : List Int) : bytesB (chD h s) = true := sha_bytes _
theorem results_cell_tmp3 {P : Program} {fn : Func} {p q r : Tmp} {ty : TypeId} (h : fn.results = #[.cell p ty, .tmp q, .tmp r]) (tmps : Array Value) (w : World) (a : Addr) (v u x : Value)
    (hp : tmps.getD p undef = .pointer (some a)) (hq : tmps.getD q undef = u) (hr : tmps.getD r undef = x) (hl : (loadVar ty a).run P w = .ok v w) : (results fn tmps).run P w = .ok (.tuple #[v, u, x]) w := by
  have hp' : tmps[p]?.getD undef = .pointer (some a) := by simpa using hp
  have hq' : tmps[q]?.getD undef = u := by simpa using hq
  have hr' : tmps[r]?.getD undef = x := by simpa using hr
  simp [results, h, hp', hq', hr', asAddr, hl]
def ChE (h : List Int) (c n e : Int) : Value := .tuple #[.agg (tcs h c), .int .i64 n, .int .i64 e]
set_option maxHeartbeats 3200000 in
theorem tchal_ok (h : List Int) (hl : Hid (h.length = 32)) (hb : Hid (bytesB h = true)) (c : Int) (hc0 : 0 ≤ c) (hc1 : c < 1000) (s : ByteArray) (hs : s.size ≤ 1000) (hr : Hid (labB (bys s) = true)) (q : Int) (hq1 : 2 ≤ q) (hq2 : q < 2305843009213693952) (w : World) (hv : Hid (VarsD w)) :
    Calls Tryz.prog 244 #[.agg (tcs h c), .string s, .int .i64 q] w fun e w' => e = .returned (ChE (chL q h (bys s)) (c + 1) (chN q h (bys s)) 0) ∧ Below w.heap.size w w' := by
  have hs0 : 1 ≤ s.size := by
    have h := hr.out
    rw [labB, bys_len] at h
    simp at h
    exact h.1.1
  obtain ⟨W, hW⟩ : ∃ W, (w.alloc (.cells (tcs h c) 204)).alloc (.cells #[.int .u8 0, .int .u8 0, .int .u8 0, .int .u8 0, .int .u8 0, .int .u8 0, .int .u8 0, .int .u8 0, .int .u8 0, .int .u8 0, .int .u8 0, .int .u8 0, .int .u8 0, .int .u8 0, .int .u8 0, .int .u8 0, .int .u8 0, .int .u8 0, .int .u8 0, .int .u8 0, .int .u8 0, .int .u8 0, .int .u8 0, .int .u8 0, .int .u8 0, .int .u8 0, .int .u8 0, .int .u8 0, .int .u8 0, .int .u8 0, .int .u8 0, .int .u8 0, .int .i64 0] 204) = W := ⟨_, rfl⟩
  have HBX : Hid (Below w.heap.size w W) := Lib.hid (by rw [← hW]; exact below_two (Below.refl _ _))
  have HT0 : Hid (TBlk W w.heap.size h c) := Lib.hid (by rw [← hW]; exact heap_alloc2_old _ _ _)
  have HR0 : Hid (TBlk W (w.heap.size + 1) (zer 32) 0) := Lib.hid (by rw [← hW, ztr]; exact heap_alloc2_new _ _ _)
  have HV := Lib.hid (hv.out.below HBX.out)
  have HW := Lib.hid hW
  have hcn : ¬ (c = 1000) := by omega
  have hqa : ¬ (q < 2) := by omega
  have hqb : ¬ (2305843009213693952 ≤ q) := by omega
  clear hW hv
  go_enter Tryz.func244, Tryz.ntmps244
  go_upto_region 1 with (fail)
  rw [HW.out]
  clear HW
  go_wp2_with ((with_reducible show wpList _ _ _ (⟨some 14, _, _, _, _, _⟩ :: _) _ _); refine wpList_load_row rfl 204 _ rfl w.heap.size rfl _ _ _ _ HT0.out Tryz.underlying204 rfl (tr_info hl.out) ?_)
  refine (tvalid_any h hl c hc0 (by omega) _).mono ?_
  rintro e w1 ⟨rfl, hb1⟩
  have HB1 := Lib.hid (below_ext HBX.out hb1)
  have HT1 := Lib.hid (HT0.out.below hb1)
  have HV1 := Lib.hid (HV.out.below hb1)
  have HR1 := Lib.hid (HR0.out.below hb1)
  clear hb1 HT0 HV HR0 HBX
  go_wp2_with fail
  refine (tlabel_any s hs true hr _).mono ?_
  rintro e w2 ⟨rfl, hb2⟩
  have HT2 := Lib.hid (HT1.out.below hb2)
  have HV2 := Lib.hid (HV1.out.below hb2)
  have HR2 := Lib.hid (HR1.out.below hb2)
  have HB2 := Lib.hid (below_ext HB1.out hb2)
  clear hb2 HT1 HV1 HR1 HB1
  have hcnt := HT2.out.count hl.out
  go_wp2_with ((with_reducible show wpList _ _ _ (⟨some 37, _, _, _, _, _⟩ :: _) _ _); refine wpList_load_row rfl 204 _ rfl w.heap.size rfl _ _ _ _ HT2.out Tryz.underlying204 rfl (tr_info hl.out) ?_)
  clear hcnt
  refine (hash0_any tagCh (by decide) (by decide) h hl hb c s hs0 hs _ HV2).mono ?_
  rintro e w4 ⟨rfl, hb4⟩
  have HT4 := Lib.hid (HT2.out.below hb4)
  have HR4 := Lib.hid (HR2.out.below hb4)
  have HV4 := Lib.hid (HV2.out.below hb4)
  have HB4 := Lib.hid (below_ext HB2.out hb4)
  obtain ⟨R, hR⟩ : ∃ R, tagged (bys tagCh) (enc (.lst [.byt h, .byt (bys s)])) = R := ⟨_, rfl⟩
  have hRl : R.length = 32 := by rw [← hR]; exact tagged_len _ _
  have HRB : Hid (bytesB R = true) := Lib.hid (by rw [← hR]; exact chD_bytes _ _)
  have HN : Kp (chD h (bys s) = R) := ⟨hR⟩
  have HRL := Lib.hid hRl
  rw [hR, show HashOk R = .tuple #[.agg (arr .u8 R), .int .i64 0] from rfl]
  clear hb4 HT2 HV2 HR2 HB2 hR hRl
  go_upto_region 8 with ((with_reducible show wpList _ _ _ (⟨none, _, _, _, _, _⟩ :: _) _ _); refine wpList_store_row rfl 41 _ _ rfl w4.heap.size (arr .u8 R) rfl rfl _ _ (heap_alloc_new _ _) (hash_info HRL.out) (arrs_sz (l := zer 32) rfl HRL.out) (arr_one _) ?_)
  rw [World.setRow_alloc_new]
  try simp only [Act.put]
  have HK5 : Hid (Blk .u8 41 (w4.alloc (.cells (arr .u8 R) 41)) w4.heap.size R) := Lib.hid (Blk.new _ _)
  have HT5 := Lib.hid (HT4.out.below (below_box0 w4 (.cells (arr .u8 R) 41)))
  have HR5 := Lib.hid (HR4.out.below (below_box0 w4 (.cells (arr .u8 R) 41)))
  have HV5 := Lib.hid (HV4.out.below (below_box0 w4 (.cells (arr .u8 R) 41)))
  have HB5 := Lib.hid (below_ext HB4.out (below_box0 w4 (.cells (arr .u8 R) 41)))
  obtain ⟨W5, hW5⟩ : ∃ u, w4.alloc (.cells (arr .u8 R) 41) = u := ⟨_, rfl⟩
  rw [hW5] at HK5 HT5 HR5 HB5 HV5 ⊢
  clear hW5 HT4 HR4 HV4 HB4
  go_wp2_with ((with_reducible show wpList _ _ _ (⟨some 47, _, _, _, _, _⟩ :: _) _ _); refine wpList_load_row rfl 41 _ rfl w4.heap.size rfl _ _ _ _ HK5.out Tryz.underlying41 rfl (hash_info HRL.out) ?_)
  refine (number_any R HRL HRB q (by omega) hq2 _).mono ?_
  rintro e w6 ⟨rfl, hb6⟩
  have HT6 := Lib.hid (HT5.out.below hb6)
  have HR6 := Lib.hid (HR5.out.below hb6)
  have HV6 := Lib.hid (HV5.out.below hb6)
  have HB6 := Lib.hid (below_ext HB5.out hb6)
  obtain ⟨n, hn⟩ : ∃ n, numv q R = n := ⟨_, rfl⟩
  have hn0 : 0 ≤ n ∧ n < q := by rw [← hn]; exact numL_lo (by omega) 16
  obtain ⟨hn1, hn2⟩ := hn0
  have HNN : Kp (chN q h (bys s) = n) := ⟨by rw [chN, HN.1]; exact hn⟩
  rw [hn]
  clear hb6 hn HT5 HR5 HV5 HB5 HK5
  go_wp2_with ((with_reducible show wpList _ _ _ (⟨some 57, _, _, _, _, _⟩ :: _) _ _); refine wpList_load_row rfl 204 _ rfl w.heap.size rfl _ _ _ _ HT6.out Tryz.underlying204 rfl (tr_info hl.out) ?_)
  refine (tabsorb_ok h hl hb c hc0 hc1 s hs hr (.int n) ⟨1, n, none, 0, 0, none, 0, 0⟩ _ HV6 (Lib.hid (.int n _ rfl rfl rfl rfl)) (Lib.hid ⟨by omega, by omega⟩) (Lib.hid (by rw [enc_int, List.length_cons, be8_len]; decide))).mono ?_
  rintro e w7 ⟨rfl, hb7⟩
  have HR7 := Lib.hid (HR6.out.below hb7)
  have HB7 := Lib.hid (below_ext HB6.out hb7)
  obtain ⟨G, hG⟩ : ∃ G, abL h (bys s) (.int n) = G := ⟨_, rfl⟩
  have HGL : Hid (G.length = 32) := Lib.hid (by rw [← hG]; exact abL_len _ _ _)
  have HNG : Kp (chL q h (bys s) = G) := ⟨by rw [chL, HNN.1]; exact hG⟩
  rw [hG, show TrE G (c + 1) 0 = .tuple #[.agg (tcs G (c + 1)), .int .i64 0] from rfl]
  clear hb7 hG HR6 HB6 HT6 HV6
  go_upto_region 14 with ((with_reducible show wpList _ _ _ (⟨none, _, _, _, _, _⟩ :: _) _ _); refine wpList_store_row rfl 204 _ _ rfl w7.heap.size (tcs G (c + 1)) rfl rfl _ _ (heap_alloc_new _ _) (tr_info HGL.out) (tcs_sz (h := zer 32) (c := 0) rfl HGL.out) (tcs_one _ _) ?_)
  rw [World.setRow_alloc_new]
  try simp only [Act.put]
  have HK8 : Hid (TBlk (w7.alloc (.cells (tcs G (c + 1)) 204)) w7.heap.size G (c + 1)) := Lib.hid (TBlk.new _ _ _)
  have HR8 := Lib.hid (HR7.out.below (below_box0 w7 (.cells (tcs G (c + 1)) 204)))
  have HB8 := Lib.hid (below_ext HB7.out (below_box0 w7 (.cells (tcs G (c + 1)) 204)))
  obtain ⟨W8, hW8⟩ : ∃ u, w7.alloc (.cells (tcs G (c + 1)) 204) = u := ⟨_, rfl⟩
  rw [hW8] at HK8 HR8 HB8 ⊢
  clear hW8 HR7 HB7
  go_wp2_with (first
    | ((with_reducible show wpList _ _ _ (⟨some 68, _, _, _, _, _⟩ :: _) _ _); refine wpList_load_row rfl 204 _ rfl w7.heap.size rfl _ _ _ _ HK8.out Tryz.underlying204 rfl (tr_info HGL.out) ?_)
    | ((with_reducible show wpList _ _ _ (⟨none, _, _, _, _, _⟩ :: _) _ _); refine wpList_store_row rfl 204 _ _ rfl (w.heap.size + 1) (tcs G (c + 1)) rfl rfl _ _ HR8.out (tr_info HGL.out) (tcs_sz rfl HGL.out) (tcs_one _ _) ?_))
  have HRR : Hid (TBlk (W8.setRow (w.heap.size + 1) (tcs G (c + 1))) (w.heap.size + 1) G (c + 1)) := Lib.hid HR8.out.setRow
  have HBF : Below w.heap.size w (W8.setRow (w.heap.size + 1) (tcs G (c + 1))) := below_setRow' HB8.out (by omega)
  exact bodyPost_ret (v := ChE G (c + 1) n 0) (results_cell_tmp3 (p := 6) (q := 7) (r := 8) (ty := 204) rfl _ _ ⟨w.heap.size + 1, 0, none⟩ _ _ _ rfl rfl rfl (run_loadVar_row _ _ _ _ _ _ _ HRR.out Tryz.underlying204 rfl (tr_info HGL.out))) rfl ⟨by rw [HNG.out, HNN.out], HBF⟩
theorem grown_setRow (w : World) (a : Nat) (cs : Array Value) : w.grownBy (w.setRow a cs) (some a) :=
  ⟨rfl, rfl, rfl, by simp [World.setRow], fun k hk hne => setRow_other w a k cs (fun e => hne (by rw [e]))⟩
theorem OwnI.setRow {w : World} {base a : Nat} {v : Value} {cs : List Ic} {r : Array Value} (h : OwnI w base v cs) (ha : a < base) : OwnI (w.setRow a r) base v cs :=
  World.ownsRow.kept h (grown_setRow w a r) (Or.inr (h.no ha))
theorem Sk.setRow {K : IntKind} {w : World} {b a : Nat} {l : List Int} {r : Array Value} (h : Sk K w (some ⟨b, 0, none⟩) l) (hne : a ≠ b) : Sk K (w.setRow a r) (some ⟨b, 0, none⟩) l :=
  h.grown (grown_setRow w a r) (fun b' o' e _ e2 => by cases e; cases e2; exact hne rfl)
theorem ic_info (c : Ic) : (Tryz.prog.info? 148).map (·.size) = some c.cs.size := by
  have h : (Tryz.prog.info? 148).map (·.size) = some 4 := by kernel_rfl
  exact h
theorem ic_one (c : Ic) : c.cs.all (·.oneCell') = true := by simp [Ic.cs, Value.oneCell']
set_option maxHeartbeats 3200000 in
theorem rframe0 (h : List Int) (hl : Hid (h.length = 32)) (hb : Hid (bytesB h = true)) (c : Int) (s : ByteArray) (hs0 : 1 ≤ s.size) (hs : s.size ≤ 1000) (w : World) :
    Calls Tryz.prog 275 #[.agg (tcs h c), .string s, .slice none 0 0] w (ItOut (.lst [.byt h, .byt (bys s)]) w) := by
  obtain ⟨i0, hi, hz0, hz1, hz2⟩ := info_parts itemInfo
  obtain ⟨i1, hi1, hy0, hy1, hy2⟩ := info_parts byteInfo
  obtain ⟨W, hW⟩ : ∃ W, (w.alloc (.cells (tcs h c) 204)).alloc (.cells #[.int .i64 0, .int .i64 0, .slice none 0 0, .slice none 0 0] 148) = W := ⟨_, rfl⟩
  have HBX : Hid (Below w.heap.size w W) := Lib.hid (by rw [← hW]; exact below_two (Below.refl _ _))
  have HT0 : Hid (TBlk W w.heap.size h c) := Lib.hid (by rw [← hW]; exact heap_alloc2_old _ _ _)
  have HR0 : Hid (W.heap[w.heap.size + 1]? = some (.cells #[.int .i64 0, .int .i64 0, .slice none 0 0, .slice none 0 0] 148 (0, 0))) := Lib.hid (by rw [← hW]; exact heap_alloc2_new _ _ _)
  have HSZ : Hid (W.heap.size = w.heap.size + 2) := Lib.hid (by rw [← hW]; simp)
  have HW := Lib.hid hW
  have hcv := fun w => run_bytes_of_string (P := Tryz.prog) w 9 145 5 s Tryz.underlying9 Tryz.underlying145 Tryz.underlying5
  clear hW
  go_enter Tryz.func275, Tryz.ntmps275
  go_upto_region 1 with (fail)
  rw [HW.out]
  clear HW
  have HT1 := Lib.hid (HT0.out.below (below_box0 W (.cells #[] 5)))
  have hrow : (W.alloc (.cells #[] 5)).ownsRow W.heap.size 5 1 (.slice (some ⟨W.heap.size, 0, none⟩) 0 0) 0 [] := ⟨rfl, Or.inr ⟨W.heap.size, 0, #[], rfl, Nat.le_refl _, heap_alloc_new _ _, Nat.le_refl _, by decide, rfl, rfl⟩⟩
  have b1 : 0 + 32 ≤ maxLen := by unfold maxLen; omega
  have b2 : (0 + 32) * 1 ≤ 140737488355328 := by omega
  have b3 : W.heap.size ≤ (W.alloc (.cells #[] 5)).heap.size := by simp
  have hlen : (h.map (Value.int .u8)).length = 32 * 1 := by simp [hl.out]
  go_upto_region 2 with (at_builtin; refine wpList_append_lies rfl _ _ 145 rfl W.heap.size 5 i1 (.int .u8 0) 1 1 Tryz.underlying145 hi1 hy0 hy1 hy2 rfl (by decide) (.slice (some ⟨W.heap.size, 0, none⟩) 0 0) _ _ rfl hrow ⟨w.heap.size, 0, none⟩ 32 32 (h.map (.int .u8)) rfl hlen HT1.out.sk.news (ints_oneCell .u8 _) (by decide) b1 b2 b3 _ rfl ?_; intro g1 cap1 w1 hown1 hgrow1 hat1 hlt1)
  have HOH : Hid (OwnK .u8 5 w1 W.heap.size (.slice (some ⟨g1, 0, none⟩) 32 cap1) h) := Lib.hid (by unfold OwnK; rw [hl.out]; simpa using hown1)
  have HB1 : Hid (Below W.heap.size W w1) := Lib.hid (((Below.refl W.heap.size W).alloc (Nat.le_refl _) (.cells #[] 5)).grown hgrow1 (by simp) (fun j hj => by cases hj; exact Nat.le_refl _))
  have HG1 : Hid (W.heap.size ≤ g1) := Lib.hid (HOH.out.lt g1 rfl).1
  have HSH : Hid (Sk .u8 w1 (some ⟨g1, 0, none⟩) h) := Lib.hid (by
    obtain ⟨g, cap, e, _, _, _, hsk⟩ := HOH.out.cells (by rw [hl.out]; decide)
    simp only [Value.slice.injEq, Option.some.injEq, Addr.mk.injEq] at e
    obtain ⟨⟨rfl, -⟩, -, -⟩ := e
    exact hsk)
  have HL1 := Lib.hid hlt1
  clear hown1 hgrow1 hat1 hlt1 hrow b1 b2 b3 hlen HT1 hcv HOH
  obtain ⟨gc, hgc⟩ : ∃ g, grownCap w1 s.size 0 5 = g := ⟨_, rfl⟩
  rw [hgc]
  obtain ⟨Wc, hWc⟩ : ∃ u, w1.alloc (.cells (bytesRow s gc) 5 ((bytesRow s gc).size, (bytesRow s gc).size + 1)) = u := ⟨_, rfl⟩
  rw [hWc]
  have HBc : Hid (Below w1.heap.size w1 Wc) := Lib.hid (by rw [← hWc]; exact below_box0 _ _)
  have HSc : Hid (Sk .u8 Wc (some ⟨w1.heap.size, 0, none⟩) (bys s)) := Lib.hid (by rw [← hWc]; exact bys_sk (heap_alloc_new w1 _))
  have HCZ : Hid (Wc.heap.size = w1.heap.size + 1) := Lib.hid (by rw [← hWc]; simp)
  obtain ⟨W2, hW2⟩ : ∃ u, (Wc.alloc (.cells #[.int .i64 2, .int .i64 0, .slice (some ⟨g1, 0, none⟩) 32 cap1, .slice none 0 0, .int .i64 2, .int .i64 0, .slice (some ⟨w1.heap.size, 0, none⟩) s.size gc, .slice none 0 0] 148)).drew = u := ⟨_, rfl⟩
  have HO2 : Hid (OwnI W2 Wc.heap.size (.slice (some ⟨w1.heap.size + 1, 0, none⟩) 2 2) [icByt (some ⟨g1, 0, none⟩) 32 cap1, icByt (some ⟨w1.heap.size, 0, none⟩) s.size gc]) := Lib.hid (by
    rw [← hW2]
    have h := (ownI_two Wc (icByt (some ⟨g1, 0, none⟩) 32 cap1) (icByt (some ⟨w1.heap.size, 0, none⟩) s.size gc)).keep (Below.refl _ _).drew
    rw [HCZ.out] at h ⊢
    exact h)
  have HB12 : Hid (Below w1.heap.size w1 W2) := Lib.hid (below_ext HBc.out (by rw [← hW2]; exact (below_box0 _ _).drew))
  have HB2 : Hid (Below W.heap.size W W2) := Lib.hid (below_ext HB1.out HB12.out)
  have HS2 : Hid (Sk .u8 W2 (some ⟨w1.heap.size, 0, none⟩) (bys s)) := Lib.hid (HSc.out.below (by rw [← hW2]; exact (below_box0 _ _).drew))
  have HSH2 : Hid (Sk .u8 W2 (some ⟨g1, 0, none⟩) h) := Lib.hid (HSH.out.below HB12.out)
  have HZ1 : Hid (W.heap.size ≤ w1.heap.size) := Lib.hid HB1.out.size
  have hzW : Wc.heap.size < W2.heap.size := by rw [← hW2]; simp
  rw [hW2]
  clear hW2 hWc hgc HSc HBc HSH
  have hrow : W2.ownsRow Wc.heap.size 148 4 (.slice (some ⟨w1.heap.size + 1, 0, none⟩) 2 2) 2 ([icByt (some ⟨g1, 0, none⟩) 32 cap1, icByt (some ⟨w1.heap.size, 0, none⟩) s.size gc].flatMap itemCells) := HO2.out
  have HRF : Hid (W2.heap[w.heap.size + 1]? = some (.cells #[.int .i64 0, .int .i64 0, .slice none 0 0, .slice none 0 0] 148 (0, 0))) := Lib.hid ((HB2.out.block _ (by have := HSZ.out; omega)).trans HR0.out)
  have HOL := HO2
  have HSHL := HSH2
  have HSL := HS2
  have HBL := HB2
  go_wp2_with (first
    | (at_builtin; refine wpList_append_own_none rfl _ _ 146 rfl Wc.heap.size 148 i0 4 Tryz.underlying146 hi _ _ _ rfl hrow rfl ?_)
    | ((with_reducible show wpList _ _ _ (⟨none, _, _, _, _, _⟩ :: _) _ _); refine wpList_store_row rfl 148 _ _ rfl (w.heap.size + 1) (Ic.cs ⟨3, 0, none, 0, 0, some ⟨w1.heap.size + 1, 0, none⟩, 2, 2⟩) rfl rfl _ _ HRF.out (ic_info _) rfl (ic_one _) ?_))
  skip
  obtain ⟨WF, hWF⟩ : ∃ u, W2.setRow (w.heap.size + 1) (Ic.cs ⟨3, 0, none, 0, 0, some ⟨w1.heap.size + 1, 0, none⟩, 2, 2⟩) = u := ⟨_, rfl⟩
  have HOF : Hid (OwnI WF Wc.heap.size (.slice (some ⟨w1.heap.size + 1, 0, none⟩) 2 2) [icByt (some ⟨g1, 0, none⟩) 32 cap1, icByt (some ⟨w1.heap.size, 0, none⟩) s.size gc]) := Lib.hid (by rw [← hWF]; exact HOL.out.setRow (by have := HCZ.out; have := HSZ.out; have := HZ1.out; omega))
  have HSHF : Hid (Sk .u8 WF (some ⟨g1, 0, none⟩) h) := Lib.hid (by rw [← hWF]; exact HSHL.out.setRow (by have := HG1.out; have := HSZ.out; omega))
  have HSF : Hid (Sk .u8 WF (some ⟨w1.heap.size, 0, none⟩) (bys s)) := Lib.hid (by rw [← hWF]; exact HSL.out.setRow (by have := HZ1.out; have := HSZ.out; omega))
  have HBF : Hid (Below w.heap.size w WF) := Lib.hid (by rw [← hWF]; exact below_setRow' (below_ext HBX.out HBL.out) (Nat.le_succ _))
  have HRW : Hid (WF.heap[w.heap.size + 1]? = some (.cells (Ic.cs ⟨3, 0, none, 0, 0, some ⟨w1.heap.size + 1, 0, none⟩, 2, 2⟩) 148 (0, 0))) := Lib.hid (by rw [← hWF]; exact setRow_heap _ _ _ _ _ _ HRF.out)
  have HIX : Hid (∃ g cap, (Value.slice (some ⟨w1.heap.size + 1, 0, none⟩) 2 2) = .slice (some ⟨g, 0, none⟩) 2 cap ∧ ItR WF (.lst [.byt h, .byt (bys s)]) ⟨3, 0, none, 0, 0, some ⟨g, 0, none⟩, 2, cap⟩) := Lib.hid (itr_list HOF.out rfl rfl (by decide) (fun k hk => by
    rcases (show k = 0 ∨ k = 1 by omega) with rfl | rfl
    · exact itr_byt HSHF.out hl.out
    · exact itr_byt HSF.out (bys_len s)))
  obtain ⟨g, cap, e3, hit⟩ := HIX.out
  simp only [Value.slice.injEq, Option.some.injEq, Addr.mk.injEq] at e3
  obtain ⟨⟨rfl, -⟩, -, rfl⟩ := e3
  have HIT := Lib.hid hit
  clear hit HIX
  rw [hWF]
  clear hWF
  exact bodyPost_ret (v := .agg (Ic.cs ⟨3, 0, none, 0, 0, some ⟨w1.heap.size + 1, 0, none⟩, 2, 2⟩)) (results_cell1 (p := 6) (ty := 148) rfl _ _ ⟨w.heap.size + 1, 0, none⟩ _ rfl (run_loadVar_row _ _ _ _ _ _ _ HRW.out Tryz.underlying148 rfl (ic_info _))) rfl ⟨⟨3, 0, none, 0, 0, some ⟨w1.heap.size + 1, 0, none⟩, 2, 2⟩, rfl, HIT.out, HBF.out⟩
set_option maxHeartbeats 3200000 in
theorem rframe1 (h : List Int) (hl : Hid (h.length = 32)) (hb : Hid (bytesB h = true)) (c : Int) (s : ByteArray) (hs0 : 1 ≤ s.size) (hs : s.size ≤ 1000) (item : It) (cI : Ic) (gm cm : Nat) (w : World) (hF : Hid (Four w gm 0 cI)) (hI : Hid (ItR w item cI)) :
    Calls Tryz.prog 275 #[.agg (tcs h c), .string s, .slice (some ⟨gm, 0, none⟩) 1 cm] w (ItOut (.lst [.byt h, .byt (bys s), item]) w) := by
  obtain ⟨i0, hi, hz0, hz1, hz2⟩ := info_parts itemInfo
  obtain ⟨i1, hi1, hy0, hy1, hy2⟩ := info_parts byteInfo
  obtain ⟨W, hW⟩ : ∃ W, (w.alloc (.cells (tcs h c) 204)).alloc (.cells #[.int .i64 0, .int .i64 0, .slice none 0 0, .slice none 0 0] 148) = W := ⟨_, rfl⟩
  have HBX : Hid (Below w.heap.size w W) := Lib.hid (by rw [← hW]; exact below_two (Below.refl _ _))
  have HT0 : Hid (TBlk W w.heap.size h c) := Lib.hid (by rw [← hW]; exact heap_alloc2_old _ _ _)
  have HR0 : Hid (W.heap[w.heap.size + 1]? = some (.cells #[.int .i64 0, .int .i64 0, .slice none 0 0, .slice none 0 0] 148 (0, 0))) := Lib.hid (by rw [← hW]; exact heap_alloc2_new _ _ _)
  have HSZ : Hid (W.heap.size = w.heap.size + 2) := Lib.hid (by rw [← hW]; simp)
  have HW := Lib.hid hW
  have hcv := fun w => run_bytes_of_string (P := Tryz.prog) w 9 145 5 s Tryz.underlying9 Tryz.underlying145 Tryz.underlying5
  clear hW
  go_enter Tryz.func275, Tryz.ntmps275
  go_upto_region 1 with (fail)
  rw [HW.out]
  clear HW
  have HT1 := Lib.hid (HT0.out.below (below_box0 W (.cells #[] 5)))
  have hrow : (W.alloc (.cells #[] 5)).ownsRow W.heap.size 5 1 (.slice (some ⟨W.heap.size, 0, none⟩) 0 0) 0 [] := ⟨rfl, Or.inr ⟨W.heap.size, 0, #[], rfl, Nat.le_refl _, heap_alloc_new _ _, Nat.le_refl _, by decide, rfl, rfl⟩⟩
  have b1 : 0 + 32 ≤ maxLen := by unfold maxLen; omega
  have b2 : (0 + 32) * 1 ≤ 140737488355328 := by omega
  have b3 : W.heap.size ≤ (W.alloc (.cells #[] 5)).heap.size := by simp
  have hlen : (h.map (Value.int .u8)).length = 32 * 1 := by simp [hl.out]
  go_upto_region 2 with (at_builtin; refine wpList_append_lies rfl _ _ 145 rfl W.heap.size 5 i1 (.int .u8 0) 1 1 Tryz.underlying145 hi1 hy0 hy1 hy2 rfl (by decide) (.slice (some ⟨W.heap.size, 0, none⟩) 0 0) _ _ rfl hrow ⟨w.heap.size, 0, none⟩ 32 32 (h.map (.int .u8)) rfl hlen HT1.out.sk.news (ints_oneCell .u8 _) (by decide) b1 b2 b3 _ rfl ?_; intro g1 cap1 w1 hown1 hgrow1 hat1 hlt1)
  have HOH : Hid (OwnK .u8 5 w1 W.heap.size (.slice (some ⟨g1, 0, none⟩) 32 cap1) h) := Lib.hid (by unfold OwnK; rw [hl.out]; simpa using hown1)
  have HB1 : Hid (Below W.heap.size W w1) := Lib.hid (((Below.refl W.heap.size W).alloc (Nat.le_refl _) (.cells #[] 5)).grown hgrow1 (by simp) (fun j hj => by cases hj; exact Nat.le_refl _))
  have HG1 : Hid (W.heap.size ≤ g1) := Lib.hid (HOH.out.lt g1 rfl).1
  have HSH : Hid (Sk .u8 w1 (some ⟨g1, 0, none⟩) h) := Lib.hid (by
    obtain ⟨g, cap, e, _, _, _, hsk⟩ := HOH.out.cells (by rw [hl.out]; decide)
    simp only [Value.slice.injEq, Option.some.injEq, Addr.mk.injEq] at e
    obtain ⟨⟨rfl, -⟩, -, -⟩ := e
    exact hsk)
  have HL1 := Lib.hid hlt1
  clear hown1 hgrow1 hat1 hlt1 hrow b1 b2 b3 hlen HT1 hcv HOH
  obtain ⟨gc, hgc⟩ : ∃ g, grownCap w1 s.size 0 5 = g := ⟨_, rfl⟩
  rw [hgc]
  obtain ⟨Wc, hWc⟩ : ∃ u, w1.alloc (.cells (bytesRow s gc) 5 ((bytesRow s gc).size, (bytesRow s gc).size + 1)) = u := ⟨_, rfl⟩
  rw [hWc]
  have HBc : Hid (Below w1.heap.size w1 Wc) := Lib.hid (by rw [← hWc]; exact below_box0 _ _)
  have HSc : Hid (Sk .u8 Wc (some ⟨w1.heap.size, 0, none⟩) (bys s)) := Lib.hid (by rw [← hWc]; exact bys_sk (heap_alloc_new w1 _))
  have HCZ : Hid (Wc.heap.size = w1.heap.size + 1) := Lib.hid (by rw [← hWc]; simp)
  obtain ⟨W2, hW2⟩ : ∃ u, (Wc.alloc (.cells #[.int .i64 2, .int .i64 0, .slice (some ⟨g1, 0, none⟩) 32 cap1, .slice none 0 0, .int .i64 2, .int .i64 0, .slice (some ⟨w1.heap.size, 0, none⟩) s.size gc, .slice none 0 0] 148)).drew = u := ⟨_, rfl⟩
  have HO2 : Hid (OwnI W2 Wc.heap.size (.slice (some ⟨w1.heap.size + 1, 0, none⟩) 2 2) [icByt (some ⟨g1, 0, none⟩) 32 cap1, icByt (some ⟨w1.heap.size, 0, none⟩) s.size gc]) := Lib.hid (by
    rw [← hW2]
    have h := (ownI_two Wc (icByt (some ⟨g1, 0, none⟩) 32 cap1) (icByt (some ⟨w1.heap.size, 0, none⟩) s.size gc)).keep (Below.refl _ _).drew
    rw [HCZ.out] at h ⊢
    exact h)
  have HB12 : Hid (Below w1.heap.size w1 W2) := Lib.hid (below_ext HBc.out (by rw [← hW2]; exact (below_box0 _ _).drew))
  have HB2 : Hid (Below W.heap.size W W2) := Lib.hid (below_ext HB1.out HB12.out)
  have HS2 : Hid (Sk .u8 W2 (some ⟨w1.heap.size, 0, none⟩) (bys s)) := Lib.hid (HSc.out.below (by rw [← hW2]; exact (below_box0 _ _).drew))
  have HSH2 : Hid (Sk .u8 W2 (some ⟨g1, 0, none⟩) h) := Lib.hid (HSH.out.below HB12.out)
  have HZ1 : Hid (W.heap.size ≤ w1.heap.size) := Lib.hid HB1.out.size
  have hzW : Wc.heap.size < W2.heap.size := by rw [← hW2]; simp
  rw [hW2]
  clear hW2 hWc hgc HSc HBc HSH
  have hrow : W2.ownsRow Wc.heap.size 148 4 (.slice (some ⟨w1.heap.size + 1, 0, none⟩) 2 2) 2 ([icByt (some ⟨g1, 0, none⟩) 32 cap1, icByt (some ⟨w1.heap.size, 0, none⟩) s.size gc].flatMap itemCells) := HO2.out
  have HF2 : Hid (Four W2 gm 0 cI) := Lib.hid ((hF.out.below HBX.out).below HB2.out)
  have HBW : Wc.heap.size ≤ W2.heap.size := by omega
  have b1 : 2 + 1 ≤ maxLen := by unfold maxLen; omega
  have b2 : (2 + 1) * 64 ≤ 140737488355328 := by omega
  have HNW : ∀ (j : Nat) (u : Value), (itemCells cI)[j]? = some u → W2.cell? ((⟨gm, 0, none⟩ : Addr).add j) = some u := four_news HF2.out
  go_wp2_with (first
    | (at_builtin; refine wpList_append_lies rfl _ _ 146 rfl Wc.heap.size 148 i0 (.agg #[.int .i64 0, .int .i64 0, .slice none 0 0, .slice none 0 0]) 4 64 Tryz.underlying146 hi hz0 hz1 hz2 rfl (by decide) (.slice (some ⟨w1.heap.size + 1, 0, none⟩) 2 2) _ _ rfl hrow ⟨gm, 0, none⟩ 1 cm (itemCells cI) rfl rfl HNW (itemCells_one cI) (by decide) b1 b2 HBW _ rfl ?_; intro g3 cap3 w3 hown3 hgrow3 hat3 hlt3; have HBL : Hid (Below W.heap.size W w3) := Lib.hid (HB2.out.grown hgrow3 (by have := HCZ.out; have := HZ1.out; omega) (fun j hj => by have := HCZ.out; have := HZ1.out; have := (World.ownsRow.lt hrow j hj).1; omega)); have HRF : Hid (w3.heap[w.heap.size + 1]? = some (.cells #[.int .i64 0, .int .i64 0, .slice none 0 0, .slice none 0 0] 148 (0, 0))) := Lib.hid ((HBL.out.block _ (by have := HSZ.out; omega)).trans HR0.out))
    | ((with_reducible show wpList _ _ _ (⟨none, _, _, _, _, _⟩ :: _) _ _); refine wpList_store_row rfl 148 _ _ rfl (w.heap.size + 1) (Ic.cs ⟨3, 0, none, 0, 0, some ⟨g3, 0, none⟩, 3, cap3⟩) rfl rfl _ _ HRF.out (ic_info _) rfl (ic_one _) ?_))
  have HB23 : Hid (Below (w1.heap.size + 1) W2 w3) := Lib.hid ((Below.refl _ _).grown hgrow3 (by have := HCZ.out; omega) (fun j hj => by have := HCZ.out; have := (World.ownsRow.lt hrow j hj).1; omega))
  have HOL : Hid (OwnI w3 Wc.heap.size (.slice (some ⟨g3, 0, none⟩) 3 cap3) [icByt (some ⟨g1, 0, none⟩) 32 cap1, icByt (some ⟨w1.heap.size, 0, none⟩) s.size gc, cI]) := Lib.hid hown3
  have HSHL : Hid (Sk .u8 w3 (some ⟨g1, 0, none⟩) h) := Lib.hid (sk_old HSH2.out HB23.out (by have := HL1.out; omega))
  have HSL : Hid (Sk .u8 w3 (some ⟨w1.heap.size, 0, none⟩) (bys s)) := Lib.hid (sk_old HS2.out HB23.out (by omega))
  clear hown3 hgrow3 hat3 hlt3 HNW
  obtain ⟨WF, hWF⟩ : ∃ u, w3.setRow (w.heap.size + 1) (Ic.cs ⟨3, 0, none, 0, 0, some ⟨g3, 0, none⟩, 3, cap3⟩) = u := ⟨_, rfl⟩
  have HOF : Hid (OwnI WF Wc.heap.size (.slice (some ⟨g3, 0, none⟩) 3 cap3) [icByt (some ⟨g1, 0, none⟩) 32 cap1, icByt (some ⟨w1.heap.size, 0, none⟩) s.size gc, cI]) := Lib.hid (by rw [← hWF]; exact HOL.out.setRow (by have := HCZ.out; have := HSZ.out; have := HZ1.out; omega))
  have HSHF : Hid (Sk .u8 WF (some ⟨g1, 0, none⟩) h) := Lib.hid (by rw [← hWF]; exact HSHL.out.setRow (by have := HG1.out; have := HSZ.out; omega))
  have HSF : Hid (Sk .u8 WF (some ⟨w1.heap.size, 0, none⟩) (bys s)) := Lib.hid (by rw [← hWF]; exact HSL.out.setRow (by have := HZ1.out; have := HSZ.out; omega))
  have HBF : Hid (Below w.heap.size w WF) := Lib.hid (by rw [← hWF]; exact below_setRow' (below_ext HBX.out HBL.out) (Nat.le_succ _))
  have HRW : Hid (WF.heap[w.heap.size + 1]? = some (.cells (Ic.cs ⟨3, 0, none, 0, 0, some ⟨g3, 0, none⟩, 3, cap3⟩) 148 (0, 0))) := Lib.hid (by rw [← hWF]; exact setRow_heap _ _ _ _ _ _ HRF.out)
  have HIX : Hid (∃ g cap, (Value.slice (some ⟨g3, 0, none⟩) 3 cap3) = .slice (some ⟨g, 0, none⟩) 3 cap ∧ ItR WF (.lst [.byt h, .byt (bys s), item]) ⟨3, 0, none, 0, 0, some ⟨g, 0, none⟩, 3, cap⟩) := Lib.hid (itr_list HOF.out rfl rfl (by decide) (fun k hk => by
    rcases (show k = 0 ∨ k = 1 ∨ k = 2 by omega) with rfl | rfl | rfl
    · exact itr_byt HSHF.out hl.out
    · exact itr_byt HSF.out (bys_len s)
    · exact hI.out.kept HBF.out))
  obtain ⟨g, cap, e3, hit⟩ := HIX.out
  simp only [Value.slice.injEq, Option.some.injEq, Addr.mk.injEq] at e3
  obtain ⟨⟨rfl, -⟩, -, rfl⟩ := e3
  have HIT := Lib.hid hit
  clear hit HIX
  rw [hWF]
  clear hWF
  exact bodyPost_ret (v := .agg (Ic.cs ⟨3, 0, none, 0, 0, some ⟨g3, 0, none⟩, 3, cap3⟩)) (results_cell1 (p := 6) (ty := 148) rfl _ _ ⟨w.heap.size + 1, 0, none⟩ _ rfl (run_loadVar_row _ _ _ _ _ _ _ HRW.out Tryz.underlying148 rfl (ic_info _))) rfl ⟨⟨3, 0, none, 0, 0, some ⟨g3, 0, none⟩, 3, cap3⟩, rfl, HIT.out, HBF.out⟩
set_option maxHeartbeats 3200000 in
theorem rlist_any (A : Option Addr) (l : List Int) (n c : Nat) (hn : Hid (l.length = n)) (hbig : n ≤ 1000000) (w : World) (hs : Hid (Sl w A l)) :
    Calls Tryz.prog 272 #[.slice A n c] w (ItOut (.lst (l.map .int)) w) := by
  obtain ⟨i0, hi, hz0, hz1, hz2⟩ := info_parts itemInfo
  obtain ⟨W, hW⟩ : ∃ W, (w.alloc (.cells #[.int .i64 0, .int .i64 0, .slice none 0 0, .slice none 0 0] 148)).alloc (.cells #[.int .i64 3, .int .i64 0, .slice none 0 0, .slice none 0 0] 148) = W := ⟨_, rfl⟩
  have HBX : Hid (Below w.heap.size w W) := Lib.hid (by rw [← hW]; exact below_two (Below.refl _ _))
  have HSZ : Hid (W.heap.size = w.heap.size + 2) := Lib.hid (by rw [← hW]; simp)
  have hF : Four W (w.heap.size + 1) 0 ⟨3, 0, none, 0, 0, none, 0, 0⟩ := by
    rw [← hW]
    have h := heap_alloc2_new w (.cells #[.int .i64 0, .int .i64 0, .slice none 0 0, .slice none 0 0] 148) (.cells #[.int .i64 3, .int .i64 0, .slice none 0 0, .slice none 0 0] 148)
    exact ⟨cell_blk h 0, cell_blk h 1, cell_blk h 2, cell_blk h 3⟩
  have hf0 : ∀ j, W.frozen? ⟨w.heap.size + 1, j, none⟩ = false := by
    rw [← hW]
    exact fun j => frozen_blk (heap_alloc2_new _ _ _) j
  have HG : Hid ((Four W w.heap.size 0 ⟨0, 0, none, 0, 0, none, 0, 0⟩) ∧ ∀ j, W.frozen? ⟨w.heap.size, j, none⟩ = false) := Lib.hid (by
    rw [← hW]
    have h := heap_alloc2_old w (.cells #[.int .i64 0, .int .i64 0, .slice none 0 0, .slice none 0 0] 148) (.cells #[.int .i64 3, .int .i64 0, .slice none 0 0, .slice none 0 0] 148)
    exact ⟨⟨cell_blk h 0, cell_blk h 1, cell_blk h 2, cell_blk h 3⟩, fun j => frozen_blk h j⟩)
  have HGB : Hid (W.heap[w.heap.size]? = some (.cells #[.int .i64 0, .int .i64 0, .slice none 0 0, .slice none 0 0] 148 (0, 0))) := Lib.hid (by rw [← hW]; exact heap_alloc2_old w _ _)
  have HS := Lib.hid hs.out
  have HW := Lib.hid hW
  have HX : Hid (Own W ⟨w.heap.size + 1, 0, none⟩ (.int .i64 3) ∧ Own W ⟨w.heap.size + 1, 1, none⟩ (.int .i64 0) ∧ Own W ⟨w.heap.size + 1, 2, none⟩ (.slice none 0 0)) := Lib.hid ⟨⟨hF.1, hf0 0⟩, ⟨hF.2.1, hf0 1⟩, ⟨hF.2.2.1, hf0 2⟩⟩
  have HL : Hid (Own W ⟨w.heap.size + 1, 3, none⟩ (.slice none 0 0)) := Lib.hid ⟨hF.2.2.2, hf0 3⟩
  clear hW hs hF hf0
  go_enter Tryz.func272, Tryz.ntmps272
  go_wp2
  rw [HW.out]
  go_loopw [4] (fun i u => ∃ (k : Nat) (v : Value), k ≤ n ∧ i = .int .i64 k ∧ Hid (Own u ⟨w.heap.size + 1, 3, none⟩ v) ∧ Hid (OwnI u (w.heap.size + 2) v ((l.take k).map icInt)) ∧ Hid (Own u ⟨w.heap.size + 1, 0, none⟩ (.int .i64 3) ∧ Own u ⟨w.heap.size + 1, 1, none⟩ (.int .i64 0) ∧ Own u ⟨w.heap.size + 1, 2, none⟩ (.slice none 0 0)) ∧ Hid (Below (w.heap.size + 1) W u)) (fun i _ => n - (intOf i).toNat)
  case atStart => exact ⟨0, _, by omega, rfl, HL, Lib.hid (ownI_nil _ _), HX, Lib.hid (Below.refl _ _)⟩
  case round =>
    obtain ⟨k, v, hk, rfl, HV, HO, HX3, HBr⟩ := hrel
    by_cases hlt : k < n
    · have hkl : k < l.length := by rw [hn.out]; exact hlt
      obtain ⟨b, o, hA, hc⟩ := (HS.out.below (HBX.out.trans (HBr.out.mono (Nat.le_succ _)))) k hkl
      subst hA
      have HTK := Lib.hid (icInt_take hkl)
      obtain ⟨x, hx⟩ : ∃ x, l.getD k 0 = x := ⟨_, rfl⟩
      rw [hx] at hc HTK
      have HLN : Hid (((l.take k).map icInt).length = k) := Lib.hid (by rw [List.length_map, List.length_take]; omega)
      have hown : wr.ownsRow (w.heap.size + 2) 148 4 v k (((l.take k).map icInt).flatMap itemCells) := by have h := HO.out; unfold OwnI at h; rwa [HLN.out] at h
      have hbs : w.heap.size + 2 ≤ wr.heap.size := by have := HBr.out.size; have := HSZ.out; omega
      have hno : v.ownBlock ≠ some (w.heap.size + 1) := HO.out.no (by omega)
      obtain ⟨v3, v3f⟩ := HV.out
      have hS := Lib.hid (show ∀ u1 : World, Hid (Below wr.drew.heap.size wr.drew u1) → (u1.cell? ⟨w.heap.size + 1, 3, none⟩ = some v ∧ u1.cell? ⟨b, o + k, none⟩ = some (.int .i64 x) ∧ Hid (Below wr.drew.heap.size wr.drew u1)) from fun u1 h1 => ⟨cell_below (w := wr.drew) v3 h1.out, cell_below (w := wr.drew) hc h1.out, h1⟩)
      have HOWN := Lib.hid hown
      clear hx hkl hown v3 v3f hc
      go_wp2
      refine wp_region_T (S := fun w' => w'.cell? ⟨w.heap.size + 1, 3, none⟩ = some v ∧ w'.cell? ⟨b, o + k, none⟩ = some (.int .i64 x) ∧ Hid (Below wr.drew.heap.size wr.drew w')) (E := [8, 9, 10]) (by kernel_rfl) (hS.out _ (Lib.hid (Below.refl _ _))) (fun hHeld => ?_)
      refine tkV 0 ?_
      try simp only [qq1, qq2, qq3, Act.put, qq4, qq5, qq6]
      refine tkV 1 ?_
      try simp only [qq1, qq2, qq3, Act.put, qq4, qq5, qq6]
      refine tkV 2 ?_
      try simp only [qq1, qq2, qq3, Act.put, qq4, qq5, qq6]
      refine tkV 3 ?_
      try simp only [qq1, qq2, qq3, Act.put, qq4, qq5, qq6]
      refine tkV 4 ?_
      try simp only [qq1, qq2, qq3, Act.put, qq4, qq5, qq6]
      refine tkV 5 ?_
      try simp only [qq1, qq2, qq3, Act.put, qq4, qq5, qq6]
      refine tkV 6 ?_
      try simp only [qq1, qq2, qq3, Act.put, qq4, qq5, qq6]
      refine wpT_one (i := 7) (by kernel_rfl) rfl (fun K hK => ?_)
      go_simp
      refine hK.out _ _ ?_ (fun hHeld => ?_)
      · exact hS.out _ (Lib.hid (below_box0 _ _))
      clear hK K
      try simp only [qq1, qq2, qq3, Act.put, qq4, qq5, qq6]
      refine wpT_pass (i := 8) (by kernel_rfl) (by simp) rfl (fun K hK => ?_)
      refine step_append_lies _ (by rfl) _ _ _ (by rfl) (w.heap.size + 2) 148 i0 _ 4 64 Tryz.underlying146 hi hz0 hz1 hz2 rfl (by omega) v k (((l.take k).map icInt).flatMap itemCells) (by rfl) ((HOWN.out.alloc _).drew)
        ⟨wr.heap.size, 0, none⟩ 1 1 [.int .i64 1, .int .i64 x, .slice none 0 0, .slice none 0 0] (by rfl) (by rfl) (World.news_of_block (cs := #[.int .i64 1, .int .i64 x, .slice none 0 0, .slice none 0 0]) (t := 148) (fr := (0, 0)) (heap_alloc_new wr _)) (by simp [Value.oneCell'])
        (by omega) (by unfold maxLen; omega) (by omega) (by simp; omega) (wr.heap.size + 1) (by simp) ?_; intro gg cap wz hown1 hgrow hat hlt2
      have HVz := own_grown2 (w := (wr.alloc (.cells #[.int .i64 1, .int .i64 x, .slice none 0 0, .slice none 0 0] 148)).drew) (HV.out.below (below_box0 wr (.cells #[.int .i64 1, .int .i64 x, .slice none 0 0, .slice none 0 0] 148)).drew) hgrow hno
      have HVY := HVz
      obtain ⟨p2, f2⟩ := HVY
      refine hK.out _ _ ?_
      clear hK K
      try simp only [qq1, qq2, qq3, Act.put, qq4, qq5, qq6]
      refine wpT_pass (i := 9) (by kernel_rfl) (by simp) rfl (fun K hK => ?_)
      go_simp
      refine hK.out _ _ ?_
      clear hK K
      try simp only [qq1, qq2, qq3, Act.put, qq4, qq5, qq6]
      refine wpT_pass (i := 10) (by kernel_rfl) (by simp) rfl (fun K hK => ?_)
      go_simp
      refine hK.out _ _ ?_
      clear hK K
      try simp only [qq1, qq2, qq3, Act.put, qq4, qq5, qq6]
      refine wpT_done (by kernel_rfl) ?_ _
      have HB2 : Hid (Below (w.heap.size + 1) W wz) := Lib.hid (((HBr.out.alloc (by omega) (.cells #[.int .i64 1, .int .i64 x, .slice none 0 0, .slice none 0 0] 148)).drew).grown hgrow (by simp; omega) (fun j hj => by have := (World.ownsRow.lt HOWN.out j hj).1; omega))
      have HO2 : Hid (OwnI wz (w.heap.size + 2) (.slice (some ⟨gg, 0, none⟩) (k + 1) cap) ((l.take (k + 1)).map icInt)) := Lib.hid (by
        rw [HTK.out]
        exact OwnI.app HLN.out.symm hown1)
      have hd := (Below.refl wr.heap.size wr)
      have a0 := own_grown2 (w := (wr.alloc (.cells #[.int .i64 1, .int .i64 x, .slice none 0 0, .slice none 0 0] 148)).drew) (HX3.out.1.below (below_box0 wr (.cells #[.int .i64 1, .int .i64 x, .slice none 0 0, .slice none 0 0] 148)).drew) hgrow hno
      have a1 := own_grown2 (w := (wr.alloc (.cells #[.int .i64 1, .int .i64 x, .slice none 0 0, .slice none 0 0] 148)).drew) (HX3.out.2.1.below (below_box0 wr (.cells #[.int .i64 1, .int .i64 x, .slice none 0 0, .slice none 0 0] 148)).drew) hgrow hno
      have a2 := own_grown2 (w := (wr.alloc (.cells #[.int .i64 1, .int .i64 x, .slice none 0 0, .slice none 0 0] 148)).drew) (HX3.out.2.2.below (below_box0 wr (.cells #[.int .i64 1, .int .i64 x, .slice none 0 0, .slice none 0 0] 148)).drew) hgrow hno
      have HV4 : Hid (Own (wz.setCell ⟨w.heap.size + 1, 3, none⟩ (.slice (some ⟨gg, 0, none⟩) (k + 1) cap)) ⟨w.heap.size + 1, 3, none⟩ (.slice (some ⟨gg, 0, none⟩) (k + 1) cap)) := Lib.hid (own_set_eq2 HVz)
      have HO4 : Hid (OwnI (wz.setCell ⟨w.heap.size + 1, 3, none⟩ (.slice (some ⟨gg, 0, none⟩) (k + 1) cap)) (w.heap.size + 2) (.slice (some ⟨gg, 0, none⟩) (k + 1) cap) ((l.take (k + 1)).map icInt)) := Lib.hid (HO2.out.set (by omega))
      have HX4 : Hid (Own (wz.setCell ⟨w.heap.size + 1, 3, none⟩ (.slice (some ⟨gg, 0, none⟩) (k + 1) cap)) ⟨w.heap.size + 1, 0, none⟩ (.int .i64 3) ∧ Own (wz.setCell ⟨w.heap.size + 1, 3, none⟩ (.slice (some ⟨gg, 0, none⟩) (k + 1) cap)) ⟨w.heap.size + 1, 1, none⟩ (.int .i64 0) ∧ Own (wz.setCell ⟨w.heap.size + 1, 3, none⟩ (.slice (some ⟨gg, 0, none⟩) (k + 1) cap)) ⟨w.heap.size + 1, 2, none⟩ (.slice none 0 0)) :=
        Lib.hid ⟨own_set_ne2 a0 (by simp), own_set_ne2 a1 (by simp), own_set_ne2 a2 (by simp)⟩
      have HB4 : Hid (Below (w.heap.size + 1) W (wz.setCell ⟨w.heap.size + 1, 3, none⟩ (.slice (some ⟨gg, 0, none⟩) (k + 1) cap))) := Lib.hid (HB2.out.setCell (Nat.le_refl _) _)
      clear hown1 hgrow HO HX3 HV p2 f2 a0 a1 a2 HB2 HO2 HVz hd
      go_wp2
      go_roundw
      case rel => exact ⟨k + 1, _, by omega, by go_num, HV4, HO4, HX4, HB4⟩
      case measure => simp [intOf]; omega
    · have HO5 : Hid (OwnI wr (w.heap.size + 2) v (l.map icInt)) := Lib.hid (by
        have h := HO.out
        rwa [List.take_of_length_le (by have := hn.out; omega)] at h)
      obtain ⟨L, cl, hLe⟩ := HO5.out.len
      rw [List.length_map, hn.out] at hLe
      subst hLe
      obtain ⟨p0, p0f⟩ := HX3.out.1
      obtain ⟨p1, p1f⟩ := HX3.out.2.1
      obtain ⟨p2, p2f⟩ := HX3.out.2.2
      obtain ⟨p3, p3f⟩ := HV.out
      have HGr := HG.out
      have r0 := (HBr.out.cell (p := ⟨w.heap.size, 0, none⟩) (Nat.lt_succ_self _)).trans HG.out.1.1
      have r1 := (HBr.out.cell (p := ⟨w.heap.size, 1, none⟩) (Nat.lt_succ_self _)).trans HG.out.1.2.1
      have r2 := (HBr.out.cell (p := ⟨w.heap.size, 2, none⟩) (Nat.lt_succ_self _)).trans HG.out.1.2.2.1
      have r3 := (HBr.out.cell (p := ⟨w.heap.size, 3, none⟩) (Nat.lt_succ_self _)).trans HG.out.1.2.2.2
      have z0 := (HBr.out.frozen (p := ⟨w.heap.size, 0, none⟩) (Nat.lt_succ_self _)).trans (HG.out.2 0)
      have z1 := (HBr.out.frozen (p := ⟨w.heap.size, 1, none⟩) (Nat.lt_succ_self _)).trans (HG.out.2 1)
      have z2 := (HBr.out.frozen (p := ⟨w.heap.size, 2, none⟩) (Nat.lt_succ_self _)).trans (HG.out.2 2)
      have z3 := (HBr.out.frozen (p := ⟨w.heap.size, 3, none⟩) (Nat.lt_succ_self _)).trans (HG.out.2 3)
      have HBW := Lib.hid (HBX.out.trans (HBr.out.mono (Nat.le_succ _)))
      clear HX3 HV HO HGr
      obtain ⟨WF, hWF⟩ : ∃ u, (((wr.setCell ⟨w.heap.size, 0, none⟩ (.int .i64 3)).setCell ⟨w.heap.size, 1, none⟩ (.int .i64 0)).setCell ⟨w.heap.size, 2, none⟩ (.slice none 0 0)).setCell ⟨w.heap.size, 3, none⟩ (.slice L n cl) = u := ⟨_, rfl⟩
      have hgB : WF.heap[w.heap.size]? = some (.cells #[.int .i64 3, .int .i64 0, .slice none 0 0, .slice L n cl] 148 (0, 0)) := by
        have h0 := (HBr.out.block w.heap.size (Nat.lt_succ_self _)).trans HGB.out
        rw [← hWF, heap_setCell_same _ _ _ _ _ _ (heap_setCell_same _ _ _ _ _ _ (heap_setCell_same _ _ _ _ _ _ (heap_setCell_same _ _ _ _ _ _ h0)))]
        rfl
      have HO6 : Hid (OwnI WF (w.heap.size + 2) (.slice L n cl) (l.map icInt)) := Lib.hid (by
        rw [← hWF]
        exact (((HO5.out.set (by omega)).set (by omega)).set (by omega)).set (by omega))
      have HBF : Hid (Below w.heap.size w WF) := Lib.hid (by
        rw [← hWF]
        exact (((HBW.out.setCell (Nat.le_refl _) _).setCell (Nat.le_refl _) _).setCell (Nat.le_refl _) _).setCell (Nat.le_refl _) _)
      obtain ⟨L', cl', e, hitr⟩ := itr_ints HO6.out
      rw [hn.out] at e hitr
      simp only [Value.slice.injEq] at e
      obtain ⟨rfl, _, rfl⟩ := e
      have HIT := Lib.hid hitr
      have HLD : Kp ((loadVar 148 ⟨w.heap.size, 0, none⟩).run Tryz.prog WF = .ok (.agg #[.int .i64 3, .int .i64 0, .slice none 0 0, .slice L n cl]) WF) := ⟨run_loadVar_row _ _ _ _ _ _ _ hgB Tryz.underlying148 rfl (by kernel_rfl)⟩
      have HWF := Lib.hid hWF
      clear hitr HO5 HO6 hgB hWF
      go_wp2
      rw [HWF.out]
      exact bodyPost_ret (v := .agg #[.int .i64 3, .int .i64 0, .slice none 0 0, .slice L n cl]) (results_cell1 (p := 2) (ty := 148) rfl _ _ ⟨w.heap.size, 0, none⟩ _ rfl HLD.out) rfl ⟨⟨3, 0, none, 0, 0, L, n, cl⟩, rfl, HIT.out, HBF.out⟩
def DBlk (w : World) (b : Nat) (h : List Int) (c : Int) : Prop := w.heap[b]? = some (.cells (tcs h c) 43 (0, 0))
theorem DBlk.below {w w' : World} {b : Nat} {h : List Int} {c : Int} (hh : DBlk w b h c) (hb : Below w.heap.size w w') : DBlk w' b h c := (hb.block b (Array.getElem?_eq_some_iff.1 hh).1).trans hh
theorem DBlk.new (w : World) (h : List Int) (c : Int) : DBlk (w.alloc (.cells (tcs h c) 43)) w.heap.size h c := heap_alloc_new _ _
theorem DBlk.lt {w : World} {b : Nat} {h : List Int} {c : Int} (hh : DBlk w b h c) : b < w.heap.size := (Array.getElem?_eq_some_iff.1 hh).1
theorem DBlk.count {w : World} {b : Nat} {h : List Int} {c : Int} (hh : DBlk w b h c) (hl : h.length = 32) : w.cell? ⟨b, 32, none⟩ = some (.int .i64 c) := by
  rw [cell_blk hh, tcs, Array.getElem?_append_right (by rw [arr_size, hl]; exact Nat.le_refl _), arr_size, hl]
  rfl
theorem DBlk.setRow {w : World} {b : Nat} {h h' : List Int} {c c' : Int} (hh : DBlk w b h c) : DBlk (w.setRow b (tcs h' c')) b h' c' := setRow_heap w b _ _ _ _ hh
def scs (h : List Int) (c : Int) (f : Bool) : Array Value := arr .u8 h ++ #[.int .i64 c, .bool f]
def SBlk (w : World) (b : Nat) (h : List Int) (c : Int) (f : Bool) : Prop := w.heap[b]? = some (.cells (scs h c f) 179 (0, 0))
variable {w : World} {b : Nat} {h : List Int} {c : Int} {f : Bool}
theorem SBlk.lt (hh : SBlk w b h c f) : b < w.heap.size := (Array.getElem?_eq_some_iff.1 hh).1
theorem SBlk.below {w' : World} (hh : SBlk w b h c f) (hb : Below w.heap.size w w') : SBlk w' b h c f := (hb.block b hh.lt).trans hh
theorem scs_at32 (hl : h.length = 32) : (scs h c f)[32]? = some (.int .i64 c) := by
  rw [scs, Array.getElem?_append_right (by rw [arr_size, hl]; exact Nat.le_refl _), arr_size, hl]; rfl
theorem SBlk.count (hh : SBlk w b h c f) (hl : h.length = 32) : Own w ⟨b, 32, none⟩ (.int .i64 c) := ⟨(cell_blk hh 32).trans (scs_at32 hl), frozen_blk hh 32⟩
theorem SBlk.range (hh : SBlk w b h c f) (hl : h.length = 32) : w.rangeAt b 0 (tcs h c).toList := fun j v hj => by
  have hlt : j < 33 := by
    have h2 := (List.getElem?_eq_some_iff.1 hj).1
    rw [Array.length_toList, tcs_size hl] at h2
    exact h2
  rw [Nat.zero_add, cell_blk hh, ← hj, Array.getElem?_toList]
  by_cases h3 : j < 32
  · rw [scs, tcs, Array.getElem?_append_left (by rw [arr_size, hl]; exact h3), Array.getElem?_append_left (by rw [arr_size, hl]; exact h3)]
  · obtain rfl : j = 32 := by omega
    rw [scs_at32 hl, tcs, Array.getElem?_append_right (by rw [arr_size, hl]; exact Nat.le_refl _), arr_size, hl]
    rfl
theorem gb_below {w w' : World} (h : Below w.heap.size w w') (r : Option Nat) : w.grownBy w' r := ⟨h.os, h.tape, h.output, h.size, fun k hk _ => h.block k hk⟩
end Go.Proofs.YtjnoaejikapmdaaGreatDoor
namespace Go.Proofs.YtjnoaejikapmdaaGreatDoor
open Go.RowKit SpM
set_option linter.unusedVariables false
set_option linter.unusedSimpArgs false
structure TwoA (w0 : World) (hb : Nat) (box : Obj) (vX : Value) (nX : Nat) (xs : List Int) (vY : Value) (nY : Nat) (ys : List Int) (u : World) : Prop where
  b : Below w0.heap.size w0 u
  x : u.heap[hb]? = some box
  ox : u.ownsRow w0.heap.size 3 1 vX nX (xs.map (Value.int .i64))
  oy : u.ownsRow w0.heap.size 3 1 vY nY (ys.map (Value.int .i64))
  nxy : ∀ j, vX.ownBlock = some j → vY.ownBlock ≠ some j
  nx : vX.ownBlock ≠ some hb
  ny : vY.ownBlock ≠ some hb
theorem own_none (v : Value) : v.ownBlock = none ∨ v.ownBlock ≠ none := by
  cases h : v.ownBlock with
  | none => exact .inl rfl
  | some j => exact .inr (by simp)
theorem heap_lt {u : World} {g : Nat} {o : Obj} (h : u.heap[g]? = some o) : g < u.heap.size := (Array.getElem?_eq_some_iff.1 h).1
section
variable {w0 : World} {hb : Nat} {box : Obj} {vX vY : Value} {nX nY : Nat} {xs ys : List Int} {u u2 : World}
theorem TwoA.below (h : TwoA w0 hb box vX nX xs vY nY ys u) (hq : Below u.heap.size u u2) : TwoA w0 hb box vX nX xs vY nY ys u2 :=
  ⟨below_ext h.b hq, (hq.block hb (heap_lt h.x)).trans h.x, h.ox.kept (gb_below hq none) (own_none _), h.oy.kept (gb_below hq none) (own_none _), h.nxy, h.nx, h.ny⟩
theorem own_ne {g : Nat} {v v' : Value} (h : ∀ j, v.ownBlock = some j → v'.ownBlock ≠ some j) : v'.ownBlock = none ∨ v'.ownBlock ≠ v.ownBlock := by
  cases e : v'.ownBlock with
  | none => exact .inl rfl
  | some j => exact .inr (fun e2 => h j e2.symm e)
theorem TwoA.appX (h : TwoA w0 hb box vX nX xs vY nY ys u) {a : Int} {g cap : Nat} (ho : u2.ownsRow w0.heap.size 3 1 (.slice (some ⟨g, 0, none⟩) (nX + 1) cap) (nX + 1) (xs.map (Value.int .i64) ++ [.int .i64 a])) (hg : u.grownBy u2 vX.ownBlock) (hgg : vX.ownBlock = some g ∨ g = u.heap.size) :
    TwoA w0 hb box (.slice (some ⟨g, 0, none⟩) (nX + 1) cap) (nX + 1) (xs ++ [a]) vY nY ys u2 := by
  have hl := heap_lt h.x
  refine ⟨h.b.grown hg h.b.size (fun j hj => (h.ox.lt j hj).1), (hg.block hb hl (fun e => h.nx e.symm)).trans h.x, by simpa using ho, h.oy.kept hg (own_ne (g := 0) h.nxy), fun j hj => ?_, fun e => ?_, h.ny⟩
  · obtain rfl : g = j := by simpa [Value.ownBlock] using hj
    rcases hgg with e | e
    · exact h.nxy _ e
    · intro e2
      have := (h.oy.lt _ e2).2
      omega
  · obtain rfl : g = hb := by simpa [Value.ownBlock] using e
    rcases hgg with e2 | e2
    · exact h.nx e2
    · omega
theorem TwoA.swap (h : TwoA w0 hb box vX nX xs vY nY ys u) : TwoA w0 hb box vY nY ys vX nX xs u :=
  ⟨h.b, h.x, h.oy, h.ox, fun j h1 h2 => h.nxy j h2 h1, h.ny, h.nx⟩
theorem TwoA.appY (h : TwoA w0 hb box vX nX xs vY nY ys u) {a : Int} {g cap : Nat} (ho : u2.ownsRow w0.heap.size 3 1 (.slice (some ⟨g, 0, none⟩) (nY + 1) cap) (nY + 1) (ys.map (Value.int .i64) ++ [.int .i64 a])) (hg : u.grownBy u2 vY.ownBlock) (hgg : vY.ownBlock = some g ∨ g = u.heap.size) :
    TwoA w0 hb box vX nX xs (.slice (some ⟨g, 0, none⟩) (nY + 1) cap) (nY + 1) (ys ++ [a]) u2 := (h.swap.appX ho hg hgg).swap
structure PendB (u : World) (g : Nat) (a : Int) (vX vY : Value) : Prop where
  c : u.heap[g]? = some (.cells #[.int .i64 a] 3)
  nx : vX.ownBlock ≠ some g
  ny : vY.ownBlock ≠ some g
theorem PendB.new (h : TwoA w0 hb box vX nX xs vY nY ys u) (a : Int) : PendB (u.alloc (.cells #[.int .i64 a] 3)) u.heap.size a vX vY :=
  ⟨heap_alloc_new _ _, fun e => by have := (h.ox.lt _ e).2; omega, fun e => by have := (h.oy.lt _ e).2; omega⟩
theorem PendB.below {g : Nat} {a : Int} (h : PendB u g a vX vY) (hq : Below u.heap.size u u2) : PendB u2 g a vX vY :=
  ⟨(hq.block g (heap_lt h.c)).trans h.c, h.nx, h.ny⟩
theorem PendB.swap {g : Nat} {a : Int} (h : PendB u g a vX vY) : PendB u g a vY vX := ⟨h.c, h.ny, h.nx⟩
theorem PendB.appX {g : Nat} {a : Int} (h : PendB u g a vX vY) {gX n cap : Nat} (hg : u.grownBy u2 vX.ownBlock) (hgg : vX.ownBlock = some gX ∨ gX = u.heap.size) : PendB u2 g a (.slice (some ⟨gX, 0, none⟩) n cap) vY := by
  have hl := heap_lt h.c
  refine ⟨(hg.block g hl (fun e => h.nx e.symm)).trans h.c, fun e => ?_, h.ny⟩
  obtain rfl : gX = g := by simpa [Value.ownBlock] using e
  rcases hgg with e2 | e2
  · exact h.nx e2
  · omega
theorem PendB.appY {g : Nat} {a : Int} (h : PendB u g a vX vY) {gY n cap : Nat} (hg : u.grownBy u2 vY.ownBlock) (hgg : vY.ownBlock = some gY ∨ gY = u.heap.size) : PendB u2 g a vX (.slice (some ⟨gY, 0, none⟩) n cap) := (h.swap.appX hg hgg).swap
theorem PendB.news {g : Nat} {a : Int} (h : PendB u g a vX vY) : ∀ j v, [Value.int .i64 a][j]? = some v → u.cell? ((⟨g, 0, none⟩ : Addr).add j) = some v :=
  World.news_of_block (cs := #[.int .i64 a]) (t := 3) (fr := (0, 0)) h.c
end
end Go.Proofs.YtjnoaejikapmdaaGreatDoor
namespace Go.Proofs.YtjnoaejikapmdaaGreatDoor
open Go.RowKit SpM
set_option linter.unusedVariables false
set_option linter.unusedSimpArgs false
set_option maxRecDepth 100000
def Sh (w : World) (A : Option Addr) (l : List (Int × Int)) : Prop := ∀ k, k < l.length → ∃ b o, A = some ⟨b, o, none⟩ ∧ w.cell? ⟨b, o + k * 2, none⟩ = some (.int .i64 (l.getD k (0, 0)).1) ∧ w.cell? ⟨b, o + k * 2 + 1, none⟩ = some (.int .i64 (l.getD k (0, 0)).2)
theorem Sh.below {w w' : World} {A : Option Addr} {l : List (Int × Int)} (h : Sh w A l) (hb : Below w.heap.size w w') : Sh w' A l := fun k hk => by
  obtain ⟨b, o, h1, h2, h3⟩ := h k hk
  exact ⟨b, o, h1, cell_below h2 hb, cell_below h3 hb⟩
def r64p (p : Int × Int) : Prop := -9223372036854775808 ≤ p.1 ∧ p.1 < 9223372036854775808
abbrev ixs (l : List (Int × Int)) : List Int := l.map (·.1)
abbrev vls (l : List (Int × Int)) : List Int := l.map (·.2)
theorem ixs_get {l : List (Int × Int)} {k : Nat} (h : k < l.length) : (ixs l).getD k 0 = (l.getD k (0, 0)).1 := by
  rw [List.getD_eq_getElem?_getD, List.getElem?_map, List.getElem?_eq_getElem h, List.getD_eq_getElem?_getD, List.getElem?_eq_getElem h]; rfl
theorem vls_get {l : List (Int × Int)} {k : Nat} (h : k < l.length) : (vls l).getD k 0 = (l.getD k (0, 0)).2 := by
  rw [List.getD_eq_getElem?_getD, List.getElem?_map, List.getElem?_eq_getElem h, List.getD_eq_getElem?_getD, List.getElem?_eq_getElem h]; rfl
theorem take_ixs {l : List (Int × Int)} {k : Nat} (h : k < l.length) : ixs (l.take (k + 1)) = ixs (l.take k) ++ [(l.getD k (0, 0)).1] := by
  rw [ixs, List.take_add_one, List.map_append, List.getElem?_eq_getElem h, List.getD_eq_getElem?_getD, List.getElem?_eq_getElem h]; rfl
theorem take_vls {l : List (Int × Int)} {k : Nat} (h : k < l.length) : vls (l.take (k + 1)) = vls (l.take k) ++ [(l.getD k (0, 0)).2] := by
  rw [vls, List.take_add_one, List.map_append, List.getElem?_eq_getElem h, List.getD_eq_getElem?_getD, List.getElem?_eq_getElem h]; rfl
theorem allp_step {f : Int × Int → Bool} {l : List (Int × Int)} {k : Nat} (hk : k < l.length) (h : f (l.getD k (0, 0)) = true) : (l.drop k).all f = (l.drop (k + 1)).all f := by
  rw [List.drop_eq_getElem_cons hk, List.all_cons]
  rw [List.getD_eq_getElem?_getD, List.getElem?_eq_getElem hk] at h
  simp at h
  rw [h, Bool.true_and]
theorem allp_hit {f : Int × Int → Bool} {l : List (Int × Int)} {k : Nat} (hk : k < l.length) (h : f (l.getD k (0, 0)) = false) : (l.drop k).all f = false := by
  rw [List.drop_eq_getElem_cons hk, List.all_cons]
  rw [List.getD_eq_getElem?_getD, List.getElem?_eq_getElem hk] at h
  simp at h
  rw [h, Bool.false_and]
noncomputable def smM (Q : Int) (xs ys : List Int) : Nat → Int
  | 0 => 0
  | m + 1 => (smM Q xs ys m + wtI Q xs 0 m * ys.getD m 0 % Q) % Q
theorem validG_Q {P Q G : Int} (h : validG P Q G = true) : isP Q = true := by
  simp [validG] at h
  exact h.2.2.2.2.1
theorem own_slc {w : World} {B : Nat} {v : Value} {n : Nat} {xs : List Int} (h : w.ownsRow B 3 1 v n (xs.map (Value.int .i64))) (hn : xs.length = n) : ∃ A c, v = .slice A n c ∧ Sl w A xs ∧ n ≤ c := by
  have ho : OwnL w B v xs := by unfold OwnL; rw [hn]; exact h
  obtain ⟨A, c, hv, hs, _⟩ := ho.sl
  rw [hn] at hv
  refine ⟨A, c, hv, hs, ?_⟩
  rcases h.2 with ⟨h1, h2⟩ | ⟨g, cap, cur, h1, _, _, h2, _⟩
  · omega
  · rw [hv] at h1
    cases h1
    exact h2
theorem smM_bounds {Q : Int} (hQ : 2 ≤ Q) (xs ys : List Int) : ∀ k, 0 ≤ smM Q xs ys k ∧ smM Q xs ys k < Q
  | 0 => ⟨by rw [smM]; omega, by rw [smM]; omega⟩
  | k + 1 => ⟨Int.emod_nonneg _ (by omega), Int.emod_lt_of_pos _ (by omega)⟩
theorem vls_sc {P Q G : Int} {ks : List Int} {l : List (Int × Int)} {j : Nat} (h : l.all (fun p => rgtB P Q G ks p.1 p.2) = true) (hj : j < l.length) : scB Q ((vls l).getD j 0) = true := by
  rw [vls_get hj, List.getD_eq_getElem?_getD, List.getElem?_eq_getElem hj]
  have := List.all_eq_true.1 h _ (List.getElem_mem hj)
  simp only [rgtB, Bool.and_eq_true] at this
  exact this.2.1
theorem wadd_eq (a b m v : Int) (hv : Hid ((a + b) % m = v)) (h2 : m < 2305843009213693952) (ha0 : 0 ≤ a) (ha : a < m) (hb0 : 0 ≤ b) (hb : b < m) (w : World) :
    Calls Tryz.prog 53 #[.int .i64 a, .int .i64 b, .int .i64 m] w fun e w' => e = .returned (.tuple #[.int .i64 v, .int .i64 0]) ∧ w = w' := by
  have hc := Lib.hid (chk_ok (by omega) h2 ha0 ha hb0 hb)
  have hm : ((m : Int) == 0) = false := by simp; omega
  have hmn : ¬ (m = 0) := by omega
  have d1 : IntKind.i64.wrap (a + b) = a + b := IntWalk.i64_in _ (by omega)
  have e1 : wrap64 (a + b) = a + b := IntWalk.wrap64_in _ (by omega)
  have htm : (a + b).tmod m = v := tmod_eq (by omega) hv.out
  have v0 : 0 ≤ v := by rw [← hv.out]; exact Int.emod_nonneg _ (by omega)
  have v1 : v < m := by rw [← hv.out]; exact Int.emod_lt_of_pos _ (by omega)
  have hwt : IntKind.i64.wrap v = v := IntWalk.i64_in _ (by omega)
  go_enter Tryz.func53, Tryz.ntmps53
  go_wp2_with (go_at_call 128; refine (check_any _ _ _ _).mono ?_; rintro e w' ⟨rfl, rfl⟩; rw [hc.out])
  go_ret2
  exact ⟨rfl, rfl⟩
theorem noTwice_take {xs : List Int} {m : Nat} (h : NoTwice xs) : NoTwice (xs.take m) := fun i j hi hj => by
  have hi2 : i < m ∧ i < xs.length := by rw [List.length_take] at hi; omega
  have := h i j hi2.2 hj
  rw [List.getD_eq_getElem?_getD, List.getElem?_take_of_lt hi2.1, ← List.getD_eq_getElem?_getD, List.getD_eq_getElem?_getD (l := xs.take m), List.getElem?_take_of_lt (by omega), ← List.getD_eq_getElem?_getD]
  exact this
theorem ixs_sc {P Q G : Int} {ks : List Int} {l : List (Int × Int)} {kn m : Nat} (h : l.all (fun p => rgtB P Q G ks p.1 p.2) = true) (hkn : ks.length = kn) (hq : (kn : Int) < Q) : ((ixs l).take m).all (scB Q) = true := by
  rw [List.all_eq_true]
  intro x hx
  obtain ⟨p, hp, rfl⟩ := List.mem_map.1 (List.mem_of_mem_take hx)
  have := List.all_eq_true.1 h p hp
  simp only [rgtB, memB, Bool.and_eq_true, decide_eq_true_eq] at this
  simp [scB]
  omega
theorem trB_parts {P Q G need : Int} {cs ks : List Int} {cn kn : Nat} (h : trB P Q G need cs ks = true) (hcn : cs.length = cn) (hkn : ks.length = kn) : Hid (validG P Q G = true) ∧ 1 ≤ kn ∧ kn ≤ 8 ∧ (kn : Int) < Q ∧ 1 ≤ need ∧ need ≤ kn ∧ Hid ((cn : Int) = need) := by
  unfold trB at h
  simp only [Bool.and_eq_true, decide_eq_true_eq] at h
  obtain ⟨n1, n2, n3, n4, n5⟩ := numB_parts h.2.1
  rw [hkn] at n1 n2 n3 n5
  exact ⟨Lib.hid h.1, n1, n2, n3, n4, n5, Lib.hid (by rw [← hcn]; exact h.2.2.1)⟩
noncomputable def secE (P Q G need : Int) (ks : List Int) (l : List (Int × Int)) : Int := if l.all (fun p => rgtB P Q G ks p.1 p.2) = true then (if @decide (NoTwice (ixs l)) (Classical.propDecidable _) = true then (if (l.length : Int) < need then 7 else 0) else 8) else 11
noncomputable def secV (P Q G need : Int) (ks : List Int) (l : List (Int × Int)) : Int := if secE P Q G need ks l = 0 then smM Q ((ixs l).take need.toNat) (vls l) need.toNat else 0
set_option maxHeartbeats 12800000 in
theorem sec_2 (P Q G : Int) (m : Nat) (Cs : Option Addr) (cs : List Int) (cn cc : Nat) (Ks : Option Addr) (ks : List Int) (kn kc : Nat) (hcn : Hid (cs.length = cn)) (hkn : Hid (ks.length = kn)) (A : Option Addr) (l : List (Int × Int)) (n c : Nat) (hn : Hid (l.length = n)) (hnb : n ≤ 100) (hlr : Hid (∀ k, k < n → r64p (l.getD k (0, 0)))) (hr : Hid (trB P Q G (m : Int) cs ks = true)) (hQ : Q < 9223372036854775808) (w : World) (hv : Hid (Vars w)) (hC : Hid (Sl w Cs cs)) (hK : Hid (Sl w Ks ks)) (hA : Hid (Sh w A l)) :
    Calls Tryz.prog 11 #[gv P Q G, trV (m : Int) Cs cn cc Ks kn kc, .slice A n c] w fun e' w' => e' = .returned (.tuple #[.int .i64 (secV P Q G (m : Int) ks l), .int .i64 (secE P Q G (m : Int) ks l)]) ∧ Below w.heap.size w w' := by
  obtain ⟨i0, hi, hz0, hz1, hz2⟩ := info_parts intInfo
  obtain ⟨HVG, n1, n2, n3, n4, n5, n6⟩ := trB_parts hr.out hcn.out hkn.out
  obtain ⟨w0, hW⟩ : ∃ W, ((w.alloc (gObj P Q G)).alloc (trO (m : Int) Cs cn cc Ks kn kc)) = W := ⟨_, rfl⟩
  have HBw : Hid (Below w.heap.size w w0) := Lib.hid (by rw [← hW]; exact below_two (Below.refl _ _))
  have hc : w0.cell? ⟨w.heap.size, 0, none⟩ = some (.int .i64 P) ∧ w0.cell? ⟨w.heap.size, 1, none⟩ = some (.int .i64 Q) ∧ w0.cell? ⟨w.heap.size, 2, none⟩ = some (.int .i64 G) ∧ w0.cell? ⟨w.heap.size + 1, 0, none⟩ = some (.int .i64 (m : Int)) ∧ w0.cell? ⟨w.heap.size + 1, 1, none⟩ = some (.slice Cs cn cc) ∧ w0.cell? ⟨w.heap.size + 1, 2, none⟩ = some (.slice Ks kn kc) := by rw [← hW]; exact ⟨cell_below (allocs_cell (by simp) (by rfl)) (below_box0 _ _), cell_below (allocs_cell (by simp) (by rfl)) (below_box0 _ _), cell_below (allocs_cell (by simp) (by rfl)) (below_box0 _ _), allocs_cell (by simp) (by rfl), allocs_cell (by simp) (by rfl), allocs_cell (by simp) (by rfl)⟩
  have kC := Lib.hid (show ∀ u : World, Hid (Below w0.heap.size w0 u) → u.cell? ⟨w.heap.size, 0, none⟩ = some (.int .i64 P) ∧ u.cell? ⟨w.heap.size, 1, none⟩ = some (.int .i64 Q) ∧ u.cell? ⟨w.heap.size, 2, none⟩ = some (.int .i64 G) ∧ u.cell? ⟨w.heap.size + 1, 0, none⟩ = some (.int .i64 (m : Int)) ∧ u.cell? ⟨w.heap.size + 1, 1, none⟩ = some (.slice Cs cn cc) ∧ u.cell? ⟨w.heap.size + 1, 2, none⟩ = some (.slice Ks kn kc) from fun u h => ⟨cell_below hc.1 h.out, cell_below hc.2.1 h.out, cell_below hc.2.2.1 h.out, cell_below hc.2.2.2.1 h.out, cell_below hc.2.2.2.2.1 h.out, cell_below hc.2.2.2.2.2 h.out⟩)
  have kV := Lib.hid (show ∀ u : World, Hid (Below w0.heap.size w0 u) → Hid (Vars u) from fun u h => Lib.hid ((hv.out.below) (below_ext HBw.out h.out)))
  have kCs := Lib.hid (show ∀ u : World, Hid (Below w0.heap.size w0 u) → Hid (Sl u Cs cs) from fun u h => Lib.hid ((hC.out.below) (below_ext HBw.out h.out)))
  have kKs := Lib.hid (show ∀ u : World, Hid (Below w0.heap.size w0 u) → Hid (Sl u Ks ks) from fun u h => Lib.hid ((hK.out.below) (below_ext HBw.out h.out)))
  have kA := Lib.hid (show ∀ u : World, Hid (Below w0.heap.size w0 u) → Hid (Sh u A l) from fun u h => Lib.hid ((hA.out.below) (below_ext HBw.out h.out)))
  have HB_0 : Hid (Below w0.heap.size w0 w0) := Lib.hid (Below.refl _ _)
  have HW := Lib.hid hW
  clear hW hc hv hC hK hA
  go_enter Tryz.func11, Tryz.ntmps11
  go_wp2_with fail
  rw [HW.out]
  obtain ⟨zc0, zc1, zc2, zc3, zc4, zc5⟩ := kC.out _ HB_0
  go_wp2_with fail
  refine (trv_any P Q G (m : Int) Cs cs cn cc Ks ks kn kc hcn hkn true hr hQ _ (kV.out _ HB_0) (kCs.out _ HB_0) (kKs.out _ HB_0)).mono ?_
  rintro e w1 ⟨rfl, hb0⟩
  have HB_1 := Lib.hid (below_ext HB_0.out hb0)
  clear zc0 zc1 zc2 zc3 zc4 zc5
  clear hb0
  obtain ⟨zc0, zc1, zc2, zc3, zc4, zc5⟩ := kC.out _ HB_1
  go_wp2
  clear zc0 zc1 zc2 zc3 zc4 zc5
  go_loopw [8, 9, 25] (fun vx vy i wr => ∃ k : Nat, k ≤ n ∧ i = .int .i64 k ∧ Hid (l.all (fun p => rgtB P Q G ks p.1 p.2) = (l.drop k).all (fun p => rgtB P Q G ks p.1 p.2)) ∧ Hid (wr.ownsRow w0.heap.size 3 1 vx k ((ixs (l.take k)).map (Value.int .i64))) ∧ Hid (wr.ownsRow w0.heap.size 3 1 vy k ((vls (l.take k)).map (Value.int .i64))) ∧ Hid (∀ j, vx.ownBlock = some j → vy.ownBlock ≠ some j) ∧ Hid (Below w0.heap.size w0 wr)) (fun _ _ i _ => n - (intOf i).toNat)
  case atStart => exact ⟨0, by omega, rfl, Lib.hid rfl, Lib.hid (World.ownsRow_nil _ _ _ _), Lib.hid (World.ownsRow_nil _ _ _ _), Lib.hid (fun j h => by cases h), HB_1⟩
  case round =>
    obtain ⟨k, hk, rfl, HR, HOX, HOY, HNXY, HBr⟩ := hrel
    by_cases hlt : k < n
    · skip
      have hkl : k < l.length := by rw [hn.out]; exact hlt
      obtain ⟨b, o, hA, i0x, i0v⟩ := (kA.out _ HBr).out k hkl
      subst hA
      have tx := take_ixs hkl
      have ty := take_vls hkl
      obtain ⟨px, hpx⟩ : ∃ x, l.getD k (0, 0) = x := ⟨_, rfl⟩
      obtain ⟨ix, v⟩ := px
      rw [hpx] at i0x i0v tx ty
      have TX := Lib.hid tx
      have TY := Lib.hid ty
      clear tx ty
      dsimp only at i0x i0v
      cases hrg : rgtB P Q G ks ix v with
      | true =>
        have HS : Hid (l.all (fun p => rgtB P Q G ks p.1 p.2) = (l.drop (k + 1)).all (fun p => rgtB P Q G ks p.1 p.2)) := Lib.hid (HR.out.trans (allp_step hkl (by rw [hpx]; exact hrg)))
        have HRG := Lib.hid hrg
        clear hrg HR hpx
        have HB_wr_1 : Hid (Below wr.heap.size wr wr) := Lib.hid (Below.refl _ _)
        obtain ⟨zc0, zc1, zc2, zc3, zc4, zc5⟩ := kC.out _ HBr
        have hq := below_box0 wr (shO ix v)
        have HB_2 := Lib.hid (below_ext HBr.out hq)
        have HB_wr_2 := Lib.hid (below_ext HB_wr_1.out hq)
        have hc : (wr.alloc (shO ix v)).cell? ⟨wr.heap.size, 0, none⟩ = some (.int .i64 ix) ∧ (wr.alloc (shO ix v)).cell? ⟨wr.heap.size, 1, none⟩ = some (.int .i64 v) := ⟨allocs_cell rfl (by rfl), allocs_cell rfl (by rfl)⟩
        have HC2 := Lib.hid hc
        have HK2 := Lib.hid (heap_alloc_new wr (shO ix v))
        clear hq
        obtain ⟨zc0x, zc1x, zc2x, zc3x, zc4x, zc5x⟩ := kC.out _ HB_2
        obtain ⟨zq0, zq1⟩ := hc
        go_wp2_with fail
        obtain ⟨w2, hw⟩ : ∃ x, (wr.alloc (shO ix v)) = x := ⟨_, rfl⟩
        rw [hw] at HC2 HK2 HB_2 HB_wr_2 ⊢
        have HSN2 : Hid (w2.heap.size = wr.heap.size + 1) := Lib.hid (by rw [← hw]; simp)
        clear zc0 zc1 zc2 zc3 zc4 zc5 zc0x zc1x zc2x zc3x zc4x zc5x zq0 zq1
        clear hw
        have HB_w2_2 : Hid (Below w2.heap.size w2 w2) := Lib.hid (Below.refl _ _)
        have kS := Lib.hid (show ∀ u : World, Hid (Below w2.heap.size w2 u) → u.cell? ⟨wr.heap.size, 0, none⟩ = some (.int .i64 ix) ∧ u.cell? ⟨wr.heap.size, 1, none⟩ = some (.int .i64 v) from fun u h => ⟨cell_below HC2.out.1 h.out, cell_below HC2.out.2 h.out⟩)
        obtain ⟨zc0, zc1, zc2, zc3, zc4, zc5⟩ := kC.out _ HB_2
        obtain ⟨kS_0, kS_1⟩ := kS.out _ HB_w2_2
        clear i0x i0v
        clear zc0 zc1 zc2 zc3 zc4 zc5 kS_0 kS_1
        obtain ⟨zc0, zc1, zc2, zc3, zc4, zc5⟩ := kC.out _ HB_2
        obtain ⟨kS_0, kS_1⟩ := kS.out _ HB_w2_2
        go_wp2_with fail
        refine (right_any P Q G (m : Int) Cs cn cc Ks ks kn kc ix v hkn n2 HVG true HRG _ (kV.out _ HB_2) (kKs.out _ HB_2)).mono ?_
        rintro e w3 ⟨rfl, hb0⟩
        have HB_3 := Lib.hid (below_ext HB_2.out hb0)
        have HB_wr_3 := Lib.hid (below_ext HB_wr_2.out hb0)
        have HB_w2_3 := Lib.hid (below_ext HB_w2_2.out hb0)
        clear zc0 zc1 zc2 zc3 zc4 zc5 kS_0 kS_1
        clear hb0
        obtain ⟨zc0, zc1, zc2, zc3, zc4, zc5⟩ := kC.out _ HB_3
        obtain ⟨kS_0, kS_1⟩ := kS.out _ HB_w2_3
        have HT : Hid (TwoA w0 wr.heap.size (shO ix v) u8 k (ixs (l.take k)) u9 k (vls (l.take k)) w3) := Lib.hid ⟨HB_3.out, (HB_w2_3.out.block _ (heap_lt HK2.out)).trans HK2.out, HOX.out.kept (gb_below HB_wr_3.out none) (own_none _), HOY.out.kept (gb_below HB_wr_3.out none) (own_none _), HNXY.out, fun e => by have := (HOX.out.lt _ e).2; omega, fun e => by have := (HOY.out.lt _ e).2; omega⟩
        go_upto_region 9 with (fail)
        clear zc0 zc1 zc2 zc3 zc4 zc5 kS_0 kS_1
        have hS := Lib.hid (show ∀ (za : Value) (zi : Nat) (zl : List Int) (zb : Value) (zj : Nat) (zm : List Int) (zu : World), Hid (TwoA w0 (wr.heap.size) (shO ix v) za (zi) (zl) zb (zj) (zm) zu) → (zu.cell? ⟨w.heap.size, 0, none⟩ = some (.int .i64 P) ∧ zu.cell? ⟨w.heap.size, 1, none⟩ = some (.int .i64 Q) ∧ zu.cell? ⟨w.heap.size, 2, none⟩ = some (.int .i64 G) ∧ zu.cell? ⟨w.heap.size + 1, 0, none⟩ = some (.int .i64 (m : Int)) ∧ zu.cell? ⟨w.heap.size + 1, 1, none⟩ = some (.slice Cs cn cc) ∧ zu.cell? ⟨w.heap.size + 1, 2, none⟩ = some (.slice Ks kn kc) ∧ zu.cell? ⟨wr.heap.size, 0, none⟩ = some (.int .i64 ix) ∧ zu.cell? ⟨wr.heap.size, 1, none⟩ = some (.int .i64 v)) from fun za zi zl zb zj zm zu h => by
          obtain ⟨y0, y1, y2, y3, y4, y5⟩ := kC.out _ (Lib.hid h.out.b)
          exact ⟨y0, y1, y2, y3, y4, y5, cell_blk h.out.x 0, cell_blk h.out.x 1⟩)
        have HTD := Lib.hid (HT.out.below (Below.refl _ _).drew)
        refine wp_region_T (S := fun w' => w'.cell? ⟨w.heap.size, 0, none⟩ = some (.int .i64 P) ∧ w'.cell? ⟨w.heap.size, 1, none⟩ = some (.int .i64 Q) ∧ w'.cell? ⟨w.heap.size, 2, none⟩ = some (.int .i64 G) ∧ w'.cell? ⟨w.heap.size + 1, 0, none⟩ = some (.int .i64 (m : Int)) ∧ w'.cell? ⟨w.heap.size + 1, 1, none⟩ = some (.slice Cs cn cc) ∧ w'.cell? ⟨w.heap.size + 1, 2, none⟩ = some (.slice Ks kn kc) ∧ w'.cell? ⟨wr.heap.size, 0, none⟩ = some (.int .i64 ix) ∧ w'.cell? ⟨wr.heap.size, 1, none⟩ = some (.int .i64 v)) (E := []) (by kernel_rfl) (hS.out _ _ _ _ _ _ _ HTD) (fun hHeld => ?_)
        obtain ⟨wD, hwD⟩ : ∃ u, w3.drew = u := ⟨_, rfl⟩
        rw [hwD] at HTD hHeld ⊢
        clear hwD
        refine tkV 0 ?_
        try simp only [qq1, qq2, qq3, Act.put, qq4, qq5, qq6]
        refine tkV 1 ?_
        try simp only [qq1, qq2, qq3, Act.put, qq4, qq5, qq6]
        refine tkV 2 ?_
        try simp only [qq1, qq2, qq3, Act.put, qq4, qq5, qq6]
        refine tkV 5 ?_
        try simp only [qq1, qq2, qq3, Act.put, qq4, qq5, qq6]
        refine tkV 6 ?_
        try simp only [qq1, qq2, qq3, Act.put, qq4, qq5, qq6]
        refine tkV 7 ?_
        try simp only [qq1, qq2, qq3, Act.put, qq4, qq5, qq6]
        refine wpT_frame (fun T a0 hT ha0 => ?_)
        clear hHeld
        have G3_4_8_9 : ∀ (g3 : Nat) (gX : Nat) (cX : Nat) (g8 : Nat) (gY : Nat) (cY : Nat) (uT : World), (Hid (TwoA w0 (wr.heap.size) (shO ix v) (.slice (some ⟨gX, 0, none⟩) (k + 1) cX) (k + 1) (ixs (l.take k) ++ [ix]) (.slice (some ⟨gY, 0, none⟩) (k + 1) cY) (k + 1) (vls (l.take k) ++ [v]) uT)) → T 2 #[true, true, true, true, true, true, true, true, true, true, false, false] ((((a0.put (some 37) (.slice (some ⟨g3, 0, none⟩) 1 1)).put (some 38) (.slice (some ⟨gX, 0, none⟩) (k + 1) cX)).put (some 42) (.slice (some ⟨g8, 0, none⟩) 1 1)).put (some 43) (.slice (some ⟨gY, 0, none⟩) (k + 1) cY)) uT := by
          intro g3 gX cX g8 gY cY uT FT
          have hHeld := hS.out _ _ _ _ _ _ _ FT
          rw [hT, ha0]
          try simp only [qq1, qq2, qq3, Act.put, qq4, qq5, qq6]
          refine tkV 10 ?_
          try simp only [qq1, qq2, qq3, Act.put, qq4, qq5, qq6]
          refine tkV 11 ?_
          try simp only [qq1, qq2, qq3, Act.put, qq4, qq5, qq6]
          refine wpT_done (by kernel_rfl) ?_ _
          clear hHeld hT ha0
          have HBT := Lib.hid FT.out.b
          have hox := FT.out.ox
          have hoy := FT.out.oy
          rw [← TX.out] at hox
          rw [← TY.out] at hoy
          have HOX2 := Lib.hid hox
          have HOY2 := Lib.hid hoy
          have HNX2 := Lib.hid FT.out.nxy
          clear hox hoy FT
          obtain ⟨zc0, zc1, zc2, zc3, zc4, zc5⟩ := kC.out _ HBT
          go_wp2
          go_roundw
          case rel => exact ⟨k + 1, by omega, by go_num, HS, HOX2, HOY2, HNX2, HBT⟩
          case measure => simp [intOf]; omega
        have G3_4_8 : ∀ (g3 : Nat) (gX : Nat) (cX : Nat) (g8 : Nat) (uT : World), (Hid (TwoA w0 (wr.heap.size) (shO ix v) (.slice (some ⟨gX, 0, none⟩) (k + 1) cX) (k + 1) (ixs (l.take k) ++ [ix]) u9 (k) (vls (l.take k)) uT)) → (Hid (PendB uT g8 (v) (.slice (some ⟨gX, 0, none⟩) (k + 1) cX) u9)) → T 3 #[true, true, true, true, true, true, true, true, true, false, false, false] (((a0.put (some 37) (.slice (some ⟨g3, 0, none⟩) 1 1)).put (some 38) (.slice (some ⟨gX, 0, none⟩) (k + 1) cX)).put (some 42) (.slice (some ⟨g8, 0, none⟩) 1 1)) uT := by
          intro g3 gX cX g8 uT FT F8
          have hHeld := hS.out _ _ _ _ _ _ _ FT
          rw [hT, ha0]
          try simp only [qq1, qq2, qq3, Act.put, qq4, qq5, qq6]
          refine wpT_one (i := 9) (by kernel_rfl) rfl (fun K hK => ?_)
          refine step_append_lies _ (by rfl) _ _ _ (by rfl) w0.heap.size 3 i0 _ 1 8 Tryz.underlying24 hi hz0 hz1 hz2 rfl (by omega) u9 (k) ((vls (l.take k)).map (Value.int .i64)) (by rfl) FT.out.oy ⟨g8, 0, none⟩ 1 1 [.int .i64 (v)] (by rfl) (by rfl) F8.out.news (ints_oneCell .i64 [v]) (by omega) (by unfold maxLen; omega) (by omega) FT.out.b.size uT.heap.size rfl ?_
          intro gY cY uN hown1 hgrow1 hgg hlt1
          have FT2 := Lib.hid (FT.out.appY hown1 hgrow1 hgg)
          refine hK.out _ _ ?_ (fun hHeld => ?_)
          · exact hS.out _ _ _ _ _ _ _ FT2
          clear hK K hHeld
          try simp only [qq1, qq2, qq3, Act.put, qq4, qq5, qq6]
          have hG := G3_4_8_9 g3 gX cX g8 gY cY uN FT2
          rw [hT, ha0] at hG
          (try simp only [qq1, qq2, qq3, Act.put, qq4, qq5, qq6] at hG)
          exact hG
        have G3_4 : ∀ (g3 : Nat) (gX : Nat) (cX : Nat) (uT : World), (Hid (TwoA w0 (wr.heap.size) (shO ix v) (.slice (some ⟨gX, 0, none⟩) (k + 1) cX) (k + 1) (ixs (l.take k) ++ [ix]) u9 (k) (vls (l.take k)) uT)) → T 4 #[true, true, true, true, true, true, true, true, false, false, false, false] ((a0.put (some 37) (.slice (some ⟨g3, 0, none⟩) 1 1)).put (some 38) (.slice (some ⟨gX, 0, none⟩) (k + 1) cX)) uT := by
          intro g3 gX cX uT FT
          have hHeld := hS.out _ _ _ _ _ _ _ FT
          rw [hT, ha0]
          try simp only [qq1, qq2, qq3, Act.put, qq4, qq5, qq6]
          refine wpT_one (i := 8) (by kernel_rfl) rfl (fun K hK => ?_)
          go_simp
          have FT2 := Lib.hid (FT.out.below (below_box0 uT (.cells #[.int .i64 (v)] 3)))
          refine hK.out _ _ ?_ (fun hHeld => ?_)
          · exact hS.out _ _ _ _ _ _ _ FT2
          clear hK K hHeld
          try simp only [qq1, qq2, qq3, Act.put, qq4, qq5, qq6]
          have hG := G3_4_8 g3 gX cX (uT.heap.size) (uT.alloc (.cells #[.int .i64 (v)] 3)) FT2 (Lib.hid (PendB.new FT.out (v)))
          rw [hT, ha0] at hG
          (try simp only [qq1, qq2, qq3, Act.put, qq4, qq5, qq6] at hG)
          exact hG
        have G3_8 : ∀ (g3 : Nat) (g8 : Nat) (uT : World), (Hid (TwoA w0 (wr.heap.size) (shO ix v) u8 (k) (ixs (l.take k)) u9 (k) (vls (l.take k)) uT)) → (Hid (PendB uT g3 (ix) u8 u9)) → (Hid (PendB uT g8 (v) u8 u9)) → T 4 #[true, true, true, true, false, true, true, true, true, false, false, false] ((a0.put (some 37) (.slice (some ⟨g3, 0, none⟩) 1 1)).put (some 42) (.slice (some ⟨g8, 0, none⟩) 1 1)) uT := by
          intro g3 g8 uT FT F3 F8
          have hHeld := hS.out _ _ _ _ _ _ _ FT
          rw [hT, ha0]
          try simp only [qq1, qq2, qq3, Act.put, qq4, qq5, qq6]
          refine wpT_one (i := 4) (by kernel_rfl) rfl (fun K hK => ?_)
          refine step_append_lies _ (by rfl) _ _ _ (by rfl) w0.heap.size 3 i0 _ 1 8 Tryz.underlying24 hi hz0 hz1 hz2 rfl (by omega) u8 (k) ((ixs (l.take k)).map (Value.int .i64)) (by rfl) FT.out.ox ⟨g3, 0, none⟩ 1 1 [.int .i64 (ix)] (by rfl) (by rfl) F3.out.news (ints_oneCell .i64 [ix]) (by omega) (by unfold maxLen; omega) (by omega) FT.out.b.size uT.heap.size rfl ?_
          intro gX cX uN hown1 hgrow1 hgg hlt1
          have FT2 := Lib.hid (FT.out.appX hown1 hgrow1 hgg)
          refine hK.out _ _ ?_ (fun hHeld => ?_)
          · exact hS.out _ _ _ _ _ _ _ FT2
          clear hK K hHeld
          try simp only [qq1, qq2, qq3, Act.put, qq4, qq5, qq6]
          have hG := G3_4_8 g3 gX cX g8 uN FT2 (Lib.hid (F8.out.appX hgrow1 hgg))
          rw [hT, ha0] at hG
          (try simp only [qq1, qq2, qq3, Act.put, qq4, qq5, qq6] at hG)
          exact hG
        have G3 : ∀ (g3 : Nat) (uT : World), (Hid (TwoA w0 (wr.heap.size) (shO ix v) u8 (k) (ixs (l.take k)) u9 (k) (vls (l.take k)) uT)) → (Hid (PendB uT g3 (ix) u8 u9)) → T 5 #[true, true, true, true, false, true, true, true, false, false, false, false] (a0.put (some 37) (.slice (some ⟨g3, 0, none⟩) 1 1)) uT := by
          intro g3 uT FT F3
          have hHeld := hS.out _ _ _ _ _ _ _ FT
          rw [hT, ha0]
          try simp only [qq1, qq2, qq3, Act.put, qq4, qq5, qq6]
          refine wpT_two (i1 := 4) (i2 := 8) (by kernel_rfl) rfl rfl (fun K hK => ?_) (fun K hK => ?_)
          · skip
            refine step_append_lies _ (by rfl) _ _ _ (by rfl) w0.heap.size 3 i0 _ 1 8 Tryz.underlying24 hi hz0 hz1 hz2 rfl (by omega) u8 (k) ((ixs (l.take k)).map (Value.int .i64)) (by rfl) FT.out.ox ⟨g3, 0, none⟩ 1 1 [.int .i64 (ix)] (by rfl) (by rfl) F3.out.news (ints_oneCell .i64 [ix]) (by omega) (by unfold maxLen; omega) (by omega) FT.out.b.size uT.heap.size rfl ?_
            intro gX cX uN hown1 hgrow1 hgg hlt1
            have FT2 := Lib.hid (FT.out.appX hown1 hgrow1 hgg)
            refine hK.out _ _ ?_ (fun hHeld => ?_)
            · exact hS.out _ _ _ _ _ _ _ FT2
            clear hK K hHeld
            try simp only [qq1, qq2, qq3, Act.put, qq4, qq5, qq6]
            have hG := G3_4 g3 gX cX uN FT2
            rw [hT, ha0] at hG
            (try simp only [qq1, qq2, qq3, Act.put, qq4, qq5, qq6] at hG)
            exact hG
          · skip
            go_simp
            have FT2 := Lib.hid (FT.out.below (below_box0 uT (.cells #[.int .i64 (v)] 3)))
            refine hK.out _ _ ?_ (fun hHeld => ?_)
            · exact hS.out _ _ _ _ _ _ _ FT2
            clear hK K hHeld
            try simp only [qq1, qq2, qq3, Act.put, qq4, qq5, qq6]
            have hG := G3_8 g3 (uT.heap.size) (uT.alloc (.cells #[.int .i64 (v)] 3)) FT2 (Lib.hid (F3.out.below (below_box0 uT (.cells #[.int .i64 (v)] 3)))) (Lib.hid (PendB.new FT.out (v)))
            rw [hT, ha0] at hG
            (try simp only [qq1, qq2, qq3, Act.put, qq4, qq5, qq6] at hG)
            exact hG
        have G8 : ∀ (g8 : Nat) (uT : World), (Hid (TwoA w0 (wr.heap.size) (shO ix v) u8 (k) (ixs (l.take k)) u9 (k) (vls (l.take k)) uT)) → (Hid (PendB uT g8 (v) u8 u9)) → T 5 #[true, true, true, false, false, true, true, true, true, false, false, false] (a0.put (some 42) (.slice (some ⟨g8, 0, none⟩) 1 1)) uT := by
          intro g8 uT FT F8
          have hHeld := hS.out _ _ _ _ _ _ _ FT
          rw [hT, ha0]
          try simp only [qq1, qq2, qq3, Act.put, qq4, qq5, qq6]
          refine wpT_one (i := 3) (by kernel_rfl) rfl (fun K hK => ?_)
          go_simp
          have FT2 := Lib.hid (FT.out.below (below_box0 uT (.cells #[.int .i64 (ix)] 3)))
          refine hK.out _ _ ?_ (fun hHeld => ?_)
          · exact hS.out _ _ _ _ _ _ _ FT2
          clear hK K hHeld
          try simp only [qq1, qq2, qq3, Act.put, qq4, qq5, qq6]
          have hG := G3_8 (uT.heap.size) g8 (uT.alloc (.cells #[.int .i64 (ix)] 3)) FT2 (Lib.hid (PendB.new FT.out (ix))) (Lib.hid (F8.out.below (below_box0 uT (.cells #[.int .i64 (ix)] 3))))
          rw [hT, ha0] at hG
          (try simp only [qq1, qq2, qq3, Act.put, qq4, qq5, qq6] at hG)
          exact hG
        have G0 : ∀  (uT : World), (Hid (TwoA w0 (wr.heap.size) (shO ix v) u8 (k) (ixs (l.take k)) u9 (k) (vls (l.take k)) uT)) → T 6 #[true, true, true, false, false, true, true, true, false, false, false, false] a0 uT := by
          intro  uT FT
          have hHeld := hS.out _ _ _ _ _ _ _ FT
          rw [hT, ha0]
          try simp only [qq1, qq2, qq3, Act.put, qq4, qq5, qq6]
          refine wpT_two (i1 := 3) (i2 := 8) (by kernel_rfl) rfl rfl (fun K hK => ?_) (fun K hK => ?_)
          · skip
            go_simp
            have FT2 := Lib.hid (FT.out.below (below_box0 uT (.cells #[.int .i64 (ix)] 3)))
            refine hK.out _ _ ?_ (fun hHeld => ?_)
            · exact hS.out _ _ _ _ _ _ _ FT2
            clear hK K hHeld
            try simp only [qq1, qq2, qq3, Act.put, qq4, qq5, qq6]
            have hG := G3 (uT.heap.size) (uT.alloc (.cells #[.int .i64 (ix)] 3)) FT2 (Lib.hid (PendB.new FT.out (ix)))
            rw [hT, ha0] at hG
            (try simp only [qq1, qq2, qq3, Act.put, qq4, qq5, qq6] at hG)
            exact hG
          · skip
            go_simp
            have FT2 := Lib.hid (FT.out.below (below_box0 uT (.cells #[.int .i64 (v)] 3)))
            refine hK.out _ _ ?_ (fun hHeld => ?_)
            · exact hS.out _ _ _ _ _ _ _ FT2
            clear hK K hHeld
            try simp only [qq1, qq2, qq3, Act.put, qq4, qq5, qq6]
            have hG := G8 (uT.heap.size) (uT.alloc (.cells #[.int .i64 (v)] 3)) FT2 (Lib.hid (PendB.new FT.out (v)))
            rw [hT, ha0] at hG
            (try simp only [qq1, qq2, qq3, Act.put, qq4, qq5, qq6] at hG)
            exact hG
        exact G0 _ HTD
      | false =>
        have HF : Hid (secE P Q G (m : Int) ks l = 11) := Lib.hid (by rw [secE, HR.out, allp_hit hkl (by rw [hpx]; exact hrg)]; rfl)
        have HRG := Lib.hid hrg
        clear hrg HR hpx
        have HB_wr_1 : Hid (Below wr.heap.size wr wr) := Lib.hid (Below.refl _ _)
        obtain ⟨zc0, zc1, zc2, zc3, zc4, zc5⟩ := kC.out _ HBr
        have hq := below_box0 wr (shO ix v)
        have HB_2 := Lib.hid (below_ext HBr.out hq)
        have HB_wr_2 := Lib.hid (below_ext HB_wr_1.out hq)
        have hc : (wr.alloc (shO ix v)).cell? ⟨wr.heap.size, 0, none⟩ = some (.int .i64 ix) ∧ (wr.alloc (shO ix v)).cell? ⟨wr.heap.size, 1, none⟩ = some (.int .i64 v) := ⟨allocs_cell rfl (by rfl), allocs_cell rfl (by rfl)⟩
        have HC2 := Lib.hid hc
        have HK2 := Lib.hid (heap_alloc_new wr (shO ix v))
        clear hq
        obtain ⟨zc0x, zc1x, zc2x, zc3x, zc4x, zc5x⟩ := kC.out _ HB_2
        obtain ⟨zq0, zq1⟩ := hc
        go_wp2_with fail
        obtain ⟨w2, hw⟩ : ∃ x, (wr.alloc (shO ix v)) = x := ⟨_, rfl⟩
        rw [hw] at HC2 HK2 HB_2 HB_wr_2 ⊢
        have HSN2 : Hid (w2.heap.size = wr.heap.size + 1) := Lib.hid (by rw [← hw]; simp)
        clear zc0 zc1 zc2 zc3 zc4 zc5 zc0x zc1x zc2x zc3x zc4x zc5x zq0 zq1
        clear hw
        have HB_w2_2 : Hid (Below w2.heap.size w2 w2) := Lib.hid (Below.refl _ _)
        have kS := Lib.hid (show ∀ u : World, Hid (Below w2.heap.size w2 u) → u.cell? ⟨wr.heap.size, 0, none⟩ = some (.int .i64 ix) ∧ u.cell? ⟨wr.heap.size, 1, none⟩ = some (.int .i64 v) from fun u h => ⟨cell_below HC2.out.1 h.out, cell_below HC2.out.2 h.out⟩)
        obtain ⟨zc0, zc1, zc2, zc3, zc4, zc5⟩ := kC.out _ HB_2
        obtain ⟨kS_0, kS_1⟩ := kS.out _ HB_w2_2
        clear i0x i0v
        clear zc0 zc1 zc2 zc3 zc4 zc5 kS_0 kS_1
        obtain ⟨zc0, zc1, zc2, zc3, zc4, zc5⟩ := kC.out _ HB_2
        obtain ⟨kS_0, kS_1⟩ := kS.out _ HB_w2_2
        go_wp2_with fail
        refine (right_any P Q G (m : Int) Cs cn cc Ks ks kn kc ix v hkn n2 HVG false HRG _ (kV.out _ HB_2) (kKs.out _ HB_2)).mono ?_
        rintro e w3 ⟨rfl, hb0⟩
        have HB_3 := Lib.hid (below_ext HB_2.out hb0)
        have HB_wr_3 := Lib.hid (below_ext HB_wr_2.out hb0)
        have HB_w2_3 := Lib.hid (below_ext HB_w2_2.out hb0)
        clear zc0 zc1 zc2 zc3 zc4 zc5 kS_0 kS_1
        clear hb0
        obtain ⟨zc0, zc1, zc2, zc3, zc4, zc5⟩ := kC.out _ HB_3
        obtain ⟨kS_0, kS_1⟩ := kS.out _ HB_w2_3
        have hbF := below_ext HBw.out HB_3.out
        go_wp2
        go_ret2
        exact ⟨by rw [secV, HF.out]; rfl, hbF⟩
    · skip
      obtain rfl : k = n := by omega
      have hall : l.all (fun p => rgtB P Q G ks p.1 p.2) = true := by rw [HR.out, ← hn.out, List.drop_length]; rfl
      have hox := HOX.out
      have hoy := HOY.out
      rw [List.take_of_length_le (by rw [hn.out]; exact Nat.le_refl _)] at hox hoy
      have hixn : (ixs l).length = k := by rw [List.length_map]; exact hn.out
      have hvln : (vls l).length = k := by rw [List.length_map]; exact hn.out
      obtain ⟨AX, cX, hvX, sX, hcX⟩ := own_slc hox hixn
      obtain ⟨AY, cY, hvY, sY, hcY⟩ := own_slc hoy hvln
      subst hvX
      subst hvY
      have HSX := Lib.hid sX
      have HSY := Lib.hid sY
      have HIN := Lib.hid hixn
      have HVN := Lib.hid hvln
      have HALL := Lib.hid hall
      have HI64 : Hid (∀ j, j < k → -9223372036854775808 ≤ (ixs l).getD j 0 ∧ (ixs l).getD j 0 < 9223372036854775808) := Lib.hid (fun j hj => by rw [ixs_get (by rw [hn.out]; exact hj)]; exact hlr.out j hj)
      clear hall hox hoy hixn hvln sX sY HR HOX HOY HNXY
      have HB_wr_1 : Hid (Below wr.heap.size wr wr) := Lib.hid (Below.refl _ _)
      have kX := Lib.hid (show ∀ u : World, Hid (Below wr.heap.size wr u) → Hid (Sl u AX (ixs l)) from fun u h => Lib.hid (HSX.out.below h.out))
      have kY := Lib.hid (show ∀ u : World, Hid (Below wr.heap.size wr u) → Hid (Sl u AY (vls l)) from fun u h => Lib.hid (HSY.out.below h.out))
      obtain ⟨zc0, zc1, zc2, zc3, zc4, zc5⟩ := kC.out _ HBr
      by_cases hnt : NoTwice (ixs l)
      · skip
        have HNTW := Lib.hid hnt
        clear hnt
        go_wp2_with fail
        refine (twice_any AX (ixs l) k cX false (Lib.hid ⟨fun _ => HNTW.out, fun _ => rfl⟩) HIN (by omega) HI64 _ (kX.out _ HB_wr_1)).mono ?_
        rintro e w2 ⟨rfl, hb0⟩
        have HB_2 := Lib.hid (below_ext HBr.out hb0)
        have HB_wr_2 := Lib.hid (below_ext HB_wr_1.out hb0)
        clear zc0 zc1 zc2 zc3 zc4 zc5
        clear hb0
        obtain ⟨zc0, zc1, zc2, zc3, zc4, zc5⟩ := kC.out _ HB_2
        by_cases hfw : k < m
        · skip
          have HF : Hid (secE P Q G (m : Int) ks l = 7) := Lib.hid (by rw [secE, if_pos HALL.out]; simp [HNTW.out, hn.out]; omega)
          have df : decide ((k : Int) < (m : Int)) = true := by simp; omega
          have hbF := below_ext HBw.out HB_2.out
          go_wp2
          go_ret2
          exact ⟨by rw [secV, HF.out]; rfl, hbF⟩
        · skip
          have HF : Hid (secE P Q G (m : Int) ks l = 0) := Lib.hid (by rw [secE, if_pos HALL.out]; simp [HNTW.out, hn.out]; omega)
          have HVF : Hid (secV P Q G (m : Int) ks l = smM Q ((ixs l).take m) (vls l) m) := Lib.hid (by rw [secV, HF.out]; rfl)
          have df : decide ((k : Int) < (m : Int)) = false := by simp; omega
          have hmc : m ≤ cX := by omega
          have HTN : Hid (((ixs l).take m).length = m) := Lib.hid (by rw [List.length_take, HIN.out]; omega)
          have HTS : Hid (((ixs l).take m).all (scB Q) = true) := Lib.hid (ixs_sc HALL.out hkn.out n3)
          have HTT : Hid (NoTwice ((ixs l).take m)) := Lib.hid (noTwice_take HNTW.out)
          obtain ⟨q1, q2, q3, q4⟩ := validG_P HVG.out
          have HPQ : Hid (isP Q = true) := Lib.hid (validG_Q HVG.out)
          have kX2 := Lib.hid (show ∀ u : World, Hid (Below wr.heap.size wr u) → Hid (Sl u AX ((ixs l).take m)) from fun u h => Lib.hid ((sl_take (HSX.out.below h.out) m)))
          go_upto_region 15 with (fail)
          clear zc0 zc1 zc2 zc3 zc4 zc5
          have hBx3 := Lib.hid (show ∀ u u2 : World, Hid (Below w0.heap.size w0 u ∧ Below wr.heap.size wr u) → Below u.heap.size u u2 → Hid (Below w0.heap.size w0 u2 ∧ Below wr.heap.size wr u2) from fun u u2 h1 h2 => Lib.hid ⟨(below_ext h1.out.1 h2), (below_ext h1.out.2 h2)⟩)
          have hS3 := Lib.hid (show ∀ u : World, Hid (Below w0.heap.size w0 u ∧ Below wr.heap.size wr u) → (u.cell? ⟨w.heap.size, 0, none⟩ = some (.int .i64 P) ∧ u.cell? ⟨w.heap.size, 1, none⟩ = some (.int .i64 Q) ∧ u.cell? ⟨w.heap.size, 2, none⟩ = some (.int .i64 G) ∧ u.cell? ⟨w.heap.size + 1, 0, none⟩ = some (.int .i64 (m : Int)) ∧ u.cell? ⟨w.heap.size + 1, 1, none⟩ = some (.slice Cs cn cc) ∧ u.cell? ⟨w.heap.size + 1, 2, none⟩ = some (.slice Ks kn kc) ∧ Hid (Below w0.heap.size w0 u ∧ Below wr.heap.size wr u)) from fun u h1 => by
            obtain ⟨y0, y1, y2, y3, y4, y5⟩ := kC.out _ (Lib.hid h1.out.1)
            exact ⟨y0, y1, y2, y3, y4, y5, h1⟩)
          have HBA3 : Hid (Below w0.heap.size w0 w2 ∧ Below wr.heap.size wr w2) := Lib.hid ⟨HB_2.out, HB_wr_2.out⟩
          refine wp_region_T (S := fun w' => w'.cell? ⟨w.heap.size, 0, none⟩ = some (.int .i64 P) ∧ w'.cell? ⟨w.heap.size, 1, none⟩ = some (.int .i64 Q) ∧ w'.cell? ⟨w.heap.size, 2, none⟩ = some (.int .i64 G) ∧ w'.cell? ⟨w.heap.size + 1, 0, none⟩ = some (.int .i64 (m : Int)) ∧ w'.cell? ⟨w.heap.size + 1, 1, none⟩ = some (.slice Cs cn cc) ∧ w'.cell? ⟨w.heap.size + 1, 2, none⟩ = some (.slice Ks kn kc) ∧ Hid (Below w0.heap.size w0 w' ∧ Below wr.heap.size wr w')) (E := []) (by kernel_rfl) (hS3.out _ (hBx3.out _ _ HBA3 ((Below.refl _ _).drew))) (fun hHeld => ?_)
          refine tkV 0 ?_
          try simp only [qq1, qq2, qq3, Act.put, qq4, qq5, qq6]
          refine tkV 1 ?_
          try simp only [qq1, qq2, qq3, Act.put, qq4, qq5, qq6]
          refine tkV 2 ?_
          try simp only [qq1, qq2, qq3, Act.put, qq4, qq5, qq6]
          refine tkV 3 ?_
          try simp only [qq1, qq2, qq3, Act.put, qq4, qq5, qq6]
          refine tkV 4 ?_
          try simp only [qq1, qq2, qq3, Act.put, qq4, qq5, qq6]
          refine tkV 5 ?_
          try simp only [qq1, qq2, qq3, Act.put, qq4, qq5, qq6]
          refine wpT_one (i := 6) (by kernel_rfl) rfl (fun K hK => ?_)
          go_simp
          refine (weights_any Q AX ((ixs l).take m) m cX 0 (by omega) HPQ HTN (by omega) HTS (by omega) (by omega) hmc HTT _ (kV.out _ (Lib.hid (hHeld.2.2.2.2.2.2).out.1)) (kX2.out _ (Lib.hid (hHeld.2.2.2.2.2.2).out.2))).mono ?_
          intro e wA hW
          obtain ⟨vw, rfl, hOW, hbA⟩ := hW
          have HOW := Lib.hid hOW
          clear hOW
          refine hK.out _ _ ?_ (fun hHeld => ?_)
          · exact hS3.out _ (hBx3.out _ _ hHeld.2.2.2.2.2.2 hbA)
          clear hK K
          try simp only [qq1, qq2, qq3, Act.put, qq4, qq5, qq6]
          refine tkV 7 ?_
          try simp only [qq1, qq2, qq3, Act.put, qq4, qq5, qq6]
          refine tkV 8 ?_
          try simp only [qq1, qq2, qq3, Act.put, qq4, qq5, qq6]
          refine tkV 9 ?_
          try simp only [qq1, qq2, qq3, Act.put, qq4, qq5, qq6]
          refine tkV 10 ?_
          try simp only [qq1, qq2, qq3, Act.put, qq4, qq5, qq6]
          refine tkV 11 ?_
          try simp only [qq1, qq2, qq3, Act.put, qq4, qq5, qq6]
          refine wpT_done (by kernel_rfl) ?_ _
          obtain ⟨x0, x1, x2, x3, x4, x5, FB3⟩ := hHeld
          clear x0 x1 x2 x3 x4 x5 hS3 hBx3 HBA3
          have HL3_w0 := Lib.hid FB3.out.1
          have HL3_wr := Lib.hid FB3.out.2
          obtain ⟨zc0, zc1, zc2, zc3, zc4, zc5⟩ := kC.out _ HL3_w0
          have hO9 := HOW.out
          unfold OwnL at hO9
          rw [wtL_length] at hO9
          obtain ⟨AW, cW, hvw, sW, hcW⟩ := own_slc hO9 (wtL_length _ _ _ _)
          subst hvw
          have HSW := Lib.hid sW
          clear hO9 sW HOW
          clear zc0 zc1 zc2 zc3 zc4 zc5
          have HB_wA_3 : Hid (Below wA.heap.size wA wA) := Lib.hid (Below.refl _ _)
          have kW := Lib.hid (show ∀ u : World, Hid (Below wA.heap.size wA u) → Hid (Sl u AW (wtL Q ((ixs l).take m) 0 m)) from fun u h => Lib.hid (HSW.out.below h.out))
          obtain ⟨zc0, zc1, zc2, zc3, zc4, zc5⟩ := kC.out _ HL3_w0
          go_wp2
          clear zc0 zc1 zc2 zc3 zc4 zc5
          go_loopw [14, 69] (fun a i wz => ∃ j : Nat, j ≤ m ∧ i = .int .i64 j ∧ a = .int .i64 (smM Q ((ixs l).take m) (vls l) j) ∧ Hid (Below wA.heap.size wA wz)) (fun _ i _ => m - (intOf i).toNat)
          case atStart => exact ⟨0, by omega, rfl, rfl, Lib.hid (Below.refl _ _)⟩
          case round =>
            obtain ⟨j, hj, rfl, rfl, HBz⟩ := hrel
            have HZ_w0 := Lib.hid (below_ext HL3_w0.out HBz.out)
            have HZ_wr := Lib.hid (below_ext HL3_wr.out HBz.out)
            have hsb := smM_bounds (Q := Q) (by omega) ((ixs l).take m) (vls l) j
            by_cases hltj : j < m
            · skip
              have hkl : j < l.length := by have := hn.out; omega
              obtain ⟨b1, o1, hA1, i1⟩ := (kW.out _ HBz).out j (by rw [wtL_length]; exact hltj)
              obtain ⟨b2, o2, hA2, i2⟩ := (kY.out _ HZ_wr).out j (by rw [HVN.out]; omega)
              subst hA1
              subst hA2
              rw [wtL_get _ _ _ _ _ hltj] at i1
              have ss : smM Q ((ixs l).take m) (vls l) (j + 1) = (smM Q ((ixs l).take m) (vls l) j + wtI Q ((ixs l).take m) 0 j * (vls l).getD j 0 % Q) % Q := rfl
              obtain ⟨x0, x1⟩ := wtI_bounds (q := Q) (by omega) ((ixs l).take m) 0 j
              have hyb := vls_sc HALL.out hkl
              obtain ⟨x, hx⟩ : ∃ x, wtI Q ((ixs l).take m) 0 j = x := ⟨_, rfl⟩
              obtain ⟨y, hy⟩ : ∃ x, (vls l).getD j 0 = x := ⟨_, rfl⟩
              obtain ⟨s9, hs9⟩ : ∃ x, smM Q ((ixs l).take m) (vls l) j = x := ⟨_, rfl⟩
              rw [hx] at i1 x0 x1 ss
              rw [hy] at i2 ss hyb
              rw [hs9] at ss hsb ⊢
              obtain ⟨p, hp⟩ : ∃ z, x * y % Q = z := ⟨_, rfl⟩
              obtain ⟨t9, ht9⟩ : ∃ z, (s9 + p) % Q = z := ⟨_, rfl⟩
              rw [hp, ht9] at ss
              have p0 : 0 ≤ p := by rw [← hp]; exact Int.emod_nonneg _ (by omega)
              have p1 : p < Q := by rw [← hp]; exact Int.emod_lt_of_pos _ (by omega)
              obtain ⟨s0, s1⟩ := hsb
              have y0 := scB_lo hyb
              have y1 := scB_hi hyb
              have SS := Lib.hid ss
              have HP := Lib.hid hp
              have HT9 := Lib.hid ht9
              clear ss hx hy hs9 hp ht9 hkl hyb
              obtain ⟨zc0, zc1, zc2, zc3, zc4, zc5⟩ := kC.out _ HZ_w0
              go_wp2
              go_quiet ((go_at_call 52; exact Calls.quiet_of (wmul_eq x y Q p HP (by omega) x0 x1 y0 y1 _)))
              go_wp2_with fail
              refine (wadd_eq s9 p Q t9 HT9 (by omega) s0 s1 p0 p1 _).mono ?_
              rintro e9 w9 ⟨rfl, rfl⟩
              have HB2 := Lib.hid (below_drawN HBz.out nq)
              go_wp2
              go_roundw
              case rel => exact ⟨j + 1, by omega, by go_num, by rw [SS.out], HB2⟩
              case measure => simp [intOf]; omega
            · skip
              obtain rfl : j = m := by omega
              obtain ⟨zc0, zc1, zc2, zc3, zc4, zc5⟩ := kC.out _ HZ_w0
              have hbF := below_ext HBw.out HZ_w0.out
              go_wp2
              go_ret2
              exact ⟨by rw [HVF.out, HF.out]; rfl, hbF⟩
      · skip
        have HF : Hid (secE P Q G (m : Int) ks l = 8) := Lib.hid (by rw [secE, if_pos HALL.out]; simp [hnt])
        have HNTW := Lib.hid hnt
        clear hnt
        go_wp2_with fail
        refine (twice_any AX (ixs l) k cX true (Lib.hid ⟨fun h => (by cases h), fun h => absurd h HNTW.out⟩) HIN (by omega) HI64 _ (kX.out _ HB_wr_1)).mono ?_
        rintro e w2 ⟨rfl, hb0⟩
        have HB_2 := Lib.hid (below_ext HBr.out hb0)
        have HB_wr_2 := Lib.hid (below_ext HB_wr_1.out hb0)
        clear zc0 zc1 zc2 zc3 zc4 zc5
        clear hb0
        obtain ⟨zc0, zc1, zc2, zc3, zc4, zc5⟩ := kC.out _ HB_2
        have hbF := below_ext HBw.out HB_2.out
        go_wp2
        go_ret2
        exact ⟨by rw [secV, HF.out]; rfl, hbF⟩
end Go.Proofs.YtjnoaejikapmdaaGreatDoor
namespace Go.Proofs.YtjnoaejikapmdaaGreatDoor
open Go.RowKit SpM
def mkM (P Q : Int) (vs ws : Nat → Int) : Nat → Int
  | 0 => 1
  | m + 1 => mkM P Q vs ws m * pw (vs m) (ws m % Q) P % P
def rkM (P Q E : Int) (vs ws : Nat → Int) : Nat → Int
  | 0 => E
  | m + 1 => rkM P Q E vs ws m * pw (vs m) ((0 - ws m) % Q) P % P
theorem pw_unit {P Q v a : Int} (hP : 2 ≤ P) (hQ : 1 ≤ Q) (hv : pw v Q P = 1) : Cg P (pw v ((0 - a) % Q) P * pw v (a % Q) P) 1 := by
  have h1 : 0 ≤ (0 - a) % Q := Int.emod_nonneg _ (by omega)
  have h2 : 0 ≤ a % Q := Int.emod_nonneg _ (by omega)
  refine (Cg.mod P _).symm.trans (Cg.of_eq ?_)
  rw [← pw_add _ _ _ _ h1 h2, pw_mod hP hQ (by omega) hv]
  rw [show ((0 - a) % Q + a % Q) % Q = 0 by rw [← Int.add_emod, show 0 - a + a = 0 by omega, Int.zero_emod]]
  exact pw_zero _ _ hP
theorem rk_mk {P Q E : Int} {vs ws : Nat → Int} (hP : 2 ≤ P) (hQ : 1 ≤ Q) : ∀ n, (∀ k, k < n → pw (vs k) Q P = 1) → Cg P (rkM P Q E vs ws n * mkM P Q vs ws n) E
  | 0, _ => Cg.of_eq (by rw [rkM, mkM, Int.mul_one])
  | n + 1, h => by
    have ih := rk_mk (E := E) (vs := vs) (ws := ws) hP hQ n fun k hk => h k (by omega)
    have hu := pw_unit (a := ws n) hP hQ (h n (by omega))
    have h1 : Cg P (rkM P Q E vs ws (n + 1)) (rkM P Q E vs ws n * pw (vs n) ((0 - ws n) % Q) P) := Cg.mod _ _
    have h2 : Cg P (mkM P Q vs ws (n + 1)) (mkM P Q vs ws n * pw (vs n) (ws n % Q) P) := Cg.mod _ _
    exact (h1.mul h2).trans ((Cg.of_eq (by grind)).trans ((ih.mul hu).trans (Cg.of_eq (by grind))))
theorem rkM_bounds {P Q E : Int} {vs ws : Nat → Int} (hP : 2 ≤ P) (h0 : 0 ≤ E) (h1 : E < P) : ∀ n, 0 ≤ rkM P Q E vs ws n ∧ rkM P Q E vs ws n < P
  | 0 => ⟨h0, h1⟩
  | n + 1 => ⟨Int.emod_nonneg _ (by omega), Int.emod_lt_of_pos _ (by omega)⟩
theorem mkM_mem {P Q : Int} {vs ws : Nat → Int} (hP : 2 ≤ P) (hQ : 1 ≤ Q) : ∀ n, (∀ k, k < n → memG P Q (vs k) = true) → memG P Q (mkM P Q vs ws n) = true
  | 0, _ => mem_one hP
  | n + 1, h => mem_mul hP hQ (mkM_mem hP hQ n fun k hk => h k (by omega)) (mem_pw hP hQ (Int.emod_nonneg _ (by omega)) (h n (by omega)))
theorem combine_law {P Q E x : Int} {vs ws : Nat → Int} {n : Nat} (hP : 2 ≤ P) (hQ : 1 ≤ Q) (h0 : 0 ≤ E) (h1 : E < P) (hv : ∀ k, k < n → pw (vs k) Q P = 1) (hx : x * mkM P Q vs ws n % P = 1) :
    E * x % P = rkM P Q E vs ws n := by
  have h := rk_mk (E := E) (ws := ws) hP hQ n hv
  have hx' : Cg P (x * mkM P Q vs ws n) 1 := (Cg.mod P _).symm.trans (Cg.of_eq hx)
  have h2 : Cg P (E * x) (rkM P Q E vs ws n) := (h.symm.mul (Cg.refl P x)).trans ((Cg.of_eq (by grind)).trans (((Cg.refl P (rkM P Q E vs ws n)).mul hx').trans (Cg.of_eq (Int.mul_one _))))
  have hb := rkM_bounds (E := E) (vs := vs) (ws := ws) (Q := Q) hP h0 h1 n
  rw [h2.eq, Int.emod_eq_of_lt hb.1 hb.2]
end Go.Proofs.YtjnoaejikapmdaaGreatDoor
namespace Go.Proofs.YtjnoaejikapmdaaGreatDoor
open Go.RowKit SpM
set_option linter.unusedVariables false
set_option linter.unusedSimpArgs false
set_option maxRecDepth 100000
theorem own_setRow {w : World} {p : Addr} {v : Value} {a : Nat} {cs : Array Value} (h : Own w p v) (hne : p.block ≠ a) : Own (w.setRow a cs) p v := by
  have hb := setRow_other w a p.block cs hne
  exact ⟨(World.cell?_of_block hb).trans h.1, by
    have h2 := h.2
    simp only [World.frozen?] at h2 ⊢
    rw [hb]
    exact h2⟩
def okL (l : List Int) : Prop := l.length ≤ 1000 ∧ ∀ x ∈ l, -9223372036854775808 ≤ x ∧ x < 9223372036854775808
theorem okL.fits {l : List Int} (h : okL l) : Hid (fits 7 (.lst (l.map .int))) := Lib.hid (by
  refine ⟨by rw [List.length_map]; exact h.1, fun x hx => ?_⟩
  obtain ⟨y, hy, rfl⟩ := List.mem_map.1 hx
  exact h.2 y hy)
theorem encL_ints (l : List Int) : (encL (l.map .int)).length = 9 * l.length := by
  induction l with
  | nil => rfl
  | cons x l ih => rw [List.map_cons, encL, List.length_append, ih, enc_int, List.length_cons, be8_len, List.length_cons]; omega
theorem okL.len {l : List Int} (h : okL l) : Hid ((enc (.lst (l.map .int))).length ≤ 14000) := Lib.hid (by
  rw [enc_lst, List.length_cons, List.length_append, be4_len, encL_ints]
  have := h.1
  omega)
def absL (h s l : List Int) : List Int := abL h s (.lst (l.map .int))
theorem absL_len (h s l : List Int) : (absL h s l).length = 32 := abL_len _ _ _
theorem absL_bytes (h s l : List Int) : bytesB (absL h s l) = true := sha_bytes _
theorem absorb_no (A : Option Addr) (n cA : Nat) (s : ByteArray) (a e0 : Nat) (x : Int) (hx : (x == 0) = false) (w : World) (hE : Hid (Own w ⟨e0, 0, none⟩ (.int .i64 x))) :
    Calls Tryz.prog 270 #[.string s, .slice A n cA, .pointer (some ⟨e0, 0, none⟩), .pointer (some ⟨a, 0, none⟩)] w fun e w' => (∃ v, e = .returned v) ∧ w' = w := by
  obtain ⟨hc, hf⟩ := hE.out
  go_enter Tryz.func270, Tryz.ntmps270
  go_wp2
  go_end0
  exact ⟨⟨_, rfl⟩, rfl⟩
set_option maxHeartbeats 3200000 in
theorem absorb_ok (h : List Int) (hl : Hid (h.length = 32)) (hb : Hid (bytesB h = true)) (c : Int) (hc0 : 0 ≤ c) (hc1 : c < 1000) (s : ByteArray) (hs : s.size ≤ 1000) (hr : Hid (labB (bys s) = true)) (A : Option Addr) (l : List Int) (n cA : Nat) (hn : Hid (l.length = n)) (hok : Hid (okL l)) (a e0 B : Nat) (w : World) (hv : Hid (VarsD w)) (hS : Hid (Sl w A l))
    (hT : Hid (TBlk w a h c)) (hE : Hid (Own w ⟨e0, 0, none⟩ (.int .i64 0))) (hne : e0 ≠ a) (hBa : B ≤ a) (hBe : B ≤ e0) :
    Calls Tryz.prog 270 #[.string s, .slice A n cA, .pointer (some ⟨e0, 0, none⟩), .pointer (some ⟨a, 0, none⟩)] w fun e w' => (∃ v, e = .returned v) ∧ TBlk w' a (absL h (bys s) l) (c + 1) ∧ Own w' ⟨e0, 0, none⟩ (.int .i64 0) ∧ Below B w w' := by
  have hbig : n ≤ 1000 := by rw [← hn.out]; exact hok.out.1
  have HF := hok.out.fits
  have HLN := hok.out.len
  obtain ⟨hc, hf⟩ := hE.out
  have HBS : Hid (B ≤ w.heap.size) := Lib.hid (by have := hT.out.lt; omega)
  go_enter Tryz.func270, Tryz.ntmps270
  go_wp2_with ((with_reducible show wpList _ _ _ (⟨some 9, _, _, _, _, _⟩ :: _) _ _); refine wpList_load_row rfl 204 _ rfl a rfl _ _ _ _ hT.out Tryz.underlying204 rfl (tr_info hl.out) ?_)
  refine (tints_ok h hl hb c hc0 hc1 s hs hr A l n cA hn hbig _ hv hS HF HLN).mono ?_
  rintro e w1 ⟨rfl, hb1⟩
  have HT1 := Lib.hid (hT.out.below hb1)
  have HE1 := Lib.hid (hE.out.below hb1)
  have HB1 : Hid (Below B w w1) := Lib.hid (hb1.mono HBS.out)
  obtain ⟨R, hR⟩ : ∃ R, abL h (bys s) (.lst (l.map .int)) = R := ⟨_, rfl⟩
  have hRl : R.length = 32 := by rw [← hR]; exact abL_len _ _ _
  have HN : Kp (absL h (bys s) l = R) := ⟨hR⟩
  have HRL := Lib.hid hRl
  rw [hR, show TrE R (c + 1) 0 = .tuple #[.agg (tcs R (c + 1)), .int .i64 0] from rfl]
  have HE2 := Lib.hid (own_setRow (cs := tcs R (c + 1)) HE1.out (show (⟨e0, 0, none⟩ : Addr).block ≠ a from hne))
  clear hb1 hc hf hR hRl
  obtain ⟨q1, q2⟩ := HE2.out
  go_wp2_with ((with_reducible show wpList _ _ _ (⟨none, _, _, _, _, _⟩ :: _) _ _); refine wpList_store_row rfl 204 _ _ rfl a (tcs R (c + 1)) rfl rfl _ _ HT1.out (tr_info HRL.out) (tcs_sz hl.out HRL.out) (tcs_one _ _) ?_)
  have HT2 : Hid (TBlk (w1.setRow a (tcs R (c + 1))) a R (c + 1)) := Lib.hid HT1.out.setRow
  have hT3 : TBlk ((w1.setRow a (tcs R (c + 1))).setCell ⟨e0, 0, none⟩ (.int .i64 0)) a R (c + 1) := (heap_setCell_other _ _ _ _ (Ne.symm hne)).trans HT2.out
  have hE3 := own_set_eq2 (u := .int .i64 0) HE2.out
  have hB3 : Below B w ((w1.setRow a (tcs R (c + 1))).setCell ⟨e0, 0, none⟩ (.int .i64 0)) := (below_setRow' HB1.out hBa).setCell hBe _
  go_end0
  exact ⟨⟨_, rfl⟩, by rw [HN.out]; exact hT3, hE3, hB3⟩
end Go.Proofs.YtjnoaejikapmdaaGreatDoor
