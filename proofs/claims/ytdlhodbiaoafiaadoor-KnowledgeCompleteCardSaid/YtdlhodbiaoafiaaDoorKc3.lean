/- Contracts and lemmas: TrA, RdgC, RdgE, DigG, TrB, TrC, TrD, TrE, TrF, TrG, DrA, OpD, DrB, DrC, DrD, LinD, LinF, DrE, Dnx, LcA, LcB, LinK, LinO, LinP, LinQ, LcC, LpA, PvK, LcD, KcA. -/
import Derived.Laws.AppendOwnNone
import Derived.Deep.MidRow
import Derived.Test.YtdlhodbiaoafiaaDoorShelf
import Derived.Deep.RegionHeld3
import Derived.Deep.AppendLies
import Derived.Test.YtdlhodbiaoafiaaDoorKc2
namespace Go.Proofs.YtdlhodbiaoafiaaDoor
open Go.RowKit SpM
set_option linter.unusedVariables false
set_option linter.unusedSimpArgs false
set_option maxRecDepth 100000
/-- a byte that no label has. -/
def badc (x : Int) : Bool := decide (x < 33) || decide (126 < x)
/-- which texts are labels. -/
def labB (l : List Int) : Bool := decide (1 ≤ l.length) && decide (l.length ≤ 24) && !(l.any badc)
theorem badc_any (x : Int) (w : World) : Calls Tryd.prog 157 #[.int .u8 x] w fun e w' => e = .returned (.bool (badc x)) ∧ w = w' := by
  by_cases h1 : x < 33
  · have e : badc x = true := by simp [badc, h1]
    have d1 : decide (x < 33) = true := by simp [h1]
    rw [e]
    clear e
    go_enter Tryd.func157, Tryd.ntmps157
    go_wp2
    go_ret
    exact ⟨rfl, rfl⟩
  · have d1 : decide (x < 33) = false := by simp [h1]
    have e : badc x = decide (126 < x) := by simp [badc, h1]
    rw [e]
    clear e
    go_enter Tryd.func157, Tryd.ntmps157
    go_wp2
    go_ret
    exact ⟨rfl, rfl⟩
set_option maxHeartbeats 1600000 in
theorem idx_lab (A : Option Addr) (xs : List Int) (n c : Nat) (hn : Hid (xs.length = n)) (hbig : n ≤ 100000) (w : World) (hs : Hid (Sk .u8 w A xs)) :
    Calls Tryd.prog 180 #[.slice A n c, .func (.func 157) #[] #[]] w (IdxOut badc xs w) := by
  go_enter Tryd.func180, Tryd.ntmps180
  go_wp2
  go_loopw [8] (fun i wr => ∃ k : Nat, k ≤ n ∧ i = .int .i64 k ∧ Hid (xs.any badc = (xs.drop k).any badc) ∧ Hid (Below w.heap.size w wr)) (fun i _ => n - (intOf i).toNat)
  case atStart => exact ⟨0, by omega, rfl, Lib.hid rfl, Lib.hid (Below.refl _ _)⟩
  case round =>
    obtain ⟨k, hk, rfl, HR, HBr⟩ := hrel
    by_cases hlt : k < n
    · have hkl : k < xs.length := by rw [hn.out]; exact hlt
      obtain ⟨b, o, hA, hi⟩ := (hs.out.below HBr.out) k hkl
      subst hA
      cases hpx : badc (xs.getD k 0) with
      | false =>
        have HN : Hid (xs.any badc = (xs.drop (k + 1)).any badc) := Lib.hid (HR.out.trans (any_drop_step hkl hpx))
        obtain ⟨x, hx⟩ : ∃ x, xs.getD k 0 = x := ⟨_, rfl⟩
        rw [hx] at hi hpx
        have HPX := Lib.hid hpx
        clear hx hkl hpx HR
        go_wp2_with fail
        refine (badc_any x _).mono ?_
        rintro e w2 ⟨rfl, rfl⟩
        rw [HPX.out]
        go_wp2
        go_roundw
        case rel => exact ⟨k + 1, by omega, by go_num, HN, HBr⟩
        case measure => simp [intOf]; omega
      | true =>
        have HN : Hid (xs.any badc = true) := Lib.hid (HR.out.trans (any_drop_hit hkl hpx))
        obtain ⟨x, hx⟩ : ∃ x, xs.getD k 0 = x := ⟨_, rfl⟩
        rw [hx] at hi hpx
        have HPX := Lib.hid hpx
        clear hx hkl hpx HR
        go_wp2_with fail
        refine (badc_any x _).mono ?_
        rintro e w2 ⟨rfl, rfl⟩
        rw [HPX.out]
        go_wp2
        go_ret
        exact ⟨_, rfl, by rw [HN.out]; simp, HBr.out⟩
    · have HN : Hid (xs.any badc = false) := Lib.hid (by
        have h := HR.out
        rwa [List.drop_of_length_le (by have := hn.out; omega)] at h)
      clear HR
      go_wp2
      go_ret
      exact ⟨_, rfl, by rw [HN.out]; rfl, HBr.out⟩
theorem cf_lab (A : Option Addr) (xs : List Int) (n c : Nat) (r : Bool) (hr : Hid (xs.any badc = r)) (hn : Hid (xs.length = n)) (hbig : n ≤ 100000) (w : World) (hs : Hid (Sk .u8 w A xs)) :
    Calls Tryd.prog 156 #[.slice A n c, .func (.func 157) #[] #[]] w fun e w' => e = .returned (.bool r) ∧ Below w.heap.size w w' := by
  go_enter Tryd.func156, Tryd.ntmps156
  go_wp2_with fail
  refine (idx_lab A xs n c hn hbig _ hs).mono ?_
  rintro e w' ⟨i, rfl, hdi, hb0⟩
  have HD : Hid (decide (0 ≤ i) = r) := Lib.hid (hdi.trans hr.out)
  clear hdi
  go_wp2
  go_ret
  exact ⟨by first | rfl | (rw [← HD.out]; rfl), hb0⟩
set_option maxHeartbeats 1600000 in
theorem tlabel_any (s : ByteArray) (hs : s.size ≤ 1000) (r : Bool) (hr : Hid (labB (bys s) = r)) (w : World) :
    Calls Tryd.prog 131 #[.string s] w fun e w' => e = .returned (.bool r) ∧ Below w.heap.size w w' := by
  by_cases h1 : s.size < 1
  · have e : r = false := by rw [← hr.out, labB, bys_len, decide_eq_false (by omega)]; rfl
    have d1 : decide ((1 : Int) ≤ (s.size : Int)) = false := by simp; omega
    subst e
    clear hr
    go_enter Tryd.func131, Tryd.ntmps131
    go_wp2
    go_ret
    exact ⟨rfl, Below.refl _ _⟩
  · have d1 : decide ((1 : Int) ≤ (s.size : Int)) = true := by simp; omega
    by_cases h2 : 24 < s.size
    · have e : r = false := by rw [← hr.out, labB, bys_len, decide_eq_false (show ¬ s.size ≤ 24 by omega)]; simp
      have d2 : decide ((s.size : Int) ≤ 24) = false := by simp; omega
      subst e
      clear hr
      go_enter Tryd.func131, Tryd.ntmps131
      go_wp2
      go_ret
      exact ⟨rfl, Below.refl _ _⟩
    · have d2 : decide ((s.size : Int) ≤ 24) = true := by simp; omega
      obtain ⟨q, hq⟩ : ∃ q, (bys s).any badc = q := ⟨_, rfl⟩
      have e : r = !q := by rw [← hr.out, labB, bys_len, decide_eq_true (by omega), decide_eq_true (by omega), hq]; rfl
      subst e
      have HQ := Lib.hid hq
      have hcv := fun w => run_bytes_of_string (P := Tryd.prog) w 9 92 5 s Tryd.underlying9 Tryd.underlying92 Tryd.underlying5
      clear hr hq
      go_enter Tryd.func131, Tryd.ntmps131
      go_wp2_with fail
      clear hcv
      obtain ⟨Wc, hWc⟩ : ∃ u, (w.alloc (.cells (bytesRow s (grownCap w s.size 0 5)) 5 ((bytesRow s (grownCap w s.size 0 5)).size, (bytesRow s (grownCap w s.size 0 5)).size + 1))).drew = u := ⟨_, rfl⟩
      have HBc : Hid (Below w.heap.size w Wc) := Lib.hid (by rw [← hWc]; exact (below_box0 _ _).drew)
      have HSc : Hid (Sk .u8 Wc (some ⟨w.heap.size, 0, none⟩) (bys s)) := Lib.hid (by
        rw [← hWc]
        exact bys_sk (heap_alloc_new w _))
      obtain ⟨gc, hgc⟩ : ∃ g, grownCap w s.size 0 5 = g := ⟨_, rfl⟩
      rw [hWc, hgc]
      clear hWc hgc
      refine (cf_lab (some ⟨w.heap.size, 0, none⟩) (bys s) s.size gc q HQ (Lib.hid (bys_len s)) (by omega) _ HSc).mono ?_
      rintro e w2 ⟨rfl, hb2⟩
      have hbf := below_ext HBc.out hb2
      clear hb2
      go_wp2
      go_ret
      exact ⟨by first | rfl | simp, hbf⟩
theorem bys_get {s : ByteArray} {k : Nat} (h : k < s.size) : (bys s).getD k 0 = ((s[k]'h).toNat : Int) := by
  have h2 : k < s.data.toList.length := by simpa using h
  rw [bys, List.getD_eq_getElem?_getD, List.getElem?_map, List.getElem?_eq_getElem h2]
  rfl
set_option maxHeartbeats 1600000 in
theorem rlabel_any (s : ByteArray) (hs : s.size ≤ 1000) (r : Bool) (hr : Hid (labB (bys s) = r)) (w : World) :
    Calls Tryd.prog 43 #[.string s] w fun e w' => e = .returned (.bool r) ∧ w = w' := by
  by_cases h1 : s.size < 1
  · have e : r = false := by rw [← hr.out, labB, bys_len, decide_eq_false (by omega)]; rfl
    have d1 : decide ((s.size : Int) < 1) = true := by simp; omega
    subst e
    clear hr
    go_enter Tryd.func43, Tryd.ntmps43
    go_wp2
    go_ret
    exact ⟨rfl, rfl⟩
  · have d1 : decide ((s.size : Int) < 1) = false := by simp; omega
    by_cases h2 : 24 < s.size
    · have e : r = false := by rw [← hr.out, labB, bys_len, decide_eq_false (show ¬ s.size ≤ 24 by omega)]; simp
      have d2 : decide ((24 : Int) < (s.size : Int)) = true := by simp; omega
      subst e
      clear hr
      go_enter Tryd.func43, Tryd.ntmps43
      go_wp2
      go_ret
      exact ⟨rfl, rfl⟩
    · have d2 : decide ((24 : Int) < (s.size : Int)) = false := by simp; omega
      have HE : Hid (r = !((bys s).any badc)) := Lib.hid (by rw [← hr.out, labB, bys_len, decide_eq_true (by omega), decide_eq_true (by omega)]; rfl)
      clear hr
      go_enter Tryd.func43, Tryd.ntmps43
      go_wp2
      go_loop [3] (fun i => ∃ k : Nat, k ≤ s.size ∧ i = .int .i64 k ∧ Hid ((bys s).any badc = ((bys s).drop k).any badc)) (fun i => s.size - (intOf i).toNat)
      case atStart => exact ⟨0, by omega, rfl, Lib.hid rfl⟩
      case round =>
        obtain ⟨k, hk, rfl, HR⟩ := hrel
        by_cases hlt : k < s.size
        · have hkl : k < (bys s).length := by rw [bys_len]; exact hlt
          have hg := bys_get hlt
          by_cases t1 : ((s[k]'hlt).toNat : Int) < 33
          · have hN : (bys s).any badc = true := HR.out.trans (any_drop_hit hkl (by rw [hg]; simp [badc, t1]))
            have e : r = false := by rw [HE.out, hN]; rfl
            have d3 : decide (((s[k]'hlt).toNat : Int) < 33) = true := by simp [t1]
            subst e
            clear hN hg hkl HR HE
            go_wp2
            go_ret
            exact ⟨rfl, rfl⟩
          · have d3 : decide (((s[k]'hlt).toNat : Int) < 33) = false := by simp [t1]
            by_cases t2 : (126 : Int) < ((s[k]'hlt).toNat : Int)
            · have hN : (bys s).any badc = true := HR.out.trans (any_drop_hit hkl (by rw [hg]; simp [badc, t1, t2]))
              have e : r = false := by rw [HE.out, hN]; rfl
              have d4 : decide ((126 : Int) < ((s[k]'hlt).toNat : Int)) = true := by simp [t2]
              subst e
              clear hN hg hkl HR HE
              go_wp2
              go_ret
              exact ⟨rfl, rfl⟩
            · have HN : Hid ((bys s).any badc = ((bys s).drop (k + 1)).any badc) := Lib.hid (HR.out.trans (any_drop_step hkl (by rw [hg]; simp [badc, t1, t2])))
              have d4 : decide ((126 : Int) < ((s[k]'hlt).toNat : Int)) = false := by simp [t2]
              clear hg hkl HR
              go_wp2
              go_round
              case rel => exact ⟨k + 1, by omega, by go_num, HN⟩
              case measure => simp [intOf]; omega
        · have e : r = true := by
            rw [HE.out, HR.out, List.drop_of_length_le (by rw [bys_len]; omega)]; rfl
          subst e
          clear HR HE
          go_wp2
          go_ret
          exact ⟨rfl, rfl⟩
end Go.Proofs.YtdlhodbiaoafiaaDoor
namespace Go.Proofs.YtdlhodbiaoafiaaDoor
open Go.RowKit SpM
set_option linter.unusedVariables false
set_option linter.unusedSimpArgs false
set_option maxRecDepth 100000
theorem Sk.set_ne {K : IntKind} {w : World} {a j : Nat} {A : Option Addr} {l : List Int} {v : Value} (h : Sk K w A l) (hne : ∀ b o, A = some ⟨b, o, none⟩ → b ≠ a) : Sk K (w.setCell ⟨a, j, none⟩ v) A l := fun i hi => by
  obtain ⟨b, o, e, hc⟩ := h i hi
  refine ⟨b, o, e, ?_⟩
  rw [World.cell?_setCell_other _ _ _ _ (fun e2 => hne b o e (by cases e2; rfl))]
  exact hc
end Go.Proofs.YtdlhodbiaoafiaaDoor
namespace Go.Proofs.YtdlhodbiaoafiaaDoor
open Go.RowKit SpM
set_option linter.unusedVariables false
set_option linter.unusedSimpArgs false
set_option maxRecDepth 100000
theorem yields_row {P : Program} {S : World → Prop} {o : Oper} {a : Act} (ty : TypeId) (x : Operand) (ho : o.op = .load ty x)
    (g : Nat) (hx : a.eval x = .pointer (some ⟨g, 0, none⟩)) (t : TypeId) (cs : Array Value) (fr : Nat × Nat) (d : TypeDesc) (hg : ∀ w, S w → w.heap[g]? = some (.cells cs t fr))
    (hu : P.underlying ty = some d) (hd : (match d with | .struct _ | .array _ _ => true | _ => false) = true) (hi : (P.info? ty).map (·.size) = some cs.size) :
    ∀ w, S w → (execOp a.eval o).run P w = .ok (.value (.agg cs)) w := fun w hw => by
  unfold execOp
  simp only [ho, hx, Instr.loadAt, Instr.sureAddr, Sem.run_bind, Sem.run_pure, Result.andThen_ok, run_loadVar_row w g t ty cs fr d (hg w hw) hu hd hi]
end Go.Proofs.YtdlhodbiaoafiaaDoor
namespace Go.Proofs.YtdlhodbiaoafiaaDoor
open Go.RowKit SpM
set_option linter.unusedVariables false
set_option linter.unusedSimpArgs false
set_option maxRecDepth 100000
/-- the number of the first k bytes. -/
def numL (m : Int) (h : List Int) : Nat → Int
  | 0 => 0
  | k + 1 => (numL m h k * 256 + h.getD k 0) % m
def numv (m : Int) (h : List Int) : Int := numL m h 16
theorem numL_lo {m : Int} {h : List Int} (hm : 1 ≤ m) (k : Nat) : 0 ≤ numL m h k ∧ numL m h k < m := by
  cases k with
  | zero => exact ⟨Int.le_refl _, by simp [numL]; omega⟩
  | succ k => exact ⟨Int.emod_nonneg _ (by omega), Int.emod_lt_of_pos _ (by omega)⟩
theorem dbl_step {acc m a : Int} {j : Nat} (h : acc * 2 ^ j % m = a) : acc * 2 ^ (j + 1) % m = (a + a) % m := by
  rw [← h, Int.pow_succ, ← Int.mul_assoc, Int.mul_comm _ 2, Int.add_emod_emod, Int.emod_add_emod]
  congr 1
  omega
theorem num_step {acc m a c : Int} (h : acc * 2 ^ 8 % m = a) : (a + c % m) % m = (acc * 256 + c) % m := by
  rw [← h, Int.add_emod_emod, Int.emod_add_emod]
  rfl
set_option maxHeartbeats 1600000 in
theorem number_any (h : List Int) (hh : Hid (h.length = 32)) (hb : Hid (bytesB h = true)) (m : Int) (h1 : 1 ≤ m) (h2 : m < 2305843009213693952) (w : World) :
    Calls Tryd.prog 164 #[.agg (arr .u8 h), .int .i64 m] w fun e w' => e = .returned (.tuple #[.int .i64 (numv m h), .int .i64 0]) ∧ Below w.heap.size w w' := by
  obtain ⟨W, hW⟩ : ∃ W, w.alloc (.cells (arr .u8 h) 43) = W := ⟨_, rfl⟩
  have HBX : Hid (Below w.heap.size w W) := Lib.hid (by rw [← hW]; exact below_box0 _ _)
  have HR0 : Hid (Blk .u8 43 W w.heap.size h) := Lib.hid (by rw [← hW]; exact Blk.new _ _)
  have HW := Lib.hid hW
  clear hW
  have hm0 : ((m : Int) == 0) = false := by simp; omega
  have hm1 : ¬ m < 1 := by omega
  have hm2 : ¬ 2305843009213693952 ≤ m := by omega
  go_enter Tryd.func164, Tryd.ntmps164
  go_wp2
  rw [HW.out]
  go_loopw [6, 17] (fun p i u => ∃ (k : Nat) (acc : Int), k ≤ 16 ∧ i = .int .i64 k ∧ p = .int .i64 acc ∧ Hid (numL m h k = acc) ∧ Hid (Below W.heap.size W u)) (fun _ i _ => 16 - (intOf i).toNat)
  case atStart => exact ⟨0, 0, by omega, rfl, rfl, Lib.hid rfl, Lib.hid (Below.refl _ _)⟩
  case round =>
    obtain ⟨k, acc, hk, rfl, rfl, HN, HBr⟩ := hrel
    have ha := numL_lo (m := m) (h := h) h1 k
    rw [HN.out] at ha
    obtain ⟨a0, a1⟩ := ha
    by_cases hlt : k < 16
    · have hc := (HR0.out.below HBr.out).cell (j := k) (by have := hh.out; omega)
      obtain ⟨c0, c1⟩ := bytesB_get hb.out k
      have hnx : numL m h (k + 1) = (acc * 256 + h.getD k 0) % m := by rw [numL, HN.out]
      obtain ⟨c, hcc⟩ : ∃ c, h.getD k 0 = c := ⟨_, rfl⟩
      rw [hcc] at hc c0 c1 hnx
      have HNX := Lib.hid hnx
      clear hcc hnx
      have dk : decide ((k : Int) < 16) = true := by simp; omega
      go_wp2
      go_loopw [6, 21] (fun p i u => ∃ (j : Nat) (a : Int), j ≤ 8 ∧ i = .int .i64 j ∧ p = .int .i64 a ∧ Hid (acc * 2 ^ j % m = a) ∧ 0 ≤ a ∧ a < m ∧ Hid (Below W.heap.size W u)) (fun _ i _ => 8 - (intOf i).toNat)
      case atStart => exact ⟨0, acc, by omega, rfl, rfl, Lib.hid (by rw [Int.pow_zero, Int.mul_one]; exact Int.emod_eq_of_lt a0 a1), a0, a1, HBr⟩
      case round =>
        obtain ⟨j, a, hj, rfl, rfl, HA, b0, b1, HBu⟩ := hrel
        by_cases hlj : j < 8
        · have HA2 := Lib.hid (dbl_step HA.out)
          have e0 : 0 ≤ (a + a) % m := Int.emod_nonneg _ (by omega)
          have e1 : (a + a) % m < m := Int.emod_lt_of_pos _ (by omega)
          obtain ⟨q, hq⟩ : ∃ q, (a + a) % m = q := ⟨_, rfl⟩
          rw [hq] at e0 e1 HA2
          have HQ := Lib.hid hq
          clear hq HA
          go_wp2_with fail
          refine (add_ok a a m h2 b0 b1 b0 b1 _).mono ?_
          rintro e w' ⟨rfl, rfl⟩
          rw [HQ.out]
          go_wp2
          go_roundw
          case rel => exact ⟨j + 1, q, by omega, by go_num, rfl, HA2, e0, e1, HBu⟩
          case measure => simp [intOf]; omega
        · have HA8 : Hid (acc * 2 ^ 8 % m = a) := Lib.hid (by have h := HA.out; rwa [show j = 8 by omega] at h)
          have HE : Hid ((a + c % m) % m = (acc * 256 + c) % m) := Lib.hid (num_step HA8.out)
          have f0 : 0 ≤ c % m := Int.emod_nonneg _ (by omega)
          have f1 : c % m < m := Int.emod_lt_of_pos _ (by omega)
          obtain ⟨cm, hcm⟩ : ∃ x, c % m = x := ⟨_, rfl⟩
          rw [hcm] at f0 f1 HE
          obtain ⟨q, hq⟩ : ∃ q, (a + cm) % m = q := ⟨_, rfl⟩
          have HN2 : Hid (numL m h (k + 1) = q) := Lib.hid (by rw [HNX.out, ← HE.out, hq])
          have HQ := Lib.hid hq
          clear hq HA HA8 HE HNX HN
          go_wp2_with fail
          refine (add_ok a cm m h2 b0 b1 f0 f1 _).mono ?_
          rintro e w' ⟨rfl, rfl⟩
          rw [HQ.out]
          go_wp2
          go_roundw
          case rel => exact ⟨k + 1, q, by omega, by go_num, rfl, HN2, HBu⟩
          case measure => simp [intOf]; omega
    · have HF : Hid (numv m h = acc) := Lib.hid (by have e := HN.out; rwa [show k = 16 by omega] at e)
      have hbf := below_ext HBX.out HBr.out
      clear HN
      go_wp2
      go_ret2
      exact ⟨by rw [HF.out]; rfl, hbf⟩
end Go.Proofs.YtdlhodbiaoafiaaDoor
namespace Go.Proofs.YtdlhodbiaoafiaaDoor
open Go.RowKit SpM
set_option linter.unusedVariables false
set_option linter.unusedSimpArgs false
set_option maxRecDepth 100000
/-- the cells of a transcript. -/
def tcs (h : List Int) (c : Int) : Array Value := arr .u8 h ++ #[.int .i64 c]
theorem list32 : ∀ h : List Int, h.length = 32 → ∃ a0 a1 a2 a3 a4 a5 a6 a7 a8 a9 a10 a11 a12 a13 a14 a15 a16 a17 a18 a19 a20 a21 a22 a23 a24 a25 a26 a27 a28 a29 a30 a31, h = [a0, a1, a2, a3, a4, a5, a6, a7, a8, a9, a10, a11, a12, a13, a14, a15, a16, a17, a18, a19, a20, a21, a22, a23, a24, a25, a26, a27, a28, a29, a30, a31]
  | [a0, a1, a2, a3, a4, a5, a6, a7, a8, a9, a10, a11, a12, a13, a14, a15, a16, a17, a18, a19, a20, a21, a22, a23, a24, a25, a26, a27, a28, a29, a30, a31], _ => ⟨a0, a1, a2, a3, a4, a5, a6, a7, a8, a9, a10, a11, a12, a13, a14, a15, a16, a17, a18, a19, a20, a21, a22, a23, a24, a25, a26, a27, a28, a29, a30, a31, rfl⟩
theorem built0 : Tryd.prog.built 125 [] = some (tcs (zer 32) 0) := by kernel_rfl
theorem built1 (h : List Int) (hl : h.length = 32) : Tryd.prog.built 125 [(0, .agg (arr .u8 h))] = some (tcs h 0) := by
  obtain ⟨a0, a1, a2, a3, a4, a5, a6, a7, a8, a9, a10, a11, a12, a13, a14, a15, a16, a17, a18, a19, a20, a21, a22, a23, a24, a25, a26, a27, a28, a29, a30, a31, rfl⟩ := list32 h hl
  kernel_rfl
theorem built2 (h : List Int) (hl : h.length = 32) (c : Int) : Tryd.prog.built 125 [(0, .agg (arr .u8 h)), (1, .int .i64 c)] = some (tcs h c) := by
  obtain ⟨a0, a1, a2, a3, a4, a5, a6, a7, a8, a9, a10, a11, a12, a13, a14, a15, a16, a17, a18, a19, a20, a21, a22, a23, a24, a25, a26, a27, a28, a29, a30, a31, rfl⟩ := list32 h hl
  kernel_rfl
theorem wpList_built {P : Program} {ops : Array Oper} {rest : List Oper} {o : Oper} {a : Act} {w : World} {Q : Exit → Act → World → Prop} (hg : o.guard = none) (t : TypeId) (l : List (Nat × Operand)) (ho : o.op = .build t l.toArray) (cells : Array Value)
    (hf : P.built t (l.map fun x => (x.1, a.eval x.2)) = some cells) (h : wpList P ops Q rest (a.put o.dst (.agg cells)) w) : wpList P ops Q (o :: rest) a w := by
  have e : (l.toArray.map fun (x : Nat × Operand) => (x.1, a.eval x.2)).toList = l.map fun x => (x.1, a.eval x.2) := by simp
  refine wpList_build hg t l.toArray ho ?_ ?_
  · show (P.built t (l.toArray.map fun (x : Nat × Operand) => (x.1, a.eval x.2)).toList).isSome = true
    rw [e, hf]; rfl
  · show wpList P ops Q rest (a.put o.dst (.agg ((P.built t (l.toArray.map fun (x : Nat × Operand) => (x.1, a.eval x.2)).toList).getD #[]))) w
    rw [e, hf]; exact h
theorem tcs_size {h : List Int} {c : Int} (hl : h.length = 32) : (tcs h c).size = 33 := by simp [tcs, arr_size, hl]
theorem infoT : (Tryd.prog.info? 125).map (·.size) = some 33 := by kernel_rfl
theorem tr_info {h : List Int} {c : Int} (hl : h.length = 32) : (Tryd.prog.info? 125).map (·.size) = some (tcs h c).size := infoT.trans (congrArg some (tcs_size hl).symm)
theorem tcs_one (h : List Int) (c : Int) : (tcs h c).all (·.oneCell') = true := by simp [tcs, arr, Value.oneCell']
theorem ztr : (#[.int .u8 0, .int .u8 0, .int .u8 0, .int .u8 0, .int .u8 0, .int .u8 0, .int .u8 0, .int .u8 0, .int .u8 0, .int .u8 0, .int .u8 0, .int .u8 0, .int .u8 0, .int .u8 0, .int .u8 0, .int .u8 0, .int .u8 0, .int .u8 0, .int .u8 0, .int .u8 0, .int .u8 0, .int .u8 0, .int .u8 0, .int .u8 0, .int .u8 0, .int .u8 0, .int .u8 0, .int .u8 0, .int .u8 0, .int .u8 0, .int .u8 0, .int .u8 0, .int .i64 0] : Array Value) = tcs (zer 32) 0 := rfl
theorem tcs_sz {h h' : List Int} {c c' : Int} (hl : h.length = 32) (hl' : h'.length = 32) : (tcs h c).size = (tcs h' c').size := by rw [tcs_size hl, tcs_size hl']
/-- a block that holds a transcript. -/
def TBlk (w : World) (b : Nat) (h : List Int) (c : Int) : Prop := w.heap[b]? = some (.cells (tcs h c) 125 (0, 0))
theorem TBlk.below {w w' : World} {b : Nat} {h : List Int} {c : Int} (hh : TBlk w b h c) (hb : Below w.heap.size w w') : TBlk w' b h c := (hb.block b (Array.getElem?_eq_some_iff.1 hh).1).trans hh
theorem TBlk.new (w : World) (h : List Int) (c : Int) : TBlk (w.alloc (.cells (tcs h c) 125)) w.heap.size h c := heap_alloc_new _ _
theorem TBlk.lt {w : World} {b : Nat} {h : List Int} {c : Int} (hh : TBlk w b h c) : b < w.heap.size := (Array.getElem?_eq_some_iff.1 hh).1
theorem TBlk.setRow {w : World} {b : Nat} {h h' : List Int} {c c' : Int} (hh : TBlk w b h c) : TBlk (w.setRow b (tcs h' c')) b h' c' := setRow_heap w b _ _ _ _ hh
theorem TBlk.count {w : World} {b : Nat} {h : List Int} {c : Int} (hh : TBlk w b h c) (hl : h.length = 32) : w.cell? ⟨b, 32, none⟩ = some (.int .i64 c) := by
  rw [cell_blk hh, tcs, Array.getElem?_append_right (by rw [arr_size, hl]; exact Nat.le_refl _), arr_size, hl]
  rfl
theorem TBlk.sk {w : World} {b : Nat} {h : List Int} {c : Int} (hh : TBlk w b h c) : Sk .u8 w (some ⟨b, 0, none⟩) h := fun j hj => ⟨b, 0, rfl, by
  rw [Nat.zero_add, cell_blk hh, tcs, Array.getElem?_append_left (by rw [arr_size]; exact hj)]
  exact arr_get hj⟩
theorem tvalid_any (h : List Int) (hl : Hid (h.length = 32)) (c : Int) (h0 : 0 ≤ c) (h1 : c ≤ 1000) (w : World) :
    Calls Tryd.prog 162 #[.agg (tcs h c)] w fun e w' => e = .returned (.bool true) ∧ Below w.heap.size w w' := by
  have hc := (TBlk.new w h c).count hl.out
  have d1 : decide ((0 : Int) ≤ c) = true := by simp [h0]
  have d2 : decide (c ≤ 1000) = true := by simp [h1]
  go_enter Tryd.func162, Tryd.ntmps162
  go_wp2
  go_ret
  exact ⟨rfl, below_box0 _ _⟩
/-- the tag of new transcripts. -/
def tagT : ByteArray := ⟨#[115, 112, 101, 99, 105, 101, 47, 116, 114, 97, 110, 115, 99, 114, 105, 112, 116]⟩
/-- a transcript and an error. -/
def TrE (h : List Int) (c e : Int) : Value := .tuple #[.agg (tcs h c), .int .i64 e]
def newL (l : List Int) : List Int := tagged (bys tagT) l
set_option maxHeartbeats 1600000 in
theorem tnew_bad (s : ByteArray) (hs : s.size ≤ 1000) (hr : Hid (labB (bys s) = false)) (w : World) :
    Calls Tryd.prog 94 #[.string s] w fun e w' => e = .returned (TrE (zer 32) 0 1) ∧ Below w.heap.size w w' := by
  obtain ⟨W, hW⟩ : ∃ W, w.alloc (.cells #[.int .u8 0, .int .u8 0, .int .u8 0, .int .u8 0, .int .u8 0, .int .u8 0, .int .u8 0, .int .u8 0, .int .u8 0, .int .u8 0, .int .u8 0, .int .u8 0, .int .u8 0, .int .u8 0, .int .u8 0, .int .u8 0, .int .u8 0, .int .u8 0, .int .u8 0, .int .u8 0, .int .u8 0, .int .u8 0, .int .u8 0, .int .u8 0, .int .u8 0, .int .u8 0, .int .u8 0, .int .u8 0, .int .u8 0, .int .u8 0, .int .u8 0, .int .u8 0, .int .i64 0] 125) = W := ⟨_, rfl⟩
  have HBX : Hid (Below w.heap.size w W) := Lib.hid (by rw [← hW]; exact below_box0 _ _)
  have HT0 : Hid (TBlk W w.heap.size (zer 32) 0) := Lib.hid (by rw [← hW, ztr]; exact TBlk.new _ _ _)
  have HW := Lib.hid hW
  clear hW
  go_enter Tryd.func94, Tryd.ntmps94
  go_wp2_with fail
  rw [HW.out]
  refine (tlabel_any s hs false hr _).mono ?_
  rintro e w1 ⟨rfl, hb1⟩
  have HT1 := Lib.hid (HT0.out.below hb1)
  have HB1 := Lib.hid (below_ext HBX.out hb1)
  clear hb1
  go_wp2_with (first
    | ((with_reducible show wpList _ _ _ (⟨some 9, _, _, _, _, _⟩ :: _) _ _); refine wpList_built rfl 125 _ rfl _ built0 ?_)
    | ((with_reducible show wpList _ _ _ (⟨none, _, _, _, _, _⟩ :: _) _ _); refine wpList_store_row rfl 125 _ _ rfl w.heap.size (tcs (zer 32) 0) rfl rfl _ _ HT1.out (tr_info rfl) rfl (tcs_one _ _) ?_))
  have HRR : Hid (TBlk (w1.setRow w.heap.size (tcs (zer 32) 0)) w.heap.size (zer 32) 0) := Lib.hid HT1.out.setRow
  have HBF : Below w.heap.size w (w1.setRow w.heap.size (tcs (zer 32) 0)) := below_setRow' HB1.out (Nat.le_refl _)
  exact bodyPost_ret (v := TrE (zer 32) 0 1) (results_cell_tmp2 (p := 2) (q := 3) (ty := 125) rfl _ _ ⟨w.heap.size, 0, none⟩ _ _ rfl rfl (run_loadVar_row _ _ _ _ _ _ _ HRR.out Tryd.underlying125 rfl (tr_info rfl))) rfl ⟨rfl, HBF⟩
set_option maxHeartbeats 1600000 in
theorem tnew_ok (s : ByteArray) (hs : s.size ≤ 1000) (hr : Hid (labB (bys s) = true)) (w : World) (hv : Hid (VarsD w)) :
    Calls Tryd.prog 94 #[.string s] w fun e w' => e = .returned (TrE (newL (bys s)) 0 0) ∧ Below w.heap.size w w' := by
  have hs0 : 1 ≤ s.size := by
    have h := hr.out
    rw [labB, bys_len] at h
    simp at h
    exact h.1.1
  obtain ⟨W, hW⟩ : ∃ W, w.alloc (.cells #[.int .u8 0, .int .u8 0, .int .u8 0, .int .u8 0, .int .u8 0, .int .u8 0, .int .u8 0, .int .u8 0, .int .u8 0, .int .u8 0, .int .u8 0, .int .u8 0, .int .u8 0, .int .u8 0, .int .u8 0, .int .u8 0, .int .u8 0, .int .u8 0, .int .u8 0, .int .u8 0, .int .u8 0, .int .u8 0, .int .u8 0, .int .u8 0, .int .u8 0, .int .u8 0, .int .u8 0, .int .u8 0, .int .u8 0, .int .u8 0, .int .u8 0, .int .u8 0, .int .i64 0] 125) = W := ⟨_, rfl⟩
  have HBX : Hid (Below w.heap.size w W) := Lib.hid (by rw [← hW]; exact below_box0 _ _)
  have HT0 : Hid (TBlk W w.heap.size (zer 32) 0) := Lib.hid (by rw [← hW, ztr]; exact TBlk.new _ _ _)
  have HV := Lib.hid (hv.out.below HBX.out)
  have HW := Lib.hid hW
  have hcv := fun w => run_bytes_of_string (P := Tryd.prog) w 9 92 5 s Tryd.underlying9 Tryd.underlying92 Tryd.underlying5
  clear hW hv
  go_enter Tryd.func94, Tryd.ntmps94
  go_wp2_with fail
  rw [HW.out]
  refine (tlabel_any s hs true hr _).mono ?_
  rintro e w1 ⟨rfl, hb1⟩
  have HT1 := Lib.hid (HT0.out.below hb1)
  have HB1 := Lib.hid (below_ext HBX.out hb1)
  have HV1 := Lib.hid (HV.out.below hb1)
  clear hb1 HW
  go_wp2_with fail
  clear hcv
  obtain ⟨Wc, hWc⟩ : ∃ u, (w1.alloc (.cells (bytesRow s (grownCap w1 s.size 0 5)) 5 ((bytesRow s (grownCap w1 s.size 0 5)).size, (bytesRow s (grownCap w1 s.size 0 5)).size + 1))).drew = u := ⟨_, rfl⟩
  have HBc : Hid (Below w1.heap.size w1 Wc) := Lib.hid (by rw [← hWc]; exact (below_box0 _ _).drew)
  have HSc : Hid (Sk .u8 Wc (some ⟨w1.heap.size, 0, none⟩) (bys s)) := Lib.hid (by
    rw [← hWc]
    exact bys_sk (heap_alloc_new w1 _))
  obtain ⟨gc, hgc⟩ : ∃ g, grownCap w1 s.size 0 5 = g := ⟨_, rfl⟩
  rw [hWc, hgc]
  clear hWc hgc
  refine (tagged_any tagT (by decide) (by decide) w1.heap.size 0 gc (bys s) s.size (Lib.hid (bys_len s)) hs0 (by omega) (Lib.hid (bys_bytes s)) _ HSc (Lib.hid (HV1.out.below HBc.out))).mono ?_
  rintro e w2 ⟨rfl, hb2⟩
  have HT2 := Lib.hid ((HT1.out.below HBc.out).below hb2)
  have HB2 := Lib.hid (below_ext (below_ext HB1.out HBc.out) hb2)
  obtain ⟨R, hR⟩ : ∃ R, tagged (bys tagT) (bys s) = R := ⟨_, rfl⟩
  have hRl : R.length = 32 := by rw [← hR]; exact tagged_len _ _
  have HN : Kp (newL (bys s) = R) := ⟨hR⟩
  have HRL := Lib.hid hRl
  rw [hR, show HashOk R = .tuple #[.agg (arr .u8 R), .int .i64 0] from rfl]
  clear hb2 HSc HBc HT1 HB1 HV1 hR hRl
  go_upto_region 4 with ((with_reducible show wpList _ _ _ (⟨none, _, _, _, _, _⟩ :: _) _ _); refine wpList_store_row rfl 43 _ _ rfl w2.heap.size (arr .u8 R) rfl rfl _ _ (heap_alloc_new _ _) (hash_info HRL.out) (arrs_sz (l := zer 32) rfl HRL.out) (arr_one _) ?_)
  rw [World.setRow_alloc_new]
  try simp only [Act.put]
  have HH3 : Hid (Blk .u8 43 (w2.alloc (.cells (arr .u8 R) 43)) w2.heap.size R) := Lib.hid (Blk.new _ _)
  have HT3 := Lib.hid (HT2.out.below (below_box0 w2 (.cells (arr .u8 R) 43)))
  have HB3 := Lib.hid (below_ext HB2.out (below_box0 w2 (.cells (arr .u8 R) 43)))
  obtain ⟨W3, hW3⟩ : ∃ u, w2.alloc (.cells (arr .u8 R) 43) = u := ⟨_, rfl⟩
  rw [hW3] at HH3 HT3 HB3 ⊢
  clear hW3
  go_wp2_with (first
    | ((with_reducible show wpList _ _ _ (⟨some 16, _, _, _, _, _⟩ :: _) _ _); refine wpList_load_row rfl 43 _ rfl w2.heap.size rfl _ _ _ _ HH3.out Tryd.underlying43 rfl (hash_info HRL.out) ?_)
    | ((with_reducible show wpList _ _ _ (⟨some 17, _, _, _, _, _⟩ :: _) _ _); refine wpList_built rfl 125 _ rfl _ (built1 R HRL.out) ?_)
    | ((with_reducible show wpList _ _ _ (⟨none, _, _, _, _, _⟩ :: _) _ _); refine wpList_store_row rfl 125 _ _ rfl w.heap.size (tcs R 0) rfl rfl _ _ HT3.out (tr_info HRL.out) (tcs_sz rfl HRL.out) (tcs_one _ _) ?_))
  have HRR : Hid (TBlk (W3.setRow w.heap.size (tcs R 0)) w.heap.size R 0) := Lib.hid HT3.out.setRow
  have HBF : Below w.heap.size w (W3.setRow w.heap.size (tcs R 0)) := below_setRow' HB3.out (Nat.le_refl _)
  exact bodyPost_ret (v := TrE R 0 0) (results_cell_tmp2 (p := 2) (q := 3) (ty := 125) rfl _ _ ⟨w.heap.size, 0, none⟩ _ _ rfl rfl (run_loadVar_row _ _ _ _ _ _ _ HRR.out Tryd.underlying125 rfl (tr_info HRL.out))) rfl ⟨by rw [HN.out], HBF⟩
end Go.Proofs.YtdlhodbiaoafiaaDoor
namespace Go.Proofs.YtdlhodbiaoafiaaDoor
open Go.RowKit SpM
set_option linter.unusedVariables false
set_option linter.unusedSimpArgs false
set_option maxRecDepth 100000
theorem itr_list {w : World} {base : Nat} {v : Value} {cs : List Ic} {l : List It} {n : Nat} (h : OwnI w base v cs) (hc : cs.length = n) (hl : l.length = n) (hpos : 0 < n) (hr : ∀ k, k < n → ItR w (l.getD k default) (cs.getD k default)) :
    ∃ g cap, v = .slice (some ⟨g, 0, none⟩) n cap ∧ ItR w (.lst l) ⟨3, 0, none, 0, 0, some ⟨g, 0, none⟩, n, cap⟩ := by
  obtain ⟨g, cap, e, _, _, hf⟩ := h.four (by omega)
  rw [hc] at e hf
  exact ⟨g, cap, e, .lst l _ rfl rfl rfl hl.symm (fun k => cs.getD k default) (fun k hk => ⟨g, 0, rfl, hf k (by omega)⟩) (fun k hk => hr k (by omega))⟩
/-- the fields of bytes. -/
def icByt (A : Option Addr) (n c : Nat) : Ic := ⟨2, 0, A, n, c, none, 0, 0⟩
theorem itr_byt {w : World} {A : Option Addr} {n c : Nat} {b : List Int} (h : Sk .u8 w A b) (hn : b.length = n) : ItR w (.byt b) (icByt A n c) := .byt b _ rfl rfl hn.symm rfl h
theorem ownI_two (w : World) (a b : Ic) : OwnI (w.alloc (.cells #[.int .i64 a.kind, .int .i64 a.n, .slice a.B a.nb a.cb, .slice a.L a.nl a.cl, .int .i64 b.kind, .int .i64 b.n, .slice b.B b.nb b.cb, .slice b.L b.nl b.cl] 96)) w.heap.size (.slice (some ⟨w.heap.size, 0, none⟩) 2 2) [a, b] :=
  ⟨rfl, Or.inr ⟨w.heap.size, 2, _, rfl, Nat.le_refl _, heap_alloc_new _ _, Nat.le_refl _, by decide, rfl, rfl⟩⟩
theorem four_news {w : World} {b : Nat} {c : Ic} (h : Four w b 0 c) (j : Nat) (u : Value) (hj : (itemCells c)[j]? = some u) : w.cell? ((⟨b, 0, none⟩ : Addr).add j) = some u := by
  obtain ⟨h0, h1, h2, h3⟩ := h
  match j, hj with
  | 0, e => simp [itemCells] at e; subst e; exact h0
  | 1, e => simp [itemCells] at e; subst e; exact h1
  | 2, e => simp [itemCells] at e; subst e; exact h2
  | 3, e => simp [itemCells] at e; subst e; exact h3
  | j + 4, e => simp [itemCells] at e
theorem itemCells_one (c : Ic) : ∀ u ∈ itemCells c, u.oneCell' = true := by
  intro u hu
  simp [itemCells] at hu
  rcases hu with rfl | rfl | rfl | rfl <;> rfl
theorem sk_old {K : IntKind} {w w' : World} {B b : Nat} {l : List Int} (h : Sk K w (some ⟨b, 0, none⟩) l) (hb : Below B w w') (hl : b < B) : Sk K w' (some ⟨b, 0, none⟩) l := by
  intro j hj
  obtain ⟨b1, o, e, hc⟩ := h j hj
  injection e with e
  injection e with e1 e2 e3
  subst e1
  subst e2
  exact ⟨b, 0, rfl, (hb.cell (p := ⟨b, 0 + j, none⟩) hl).trans hc⟩
set_option maxHeartbeats 3200000 in
theorem hash0_any (tg : ByteArray) (ht1 : 1 ≤ tg.size) (ht2 : tg.size ≤ 100) (h : List Int) (hl : Hid (h.length = 32)) (hb : Hid (bytesB h = true)) (c : Int) (s : ByteArray) (hs0 : 1 ≤ s.size) (hs : s.size ≤ 1000) (w : World) (hv : Hid (VarsD w)) :
    Calls Tryd.prog 163 #[.string tg, .agg (tcs h c), .string s, .slice none 0 0] w fun e w' => e = .returned (HashOk (tagged (bys tg) (enc (.lst [.byt h, .byt (bys s)])))) ∧ Below w.heap.size w w' := by
  obtain ⟨i0, hi, hz0, hz1, hz2⟩ := info_parts itemInfo
  obtain ⟨RR, hRR⟩ : ∃ R, tagged (bys tg) (enc (.lst [.byt h, .byt (bys s)])) = R := ⟨_, rfl⟩
  rw [hRR]
  have HRR0 : Kp (tagged (bys tg) (enc (.lst [.byt h, .byt (bys s)])) = RR) := ⟨hRR⟩
  clear hRR
  obtain ⟨W, hW⟩ : ∃ W, (w.alloc (.cells (tcs h c) 125)).alloc (.cells #[.int .u8 0, .int .u8 0, .int .u8 0, .int .u8 0, .int .u8 0, .int .u8 0, .int .u8 0, .int .u8 0, .int .u8 0, .int .u8 0, .int .u8 0, .int .u8 0, .int .u8 0, .int .u8 0, .int .u8 0, .int .u8 0, .int .u8 0, .int .u8 0, .int .u8 0, .int .u8 0, .int .u8 0, .int .u8 0, .int .u8 0, .int .u8 0, .int .u8 0, .int .u8 0, .int .u8 0, .int .u8 0, .int .u8 0, .int .u8 0, .int .u8 0, .int .u8 0] 43) = W := ⟨_, rfl⟩
  have HBX : Hid (Below w.heap.size w W) := Lib.hid (by rw [← hW]; exact below_two (Below.refl _ _))
  have HT0 : Hid (TBlk W w.heap.size h c) := Lib.hid (by rw [← hW]; exact heap_alloc2_old _ _ _)
  have HR0 : Hid (Blk .u8 43 W (w.heap.size + 1) (zer 32)) := Lib.hid (by rw [← hW, zarrh]; exact heap_alloc2_new _ _ _)
  have HSZ : Hid (W.heap.size = w.heap.size + 2) := Lib.hid (by rw [← hW]; simp)
  have HV := Lib.hid (hv.out.below HBX.out)
  have HW := Lib.hid hW
  have hcv := fun w => run_bytes_of_string (P := Tryd.prog) w 9 92 5 s Tryd.underlying9 Tryd.underlying92 Tryd.underlying5
  clear hW hv
  go_enter Tryd.func163, Tryd.ntmps163
  go_upto_region 1 with (fail)
  rw [HW.out]
  go_upto_region 2 with (fail)
  clear hcv HW
  obtain ⟨gc, hgc⟩ : ∃ g, grownCap W s.size 0 5 = g := ⟨_, rfl⟩
  rw [hgc]
  obtain ⟨Wc, hWc⟩ : ∃ u, W.alloc (.cells (bytesRow s gc) 5 ((bytesRow s gc).size, (bytesRow s gc).size + 1)) = u := ⟨_, rfl⟩
  rw [hWc]
  have HBc : Hid (Below W.heap.size W Wc) := Lib.hid (by rw [← hWc]; exact below_box0 _ _)
  have HSc : Hid (Sk .u8 Wc (some ⟨W.heap.size, 0, none⟩) (bys s)) := Lib.hid (by rw [← hWc]; exact bys_sk (heap_alloc_new W _))
  have HCZ : Hid (Wc.heap.size = W.heap.size + 1) := Lib.hid (by rw [← hWc]; simp)
  obtain ⟨W2, hW2⟩ : ∃ u, (Wc.alloc (.cells #[.int .i64 2, .int .i64 0, .slice (some ⟨w.heap.size, 0, none⟩) 32 32, .slice none 0 0, .int .i64 2, .int .i64 0, .slice (some ⟨W.heap.size, 0, none⟩) s.size gc, .slice none 0 0] 96)).drew = u := ⟨_, rfl⟩
  have HO2 : Hid (OwnI W2 Wc.heap.size (.slice (some ⟨W.heap.size + 1, 0, none⟩) 2 2) [icByt (some ⟨w.heap.size, 0, none⟩) 32 32, icByt (some ⟨W.heap.size, 0, none⟩) s.size gc]) := Lib.hid (by
    rw [← hW2]
    have h := (ownI_two Wc (icByt (some ⟨w.heap.size, 0, none⟩) 32 32) (icByt (some ⟨W.heap.size, 0, none⟩) s.size gc)).keep (Below.refl _ _).drew
    rw [HCZ.out] at h ⊢
    exact h)
  have HB2 : Hid (Below W.heap.size W W2) := Lib.hid (below_ext HBc.out (by rw [← hW2]; exact (below_box0 _ _).drew))
  have HS2 : Hid (Sk .u8 W2 (some ⟨W.heap.size, 0, none⟩) (bys s)) := Lib.hid (HSc.out.below (by rw [← hW2]; exact (below_box0 _ _).drew))
  have hzW : Wc.heap.size < W2.heap.size := by rw [← hW2]; simp
  rw [hW2]
  clear hW2 hWc hgc HSc HBc
  have hrow : W2.ownsRow Wc.heap.size 96 4 (.slice (some ⟨W.heap.size + 1, 0, none⟩) 2 2) 2 ([icByt (some ⟨w.heap.size, 0, none⟩) 32 32, icByt (some ⟨W.heap.size, 0, none⟩) s.size gc].flatMap itemCells) := HO2.out
  have HSZB := hs
  go_wp2_with (at_builtin; refine wpList_append_own_none rfl _ _ 94 rfl Wc.heap.size 96 i0 4 Tryd.underlying94 hi _ _ _ rfl hrow rfl ?_)
  have HIX : Hid (∃ g cap, (Value.slice (some ⟨W.heap.size + 1, 0, none⟩) 2 2) = .slice (some ⟨g, 0, none⟩) 2 cap ∧ ItR W2 (.lst [.byt h, .byt (bys s)]) ⟨3, 0, none, 0, 0, some ⟨g, 0, none⟩, 2, cap⟩) := Lib.hid (itr_list HO2.out rfl rfl (by decide) (fun k hk => by
    rcases (show k = 0 ∨ k = 1 by omega) with rfl | rfl
    · exact itr_byt (HT0.out.below HB2.out).sk hl.out
    · exact itr_byt HS2.out (bys_len s)))
  obtain ⟨g3, cap3, e3, hit⟩ := HIX.out
  simp only [Value.slice.injEq, Option.some.injEq, Addr.mk.injEq] at e3
  obtain ⟨⟨rfl, -⟩, -, rfl⟩ := e3
  have HIT := Lib.hid hit
  have HB3 := HB2
  have HFIT : Hid (fits 8 (.lst [.byt h, .byt (bys s)])) := Lib.hid (by
    refine ⟨by simp, fun x hx => ?_⟩
    rcases (by simpa using hx : x = .byt h ∨ x = .byt (bys s)) with rfl | rfl
    · exact ⟨⟨by rw [hl.out]; decide, by rw [hl.out]; decide⟩, hb.out⟩
    · exact ⟨⟨by rw [bys_len]; omega, by rw [bys_len]; omega⟩, bys_bytes s⟩)
  have HLEN : Hid ((enc (.lst [.byt h, .byt (bys s)])).length ≤ 16384) := Lib.hid (by
    rw [enc_lst]
    simp only [encL, enc_byt, List.length_cons, List.length_append, be4_len, hl.out, bys_len, List.length_nil]
    omega)
  clear hit HIX hrow
  rw [show (Value.agg #[.int .i64 3, .int .i64 0, .slice none 0 0, .slice (some ⟨W.heap.size + 1, 0, none⟩) 2 2]) = (Ic.mk 3 0 none 0 0 (some ⟨W.heap.size + 1, 0, none⟩) 2 2).val from rfl]
  refine (encode_any _ _ _ HFIT.out HIT.out HLEN.out).mono ?_
  rintro e w4 ⟨v4, rfl, ho4, hb4⟩
  obtain ⟨E, hE⟩ : ∃ E, enc (.lst [.byt h, .byt (bys s)]) = E := ⟨_, rfl⟩
  have HEB : Hid (bytesB E = true) := Lib.hid (by rw [← hE]; exact enc_bytes HFIT.out)
  have HEL : Hid (0 < E.length ∧ E.length ≤ 16384) := Lib.hid (by rw [← hE]; exact ⟨enc_pos _, HLEN.out⟩)
  rw [hE] at ho4
  obtain ⟨g4, cap4, e4, hg4, -, -, hsk4⟩ := ho4.cells HEL.out.1
  obtain ⟨n4, hn4⟩ : ∃ n, E.length = n := ⟨_, rfl⟩
  rw [hn4] at e4 HEL
  subst e4
  have HN4 := Lib.hid hn4
  have HS4 := Lib.hid hsk4
  have HB4 := Lib.hid (below_ext HB3.out hb4)
  have HEE : Kp (enc (.lst [.byt h, .byt (bys s)]) = E) := ⟨hE⟩
  clear hE hsk4 ho4 hb4 hn4 HIT HLEN HFIT
  obtain ⟨he0, he1⟩ := HEL.out
  go_wp2_with fail
  refine (tagged_any tg ht1 ht2 g4 0 cap4 E n4 HN4 he0 (by omega) HEB _ HS4 (Lib.hid (HV.out.below HB4.out))).mono ?_
  rintro e w5 ⟨rfl, hb5⟩
  have HB5 := Lib.hid (below_ext HB4.out hb5)
  obtain ⟨R, hR⟩ : ∃ R, tagged (bys tg) E = R := ⟨_, rfl⟩
  have HRL : Hid (R.length = 32) := Lib.hid (by rw [← hR]; exact tagged_len _ _)
  have hRe : RR = R := by rw [← HRR0.1, HEE.1, hR]
  subst hRe
  rw [hR, show HashOk RR = .tuple #[.agg (arr .u8 RR), .int .i64 0] from rfl]
  clear hb5 hR HS4 HB4
  have HR5 : Hid (Blk .u8 43 w5 (w.heap.size + 1) (zer 32)) := Lib.hid (HR0.out.below HB5.out)
  go_wp2_with ((with_reducible show wpList _ _ _ (⟨none, _, _, _, _, _⟩ :: _) _ _); refine wpList_store_row rfl 43 _ _ rfl (w.heap.size + 1) (arr .u8 RR) rfl rfl _ _ HR5.out (hash_info HRL.out) (arrs_sz (l := zer 32) rfl HRL.out) (arr_one _) ?_)
  have HRR : Hid (Blk .u8 43 (w5.setRow (w.heap.size + 1) (arr .u8 RR)) (w.heap.size + 1) RR) := Lib.hid HR5.out.setRow
  have HBF : Below w.heap.size w (w5.setRow (w.heap.size + 1) (arr .u8 RR)) := below_setRow' (below_ext HBX.out HB5.out) (Nat.le_succ _)
  exact bodyPost_ret (v := HashOk RR) (results_cell_tmp2 (p := 8) (q := 9) (ty := 43) rfl _ _ ⟨w.heap.size + 1, 0, none⟩ _ _ rfl rfl (run_loadVar_row _ _ _ _ _ _ _ HRR.out Tryd.underlying43 rfl (hash_info HRL.out))) rfl ⟨rfl, HBF⟩
set_option maxHeartbeats 3200000 in
theorem hash1_any (tg : ByteArray) (ht1 : 1 ≤ tg.size) (ht2 : tg.size ≤ 100) (h : List Int) (hl : Hid (h.length = 32)) (hb : Hid (bytesB h = true)) (c : Int) (s : ByteArray) (hs0 : 1 ≤ s.size) (hs : s.size ≤ 1000) (item : It) (cI : Ic) (gm cm : Nat) (w : World) (hv : Hid (VarsD w)) (hF : Hid (Four w gm 0 cI)) (hI : Hid (ItR w item cI)) (hfi : Hid (fits 7 item)) (hle : Hid ((enc item).length ≤ 14000)) :
    Calls Tryd.prog 163 #[.string tg, .agg (tcs h c), .string s, .slice (some ⟨gm, 0, none⟩) 1 cm] w fun e w' => e = .returned (HashOk (tagged (bys tg) (enc (.lst [.byt h, .byt (bys s), item])))) ∧ Below w.heap.size w w' := by
  obtain ⟨i0, hi, hz0, hz1, hz2⟩ := info_parts itemInfo
  obtain ⟨RR, hRR⟩ : ∃ R, tagged (bys tg) (enc (.lst [.byt h, .byt (bys s), item])) = R := ⟨_, rfl⟩
  rw [hRR]
  have HRR0 : Kp (tagged (bys tg) (enc (.lst [.byt h, .byt (bys s), item])) = RR) := ⟨hRR⟩
  clear hRR
  obtain ⟨W, hW⟩ : ∃ W, (w.alloc (.cells (tcs h c) 125)).alloc (.cells #[.int .u8 0, .int .u8 0, .int .u8 0, .int .u8 0, .int .u8 0, .int .u8 0, .int .u8 0, .int .u8 0, .int .u8 0, .int .u8 0, .int .u8 0, .int .u8 0, .int .u8 0, .int .u8 0, .int .u8 0, .int .u8 0, .int .u8 0, .int .u8 0, .int .u8 0, .int .u8 0, .int .u8 0, .int .u8 0, .int .u8 0, .int .u8 0, .int .u8 0, .int .u8 0, .int .u8 0, .int .u8 0, .int .u8 0, .int .u8 0, .int .u8 0, .int .u8 0] 43) = W := ⟨_, rfl⟩
  have HBX : Hid (Below w.heap.size w W) := Lib.hid (by rw [← hW]; exact below_two (Below.refl _ _))
  have HT0 : Hid (TBlk W w.heap.size h c) := Lib.hid (by rw [← hW]; exact heap_alloc2_old _ _ _)
  have HR0 : Hid (Blk .u8 43 W (w.heap.size + 1) (zer 32)) := Lib.hid (by rw [← hW, zarrh]; exact heap_alloc2_new _ _ _)
  have HSZ : Hid (W.heap.size = w.heap.size + 2) := Lib.hid (by rw [← hW]; simp)
  have HV := Lib.hid (hv.out.below HBX.out)
  have HW := Lib.hid hW
  have hcv := fun w => run_bytes_of_string (P := Tryd.prog) w 9 92 5 s Tryd.underlying9 Tryd.underlying92 Tryd.underlying5
  clear hW hv
  go_enter Tryd.func163, Tryd.ntmps163
  go_upto_region 1 with (fail)
  rw [HW.out]
  go_upto_region 2 with (fail)
  clear hcv HW
  obtain ⟨gc, hgc⟩ : ∃ g, grownCap W s.size 0 5 = g := ⟨_, rfl⟩
  rw [hgc]
  obtain ⟨Wc, hWc⟩ : ∃ u, W.alloc (.cells (bytesRow s gc) 5 ((bytesRow s gc).size, (bytesRow s gc).size + 1)) = u := ⟨_, rfl⟩
  rw [hWc]
  have HBc : Hid (Below W.heap.size W Wc) := Lib.hid (by rw [← hWc]; exact below_box0 _ _)
  have HSc : Hid (Sk .u8 Wc (some ⟨W.heap.size, 0, none⟩) (bys s)) := Lib.hid (by rw [← hWc]; exact bys_sk (heap_alloc_new W _))
  have HCZ : Hid (Wc.heap.size = W.heap.size + 1) := Lib.hid (by rw [← hWc]; simp)
  obtain ⟨W2, hW2⟩ : ∃ u, (Wc.alloc (.cells #[.int .i64 2, .int .i64 0, .slice (some ⟨w.heap.size, 0, none⟩) 32 32, .slice none 0 0, .int .i64 2, .int .i64 0, .slice (some ⟨W.heap.size, 0, none⟩) s.size gc, .slice none 0 0] 96)).drew = u := ⟨_, rfl⟩
  have HO2 : Hid (OwnI W2 Wc.heap.size (.slice (some ⟨W.heap.size + 1, 0, none⟩) 2 2) [icByt (some ⟨w.heap.size, 0, none⟩) 32 32, icByt (some ⟨W.heap.size, 0, none⟩) s.size gc]) := Lib.hid (by
    rw [← hW2]
    have h := (ownI_two Wc (icByt (some ⟨w.heap.size, 0, none⟩) 32 32) (icByt (some ⟨W.heap.size, 0, none⟩) s.size gc)).keep (Below.refl _ _).drew
    rw [HCZ.out] at h ⊢
    exact h)
  have HB2 : Hid (Below W.heap.size W W2) := Lib.hid (below_ext HBc.out (by rw [← hW2]; exact (below_box0 _ _).drew))
  have HS2 : Hid (Sk .u8 W2 (some ⟨W.heap.size, 0, none⟩) (bys s)) := Lib.hid (HSc.out.below (by rw [← hW2]; exact (below_box0 _ _).drew))
  have hzW : Wc.heap.size < W2.heap.size := by rw [← hW2]; simp
  rw [hW2]
  clear hW2 hWc hgc HSc HBc
  have hrow : W2.ownsRow Wc.heap.size 96 4 (.slice (some ⟨W.heap.size + 1, 0, none⟩) 2 2) 2 ([icByt (some ⟨w.heap.size, 0, none⟩) 32 32, icByt (some ⟨W.heap.size, 0, none⟩) s.size gc].flatMap itemCells) := HO2.out
  have HSZB := hs
  have HF2 : Hid (Four W2 gm 0 cI) := Lib.hid ((hF.out.below HBX.out).below HB2.out)
  have HI2 : Hid (ItR W2 item cI) := Lib.hid ((hI.out.kept HBX.out).kept HB2.out)
  have HBW : Wc.heap.size ≤ W2.heap.size := by omega
  have b1 : 2 + 1 ≤ maxLen := by unfold maxLen; omega
  have b2 : (2 + 1) * 64 ≤ 140737488355328 := by omega
  have HNW : ∀ (j : Nat) (u : Value), (itemCells cI)[j]? = some u → W2.cell? ((⟨gm, 0, none⟩ : Addr).add j) = some u := four_news HF2.out
  go_wp2_with (at_builtin; refine wpList_append_lies rfl _ _ 94 rfl Wc.heap.size 96 i0 (.agg #[.int .i64 0, .int .i64 0, .slice none 0 0, .slice none 0 0]) 4 64 Tryd.underlying94 hi hz0 hz1 hz2 rfl (by decide) _ _ _ rfl hrow ⟨gm, 0, none⟩ 1 cm (itemCells cI) rfl rfl HNW (itemCells_one cI) (by decide) b1 b2 HBW _ rfl ?_; intro g3 cap3 w3 hown3 hgrow3 hat3 hlt3)
  have HB3 : Hid (Below W.heap.size W w3) := Lib.hid (HB2.out.grown hgrow3 (by have := HCZ.out; omega) (fun j hj => by have := HCZ.out; have := (World.ownsRow.lt hrow j hj).1; omega))
  have HB23 : Hid (Below (W.heap.size + 1) W2 w3) := Lib.hid ((Below.refl _ _).grown hgrow3 (by have := HCZ.out; omega) (fun j hj => by have := HCZ.out; have := (World.ownsRow.lt hrow j hj).1; omega))
  have HO3 : Hid (OwnI w3 Wc.heap.size (.slice (some ⟨g3, 0, none⟩) 3 cap3) [icByt (some ⟨w.heap.size, 0, none⟩) 32 32, icByt (some ⟨W.heap.size, 0, none⟩) s.size gc, cI]) := Lib.hid hown3
  have HIX : Hid (∃ g cap, (Value.slice (some ⟨g3, 0, none⟩) 3 cap3) = .slice (some ⟨g, 0, none⟩) 3 cap ∧ ItR w3 (.lst [.byt h, .byt (bys s), item]) ⟨3, 0, none, 0, 0, some ⟨g, 0, none⟩, 3, cap⟩) := Lib.hid (itr_list HO3.out rfl rfl (by decide) (fun k hk => by
    rcases (show k = 0 ∨ k = 1 ∨ k = 2 by omega) with rfl | rfl | rfl
    · exact itr_byt (HT0.out.below HB3.out).sk hl.out
    · exact itr_byt (sk_old HS2.out HB23.out (by omega)) (bys_len s)
    · exact ((hI.out.kept HBX.out).kept HB3.out)))
  obtain ⟨g, cap, e3, hit⟩ := HIX.out
  simp only [Value.slice.injEq, Option.some.injEq, Addr.mk.injEq] at e3
  obtain ⟨⟨rfl, -⟩, -, rfl⟩ := e3
  have HIT := Lib.hid hit
  have HFIT : Hid (fits 8 (.lst [.byt h, .byt (bys s), item])) := Lib.hid (by
    refine ⟨by simp, fun x hx => ?_⟩
    rcases (by simpa using hx : x = .byt h ∨ x = .byt (bys s) ∨ x = item) with rfl | rfl | rfl
    · exact ⟨⟨by rw [hl.out]; decide, by rw [hl.out]; decide⟩, hb.out⟩
    · exact ⟨⟨by rw [bys_len]; omega, by rw [bys_len]; omega⟩, bys_bytes s⟩
    · exact hfi.out)
  have HLEN : Hid ((enc (.lst [.byt h, .byt (bys s), item])).length ≤ 16384) := Lib.hid (by
    have := hle.out
    rw [enc_lst]
    simp only [encL, enc_byt, List.length_cons, List.length_append, be4_len, hl.out, bys_len, List.length_nil]
    omega)
  clear hit HIX hrow HO3 hown3 hgrow3 hat3 hlt3 HNW HF2 HI2 HB23
  rw [show (Value.agg #[.int .i64 3, .int .i64 0, .slice none 0 0, .slice (some ⟨g3, 0, none⟩) 3 cap3]) = (Ic.mk 3 0 none 0 0 (some ⟨g3, 0, none⟩) 3 cap3).val from rfl]
  refine (encode_any _ _ _ HFIT.out HIT.out HLEN.out).mono ?_
  rintro e w4 ⟨v4, rfl, ho4, hb4⟩
  obtain ⟨E, hE⟩ : ∃ E, enc (.lst [.byt h, .byt (bys s), item]) = E := ⟨_, rfl⟩
  have HEB : Hid (bytesB E = true) := Lib.hid (by rw [← hE]; exact enc_bytes HFIT.out)
  have HEL : Hid (0 < E.length ∧ E.length ≤ 16384) := Lib.hid (by rw [← hE]; exact ⟨enc_pos _, HLEN.out⟩)
  rw [hE] at ho4
  obtain ⟨g4, cap4, e4, hg4, -, -, hsk4⟩ := ho4.cells HEL.out.1
  obtain ⟨n4, hn4⟩ : ∃ n, E.length = n := ⟨_, rfl⟩
  rw [hn4] at e4 HEL
  subst e4
  have HN4 := Lib.hid hn4
  have HS4 := Lib.hid hsk4
  have HB4 := Lib.hid (below_ext HB3.out hb4)
  have HEE : Kp (enc (.lst [.byt h, .byt (bys s), item]) = E) := ⟨hE⟩
  clear hE hsk4 ho4 hb4 hn4 HIT HLEN HFIT
  obtain ⟨he0, he1⟩ := HEL.out
  go_wp2_with fail
  refine (tagged_any tg ht1 ht2 g4 0 cap4 E n4 HN4 he0 (by omega) HEB _ HS4 (Lib.hid (HV.out.below HB4.out))).mono ?_
  rintro e w5 ⟨rfl, hb5⟩
  have HB5 := Lib.hid (below_ext HB4.out hb5)
  obtain ⟨R, hR⟩ : ∃ R, tagged (bys tg) E = R := ⟨_, rfl⟩
  have HRL : Hid (R.length = 32) := Lib.hid (by rw [← hR]; exact tagged_len _ _)
  have hRe : RR = R := by rw [← HRR0.1, HEE.1, hR]
  subst hRe
  rw [hR, show HashOk RR = .tuple #[.agg (arr .u8 RR), .int .i64 0] from rfl]
  clear hb5 hR HS4 HB4
  have HR5 : Hid (Blk .u8 43 w5 (w.heap.size + 1) (zer 32)) := Lib.hid (HR0.out.below HB5.out)
  go_wp2_with ((with_reducible show wpList _ _ _ (⟨none, _, _, _, _, _⟩ :: _) _ _); refine wpList_store_row rfl 43 _ _ rfl (w.heap.size + 1) (arr .u8 RR) rfl rfl _ _ HR5.out (hash_info HRL.out) (arrs_sz (l := zer 32) rfl HRL.out) (arr_one _) ?_)
  have HRR : Hid (Blk .u8 43 (w5.setRow (w.heap.size + 1) (arr .u8 RR)) (w.heap.size + 1) RR) := Lib.hid HR5.out.setRow
  have HBF : Below w.heap.size w (w5.setRow (w.heap.size + 1) (arr .u8 RR)) := below_setRow' (below_ext HBX.out HB5.out) (Nat.le_succ _)
  exact bodyPost_ret (v := HashOk RR) (results_cell_tmp2 (p := 8) (q := 9) (ty := 43) rfl _ _ ⟨w.heap.size + 1, 0, none⟩ _ _ rfl rfl (run_loadVar_row _ _ _ _ _ _ _ HRR.out Tryd.underlying43 rfl (hash_info HRL.out))) rfl ⟨rfl, HBF⟩
end Go.Proofs.YtdlhodbiaoafiaaDoor
namespace Go.Proofs.YtdlhodbiaoafiaaDoor
open Go.RowKit SpM
set_option linter.unusedVariables false
set_option linter.unusedSimpArgs false
set_option maxRecDepth 100000
def tagAb : ByteArray := { data := #[115, 112, 101, 99, 105, 101, 47, 97, 98, 115, 111, 114, 98] }
/-- the state behind an item absorbed. -/
def abL (h s : List Int) (i : It) : List Int := tagged (bys tagAb) (enc (.lst [.byt h, .byt s, i]))
theorem abL_len (h s : List Int) (i : It) : (abL h s i).length = 32 := tagged_len _ _
theorem four_cells {w : World} {b : Nat} {c : Ic} {t : TypeId} (h : w.heap[b]? = some (.cells #[.int .i64 c.kind, .int .i64 c.n, .slice c.B c.nb c.cb, .slice c.L c.nl c.cl] t)) : Four w b 0 c :=
  ⟨cell_blk h 0, cell_blk h 1, cell_blk h 2, cell_blk h 3⟩
set_option maxHeartbeats 3200000 in
theorem tabsorb_ok (h : List Int) (hl : Hid (h.length = 32)) (hb : Hid (bytesB h = true)) (c : Int) (hc0 : 0 ≤ c) (hc1 : c < 1000) (s : ByteArray) (hs : s.size ≤ 1000) (hr : Hid (labB (bys s) = true)) (item : It) (cI : Ic) (w : World) (hv : Hid (VarsD w)) (hI : Hid (ItR w item cI)) (hfi : Hid (fits 7 item)) (hle : Hid ((enc item).length ≤ 14000)) :
    Calls Tryd.prog 161 #[.agg (tcs h c), .string s, .agg #[.int .i64 cI.kind, .int .i64 cI.n, .slice cI.B cI.nb cI.cb, .slice cI.L cI.nl cI.cl]] w fun e w' => e = .returned (TrE (abL h (bys s) item) (c + 1) 0) ∧ Below w.heap.size w w' := by
  have hs0 : 1 ≤ s.size := by
    have h := hr.out
    rw [labB, bys_len] at h
    simp at h
    exact h.1.1
  obtain ⟨i0, hi, hz0, hz1, hz2⟩ := info_parts itemInfo
  obtain ⟨W, hW⟩ : ∃ W, ((w.alloc (.cells (tcs h c) 125)).alloc (.cells #[.int .i64 cI.kind, .int .i64 cI.n, .slice cI.B cI.nb cI.cb, .slice cI.L cI.nl cI.cl] 96)).alloc (.cells #[.int .u8 0, .int .u8 0, .int .u8 0, .int .u8 0, .int .u8 0, .int .u8 0, .int .u8 0, .int .u8 0, .int .u8 0, .int .u8 0, .int .u8 0, .int .u8 0, .int .u8 0, .int .u8 0, .int .u8 0, .int .u8 0, .int .u8 0, .int .u8 0, .int .u8 0, .int .u8 0, .int .u8 0, .int .u8 0, .int .u8 0, .int .u8 0, .int .u8 0, .int .u8 0, .int .u8 0, .int .u8 0, .int .u8 0, .int .u8 0, .int .u8 0, .int .u8 0, .int .i64 0] 125) = W := ⟨_, rfl⟩
  have HBX : Hid (Below w.heap.size w W) := Lib.hid (by rw [← hW]; exact below_ext (below_two (Below.refl _ _)) (below_box0 _ _))
  have HT0 : Hid (TBlk W w.heap.size h c) := Lib.hid (by rw [← hW]; exact ((TBlk.new _ _ _).below (below_box0 _ _)).below (below_box0 _ _))
  have HIB : Hid (W.heap[w.heap.size + 1]? = some (.cells #[.int .i64 cI.kind, .int .i64 cI.n, .slice cI.B cI.nb cI.cb, .slice cI.L cI.nl cI.cl] 96 (0, 0))) := Lib.hid (by rw [← hW, ← (show (w.alloc (.cells (tcs h c) 125)).heap.size = w.heap.size + 1 by simp)]; exact heap_alloc2_old _ _ _)
  have HR0 : Hid (TBlk W (w.heap.size + 1 + 1) (zer 32) 0) := Lib.hid (by rw [← hW, ztr, show w.heap.size + 1 + 1 = (w.alloc (.cells (tcs h c) 125)).heap.size + 1 by simp]; exact heap_alloc2_new _ _ _)
  have HSZ : Hid (W.heap.size = w.heap.size + 3) := Lib.hid (by rw [← hW]; simp)
  have HV := Lib.hid (hv.out.below HBX.out)
  have HII := Lib.hid (hI.out.kept HBX.out)
  have HW := Lib.hid hW
  clear hW hv
  go_enter Tryd.func161, Tryd.ntmps161
  go_upto_region 1 with (fail)
  rw [HW.out]
  clear HW
  go_wp2_with ((with_reducible show wpList _ _ _ (⟨some 10, _, _, _, _, _⟩ :: _) _ _); refine wpList_load_row rfl 125 _ rfl w.heap.size rfl _ _ _ _ HT0.out Tryd.underlying125 rfl (tr_info hl.out) ?_)
  refine (tvalid_any h hl c hc0 (by omega) _).mono ?_
  rintro e w1 ⟨rfl, hb1⟩
  have HB1 := Lib.hid (below_ext HBX.out hb1)
  have HT1 := Lib.hid (HT0.out.below hb1)
  have HI1 := Lib.hid (HII.out.kept hb1)
  have HV1 := Lib.hid (HV.out.below hb1)
  have HR1 := Lib.hid (HR0.out.below hb1)
  have HIB1 : Hid (Four w1 (w.heap.size + 1) 0 cI) := Lib.hid (four_cells ((hb1.block _ (by have := HSZ.out; omega)).trans HIB.out))
  clear hb1 HT0 HII HV HR0 HIB HBX
  go_wp2_with fail
  refine (tlabel_any s hs true hr _).mono ?_
  rintro e w2 ⟨rfl, hb2⟩
  have HT2 := Lib.hid (HT1.out.below hb2)
  have HI2 := Lib.hid (HI1.out.kept hb2)
  have HV2 := Lib.hid (HV1.out.below hb2)
  have HR2 := Lib.hid (HR1.out.below hb2)
  have HIB2 := Lib.hid (HIB1.out.below hb2)
  have HB2 := Lib.hid (below_ext HB1.out hb2)
  clear hb2 HT1 HI1 HV1 HR1 HIB1 HB1
  obtain ⟨f0, f1, f2, f3⟩ := HIB2.out
  go_wp2_with ((with_reducible show wpList _ _ _ (⟨some 20, _, _, _, _, _⟩ :: _) _ _); refine wpList_load_row rfl 125 _ rfl w.heap.size rfl _ _ _ _ HT2.out Tryd.underlying125 rfl (tr_info hl.out) ?_)
  clear f0 f1 f2 f3
  obtain ⟨W3, hW3⟩ : ∃ u, w2.alloc (.cells #[.int .i64 cI.kind, .int .i64 cI.n, .slice cI.B cI.nb cI.cb, .slice cI.L cI.nl cI.cl] 96) = u := ⟨_, rfl⟩
  have HF3 : Hid (Four W3 w2.heap.size 0 cI) := Lib.hid (by rw [← hW3]; exact four_cells (heap_alloc_new _ _))
  have hb3 : Below w2.heap.size w2 W3 := by rw [← hW3]; exact below_box0 _ _
  rw [hW3]
  have HI3 := Lib.hid (HI2.out.kept hb3)
  have HV3 := Lib.hid (HV2.out.below hb3)
  refine (hash1_any tagAb (by decide) (by decide) h hl hb c s hs0 hs item cI w2.heap.size 1 W3 HV3 HF3 HI3 hfi hle).mono ?_
  rintro e w4 ⟨rfl, hb4⟩
  have HT4 := Lib.hid ((HT2.out.below hb3).below hb4)
  have HR4 := Lib.hid ((HR2.out.below hb3).below hb4)
  have HB4 := Lib.hid (below_ext (below_ext HB2.out hb3) hb4)
  obtain ⟨R, hR⟩ : ∃ R, tagged (bys tagAb) (enc (.lst [.byt h, .byt (bys s), item])) = R := ⟨_, rfl⟩
  have hRl : R.length = 32 := by rw [← hR]; exact tagged_len _ _
  have HN : Kp (abL h (bys s) item = R) := ⟨hR⟩
  have HRL := Lib.hid hRl
  rw [hR, show HashOk R = .tuple #[.agg (arr .u8 R), .int .i64 0] from rfl]
  clear hb3 hb4 hW3 HF3 HI3 HV3 HT2 HI2 HV2 HR2 HB2 HIB2 hR hRl
  go_upto_region 4 with ((with_reducible show wpList _ _ _ (⟨none, _, _, _, _, _⟩ :: _) _ _); refine wpList_store_row rfl 43 _ _ rfl w4.heap.size (arr .u8 R) rfl rfl _ _ (heap_alloc_new _ _) (hash_info HRL.out) (arrs_sz (l := zer 32) rfl HRL.out) (arr_one _) ?_)
  rw [World.setRow_alloc_new]
  try simp only [Act.put]
  have HK3 : Hid (Blk .u8 43 (w4.alloc (.cells (arr .u8 R) 43)) w4.heap.size R) := Lib.hid (Blk.new _ _)
  have HT5 := Lib.hid (HT4.out.below (below_box0 w4 (.cells (arr .u8 R) 43)))
  have HR5 := Lib.hid (HR4.out.below (below_box0 w4 (.cells (arr .u8 R) 43)))
  have HB5 := Lib.hid (below_ext HB4.out (below_box0 w4 (.cells (arr .u8 R) 43)))
  obtain ⟨W5, hW5⟩ : ∃ u, w4.alloc (.cells (arr .u8 R) 43) = u := ⟨_, rfl⟩
  rw [hW5] at HK3 HT5 HR5 HB5 ⊢
  clear hW5
  have hcnt := HT5.out.count hl.out
  have hcn : ¬ (c = 1000) := by omega
  have hwr : IntKind.i64.wrap (c + 1) = c + 1 := IntWalk.i64_in _ (by omega)
  go_wp2_with (first
    | ((with_reducible show wpList _ _ _ (⟨some 40, _, _, _, _, _⟩ :: _) _ _); refine wpList_load_row rfl 43 _ rfl w4.heap.size rfl _ _ _ _ HK3.out Tryd.underlying43 rfl (hash_info HRL.out) ?_)
    | ((with_reducible show wpList _ _ _ (⟨some 44, _, _, _, _, _⟩ :: _) _ _); refine wpList_built rfl 125 _ rfl _ (built2 R HRL.out (c + 1)) ?_)
    | ((with_reducible show wpList _ _ _ (⟨none, _, _, _, _, _⟩ :: _) _ _); refine wpList_store_row rfl 125 _ _ rfl (w.heap.size + 1 + 1) (tcs R (c + 1)) rfl rfl _ _ HR5.out (tr_info HRL.out) (tcs_sz rfl HRL.out) (tcs_one _ _) ?_))
  have HRR : Hid (TBlk (W5.setRow (w.heap.size + 1 + 1) (tcs R (c + 1))) (w.heap.size + 1 + 1) R (c + 1)) := Lib.hid HR5.out.setRow
  have HBF : Below w.heap.size w (W5.setRow (w.heap.size + 1 + 1) (tcs R (c + 1))) := below_setRow' HB5.out (by omega)
  exact bodyPost_ret (v := TrE R (c + 1) 0) (results_cell_tmp2 (p := 6) (q := 7) (ty := 125) rfl _ _ ⟨w.heap.size + 1 + 1, 0, none⟩ _ _ rfl rfl (run_loadVar_row _ _ _ _ _ _ _ HRR.out Tryd.underlying125 rfl (tr_info HRL.out))) rfl ⟨by rw [HN.out], HBF⟩
end Go.Proofs.YtdlhodbiaoafiaaDoor
namespace Go.Proofs.YtdlhodbiaoafiaaDoor
open Go.RowKit SpM
set_option linter.unusedVariables false
set_option linter.unusedSimpArgs false
set_option maxRecDepth 100000
set_option maxHeartbeats 3200000 in
theorem tints_ok (h : List Int) (hl : Hid (h.length = 32)) (hb : Hid (bytesB h = true)) (c : Int) (hc0 : 0 ≤ c) (hc1 : c < 1000) (s : ByteArray) (hs : s.size ≤ 1000) (hr : Hid (labB (bys s) = true)) (A : Option Addr) (l : List Int) (n cA : Nat) (hn : Hid (l.length = n)) (hbig : n ≤ 1000) (w : World) (hv : Hid (VarsD w)) (hS : Hid (Sl w A l)) (hfi : Hid (fits 7 (.lst (l.map .int)))) (hle : Hid ((enc (.lst (l.map .int))).length ≤ 14000)) :
    Calls Tryd.prog 135 #[.agg (tcs h c), .string s, .slice A n cA] w fun e w' => e = .returned (TrE (abL h (bys s) (.lst (l.map .int))) (c + 1) 0) ∧ Below w.heap.size w w' := by
  obtain ⟨W, hW⟩ : ∃ W, (w.alloc (.cells (tcs h c) 125)).alloc (.cells #[.int .u8 0, .int .u8 0, .int .u8 0, .int .u8 0, .int .u8 0, .int .u8 0, .int .u8 0, .int .u8 0, .int .u8 0, .int .u8 0, .int .u8 0, .int .u8 0, .int .u8 0, .int .u8 0, .int .u8 0, .int .u8 0, .int .u8 0, .int .u8 0, .int .u8 0, .int .u8 0, .int .u8 0, .int .u8 0, .int .u8 0, .int .u8 0, .int .u8 0, .int .u8 0, .int .u8 0, .int .u8 0, .int .u8 0, .int .u8 0, .int .u8 0, .int .u8 0, .int .i64 0] 125) = W := ⟨_, rfl⟩
  have HBX : Hid (Below w.heap.size w W) := Lib.hid (by rw [← hW]; exact below_two (Below.refl _ _))
  have HT0 : Hid (TBlk W w.heap.size h c) := Lib.hid (by rw [← hW]; exact heap_alloc2_old _ _ _)
  have HR0 : Hid (TBlk W (w.heap.size + 1) (zer 32) 0) := Lib.hid (by rw [← hW, ztr]; exact heap_alloc2_new _ _ _)
  have HV := Lib.hid (hv.out.below HBX.out)
  have HSL := Lib.hid (hS.out.below HBX.out)
  have HW := Lib.hid hW
  clear hW hv
  go_enter Tryd.func135, Tryd.ntmps135
  go_upto_region 1 with (fail)
  rw [HW.out]
  clear HW
  have HBd := Lib.hid ((Below.refl W.heap.size W).drew)
  have HTd := Lib.hid (HT0.out.below HBd.out)
  have HRd := Lib.hid (HR0.out.below HBd.out)
  have HVd := Lib.hid (HV.out.below HBd.out)
  have HSd := Lib.hid (HSL.out.below HBd.out)
  have HB3 := Lib.hid (below_ext HBX.out HBd.out)
  obtain ⟨Wd, hWd⟩ : ∃ u, W.drew = u := ⟨_, rfl⟩
  refine wp_region_T (S := fun w' => w'.heap[w.heap.size]? = some (.cells (tcs h c) 125 (0, 0))) (E := [7, 8]) (by kernel_rfl) (HTd.out) (fun hHeld => ?_)
  refine wpT_take (i := 0) (oi := _) (v := (.agg (tcs h c))) rfl (by kernel_rfl) (by kernel_rfl) (by kernel_rfl) (by kernel_rfl) (fun _ _ _ h => h) (Or.inl ⟨by rfl, yields_row 125 _ rfl w.heap.size rfl _ _ _ _ (fun _ h => h) Tryd.underlying125 rfl (tr_info hl.out)⟩) (by assumption) ?_
  try simp only [List.getElem_toArray, List.getElem_cons_zero, List.getElem_cons_succ, Act.put, List.setIfInBounds_toArray, List.set_cons_zero, List.set_cons_succ]
  refine wpT_take (i := 1) (oi := _) (v := ?_) rfl (by kernel_rfl) (by kernel_rfl) (by kernel_rfl) (by kernel_rfl) (fun _ _ _ h => h) (Or.inl ⟨by rfl, ?_⟩) (by assumption) ?_
  rotate_left; (intro wS hSw; (try dsimp only at hSw); go_simp <;> with_reducible rfl)
  try simp only [List.getElem_toArray, List.getElem_cons_zero, List.getElem_cons_succ, Act.put, List.setIfInBounds_toArray, List.set_cons_zero, List.set_cons_succ]
  refine wpT_take (i := 2) (oi := _) (v := ?_) rfl (by kernel_rfl) (by kernel_rfl) (by kernel_rfl) (by kernel_rfl) (fun _ _ _ h => h) (Or.inl ⟨by rfl, ?_⟩) (by assumption) ?_
  rotate_left; (intro wS hSw; (try dsimp only at hSw); go_simp <;> with_reducible rfl)
  try simp only [List.getElem_toArray, List.getElem_cons_zero, List.getElem_cons_succ, Act.put, List.setIfInBounds_toArray, List.set_cons_zero, List.set_cons_succ]
  refine wpT_one (i := 3) (by kernel_rfl) rfl (fun K hK => ?_)
  go_simp
  try rw [hWd]
  rw [hWd] at HBd HTd HRd HVd HSd HB3
  refine (ints_any A l n cA hn (by omega) _ HSd).mono ?_
  rintro e w4 ⟨cI, rfl, hI4, hb4⟩
  refine hK.out _ _ ?_ (fun hHeld => ?_)
  · exact HTd.out.below hb4
  clear hK K
  try simp only [List.getElem_toArray, List.getElem_cons_zero, List.getElem_cons_succ, Act.put, List.setIfInBounds_toArray, List.set_cons_zero, List.set_cons_succ]
  refine wpT_one (i := 4) (by kernel_rfl) rfl (fun K hK => ?_)
  go_simp
  have HV4 := Lib.hid (HVd.out.below hb4)
  rw [show cI.val = (.agg #[.int .i64 cI.kind, .int .i64 cI.n, .slice cI.B cI.nb cI.cb, .slice cI.L cI.nl cI.cl] : Value) from rfl]
  refine (tabsorb_ok h hl hb c hc0 hc1 s hs hr _ cI _ HV4 (Lib.hid hI4) hfi hle).mono ?_
  rintro e w5 ⟨rfl, hb5⟩
  have HR5 := Lib.hid ((HRd.out.below hb4).below hb5)
  have HB5 := Lib.hid (below_ext (below_ext HB3.out hb4) hb5)
  obtain ⟨R, hR⟩ : ∃ R, abL h (bys s) (.lst (l.map .int)) = R := ⟨_, rfl⟩
  have hRl : R.length = 32 := by rw [← hR]; exact abL_len _ _ _
  have HN : Kp (abL h (bys s) (.lst (l.map .int)) = R) := ⟨hR⟩
  have HRL := Lib.hid hRl
  rw [hR, show TrE R (c + 1) 0 = .tuple #[.agg (tcs R (c + 1)), .int .i64 0] from rfl]
  refine hK.out _ _ ?_ (fun hHeld => ?_)
  · exact (HTd.out.below hb4).below hb5
  clear hK K
  try simp only [List.getElem_toArray, List.getElem_cons_zero, List.getElem_cons_succ, Act.put, List.setIfInBounds_toArray, List.set_cons_zero, List.set_cons_succ]
  refine wpT_take (i := 5) (oi := _) (v := ?_) rfl (by kernel_rfl) (by kernel_rfl) (by kernel_rfl) (by kernel_rfl) (fun _ _ _ h => h) (Or.inl ⟨by rfl, ?_⟩) (by assumption) ?_
  rotate_left; (intro wS hSw; (try dsimp only at hSw); go_simp <;> with_reducible rfl)
  try simp only [List.getElem_toArray, List.getElem_cons_zero, List.getElem_cons_succ, Act.put, List.setIfInBounds_toArray, List.set_cons_zero, List.set_cons_succ]
  refine wpT_take (i := 6) (oi := _) (v := ?_) rfl (by kernel_rfl) (by kernel_rfl) (by kernel_rfl) (by kernel_rfl) (fun _ _ _ h => h) (Or.inl ⟨by rfl, ?_⟩) (by assumption) ?_
  rotate_left; (intro wS hSw; (try dsimp only at hSw); go_simp <;> with_reducible rfl)
  try simp only [List.getElem_toArray, List.getElem_cons_zero, List.getElem_cons_succ, Act.put, List.setIfInBounds_toArray, List.set_cons_zero, List.set_cons_succ]
  refine wpT_pass (i := 7) (by kernel_rfl) (by simp) rfl (fun K hK => ?_)
  rw [show (if Region.wanted _ _ = true then _ else _ : Prop) = _ from if_pos rfl]
  refine wp_store_row 125 _ _ rfl (w.heap.size + 1) (tcs R (c + 1)) rfl rfl 125 _ HR5.out (tr_info HRL.out) (tcs_sz rfl HRL.out) (tcs_one _ _) ?_
  refine hK.out _ _ ?_
  clear hK K
  try simp only [List.getElem_toArray, List.getElem_cons_zero, List.getElem_cons_succ, Act.put, List.setIfInBounds_toArray, List.set_cons_zero, List.set_cons_succ]
  refine wpT_pass (i := 8) (by kernel_rfl) (by simp) rfl (fun K hK => ?_)
  go_simp
  refine hK.out _ _ ?_
  clear hK K
  try simp only [List.getElem_toArray, List.getElem_cons_zero, List.getElem_cons_succ, Act.put, List.setIfInBounds_toArray, List.set_cons_zero, List.set_cons_succ]
  refine wpT_done (by kernel_rfl) ?_ _
  have HRR : Hid (TBlk (w5.setRow (w.heap.size + 1) (tcs R (c + 1))) (w.heap.size + 1) R (c + 1)) := Lib.hid HR5.out.setRow
  have HBF : Below w.heap.size w (w5.setRow (w.heap.size + 1) (tcs R (c + 1))) := below_setRow' HB5.out (by omega)
  clear hR hRl hb4 hb5 hI4 HV4 HB5 HR5 hWd
  go_wp2
  exact bodyPost_ret (v := TrE R (c + 1) 0) (results_cell_tmp2 (p := 6) (q := 7) (ty := 125) rfl _ _ ⟨w.heap.size + 1, 0, none⟩ _ _ rfl rfl (run_loadVar_row _ _ _ _ _ _ _ HRR.out Tryd.underlying125 rfl (tr_info HRL.out))) rfl ⟨by rw [HN.out], HBF⟩
end Go.Proofs.YtdlhodbiaoafiaaDoor
namespace Go.Proofs.YtdlhodbiaoafiaaDoor
open Go.RowKit SpM
set_option linter.unusedVariables false
set_option linter.unusedSimpArgs false
set_option maxRecDepth 100000
def tagCh : ByteArray := { data := #[115, 112, 101, 99, 105, 101, 47, 99, 104, 97, 108, 108, 101, 110, 103, 101] }
/-- the digest that a challenge is made of. -/
def chD (h s : List Int) : List Int := tagged (bys tagCh) (enc (.lst [.byt h, .byt s]))
/-- the challenge. -/
def chN (q : Int) (h s : List Int) : Int := numv q (chD h s)
/-- the state behind a challenge. -/
def chL (q : Int) (h s : List Int) : List Int := abL h s (.int (chN q h s))
theorem chD_bytes (h s : List Int) : bytesB (chD h s) = true := sha_bytes _
theorem chN_lo {q : Int} (hq : 1 ≤ q) (h s : List Int) : 0 ≤ chN q h s ∧ chN q h s < q := numL_lo hq 16
theorem results_cell_tmp3 {P : Program} {fn : Func} {p q r : Tmp} {ty : TypeId} (h : fn.results = #[.cell p ty, .tmp q, .tmp r]) (tmps : Array Value) (w : World) (a : Addr) (v u x : Value)
    (hp : tmps.getD p undef = .pointer (some a)) (hq : tmps.getD q undef = u) (hr : tmps.getD r undef = x) (hl : (loadVar ty a).run P w = .ok v w) : (results fn tmps).run P w = .ok (.tuple #[v, u, x]) w := by
  have hp' : tmps[p]?.getD undef = .pointer (some a) := by simpa using hp
  have hq' : tmps[q]?.getD undef = u := by simpa using hq
  have hr' : tmps[r]?.getD undef = x := by simpa using hr
  simp [results, h, hp', hq', hr', asAddr, hl]
/-- the answer of a challenge. -/
def ChE (h : List Int) (c n e : Int) : Value := .tuple #[.agg (tcs h c), .int .i64 n, .int .i64 e]
set_option maxHeartbeats 3200000 in
theorem tchal_ok (h : List Int) (hl : Hid (h.length = 32)) (hb : Hid (bytesB h = true)) (c : Int) (hc0 : 0 ≤ c) (hc1 : c < 1000) (s : ByteArray) (hs : s.size ≤ 1000) (hr : Hid (labB (bys s) = true)) (q : Int) (hq1 : 2 ≤ q) (hq2 : q < 2305843009213693952) (w : World) (hv : Hid (VarsD w)) :
    Calls Tryd.prog 136 #[.agg (tcs h c), .string s, .int .i64 q] w fun e w' => e = .returned (ChE (chL q h (bys s)) (c + 1) (chN q h (bys s)) 0) ∧ Below w.heap.size w w' := by
  have hs0 : 1 ≤ s.size := by
    have h := hr.out
    rw [labB, bys_len] at h
    simp at h
    exact h.1.1
  obtain ⟨W, hW⟩ : ∃ W, (w.alloc (.cells (tcs h c) 125)).alloc (.cells #[.int .u8 0, .int .u8 0, .int .u8 0, .int .u8 0, .int .u8 0, .int .u8 0, .int .u8 0, .int .u8 0, .int .u8 0, .int .u8 0, .int .u8 0, .int .u8 0, .int .u8 0, .int .u8 0, .int .u8 0, .int .u8 0, .int .u8 0, .int .u8 0, .int .u8 0, .int .u8 0, .int .u8 0, .int .u8 0, .int .u8 0, .int .u8 0, .int .u8 0, .int .u8 0, .int .u8 0, .int .u8 0, .int .u8 0, .int .u8 0, .int .u8 0, .int .u8 0, .int .i64 0] 125) = W := ⟨_, rfl⟩
  have HBX : Hid (Below w.heap.size w W) := Lib.hid (by rw [← hW]; exact below_two (Below.refl _ _))
  have HT0 : Hid (TBlk W w.heap.size h c) := Lib.hid (by rw [← hW]; exact heap_alloc2_old _ _ _)
  have HR0 : Hid (TBlk W (w.heap.size + 1) (zer 32) 0) := Lib.hid (by rw [← hW, ztr]; exact heap_alloc2_new _ _ _)
  have HV := Lib.hid (hv.out.below HBX.out)
  have HW := Lib.hid hW
  have hcn : ¬ (c = 1000) := by omega
  have hqa : ¬ (q < 2) := by omega
  have hqb : ¬ (2305843009213693952 ≤ q) := by omega
  clear hW hv
  go_enter Tryd.func136, Tryd.ntmps136
  go_upto_region 1 with (fail)
  rw [HW.out]
  clear HW
  go_wp2_with ((with_reducible show wpList _ _ _ (⟨some 14, _, _, _, _, _⟩ :: _) _ _); refine wpList_load_row rfl 125 _ rfl w.heap.size rfl _ _ _ _ HT0.out Tryd.underlying125 rfl (tr_info hl.out) ?_)
  refine (tvalid_any h hl c hc0 (by omega) _).mono ?_
  rintro e w1 ⟨rfl, hb1⟩
  have HB1 := Lib.hid (below_ext HBX.out hb1)
  have HT1 := Lib.hid (HT0.out.below hb1)
  have HV1 := Lib.hid (HV.out.below hb1)
  have HR1 := Lib.hid (HR0.out.below hb1)
  clear hb1 HT0 HV HR0 HBX
  go_wp2_with fail
  refine (tlabel_any s hs true hr _).mono ?_
  rintro e w2 ⟨rfl, hb2⟩
  have HT2 := Lib.hid (HT1.out.below hb2)
  have HV2 := Lib.hid (HV1.out.below hb2)
  have HR2 := Lib.hid (HR1.out.below hb2)
  have HB2 := Lib.hid (below_ext HB1.out hb2)
  clear hb2 HT1 HV1 HR1 HB1
  have hcnt := HT2.out.count hl.out
  go_wp2_with ((with_reducible show wpList _ _ _ (⟨some 37, _, _, _, _, _⟩ :: _) _ _); refine wpList_load_row rfl 125 _ rfl w.heap.size rfl _ _ _ _ HT2.out Tryd.underlying125 rfl (tr_info hl.out) ?_)
  clear hcnt
  refine (hash0_any tagCh (by decide) (by decide) h hl hb c s hs0 hs _ HV2).mono ?_
  rintro e w4 ⟨rfl, hb4⟩
  have HT4 := Lib.hid (HT2.out.below hb4)
  have HR4 := Lib.hid (HR2.out.below hb4)
  have HV4 := Lib.hid (HV2.out.below hb4)
  have HB4 := Lib.hid (below_ext HB2.out hb4)
  obtain ⟨R, hR⟩ : ∃ R, tagged (bys tagCh) (enc (.lst [.byt h, .byt (bys s)])) = R := ⟨_, rfl⟩
  have hRl : R.length = 32 := by rw [← hR]; exact tagged_len _ _
  have HRB : Hid (bytesB R = true) := Lib.hid (by rw [← hR]; exact chD_bytes _ _)
  have HN : Kp (chD h (bys s) = R) := ⟨hR⟩
  have HRL := Lib.hid hRl
  rw [hR, show HashOk R = .tuple #[.agg (arr .u8 R), .int .i64 0] from rfl]
  clear hb4 HT2 HV2 HR2 HB2 hR hRl
  go_upto_region 8 with ((with_reducible show wpList _ _ _ (⟨none, _, _, _, _, _⟩ :: _) _ _); refine wpList_store_row rfl 43 _ _ rfl w4.heap.size (arr .u8 R) rfl rfl _ _ (heap_alloc_new _ _) (hash_info HRL.out) (arrs_sz (l := zer 32) rfl HRL.out) (arr_one _) ?_)
  rw [World.setRow_alloc_new]
  try simp only [Act.put]
  have HK5 : Hid (Blk .u8 43 (w4.alloc (.cells (arr .u8 R) 43)) w4.heap.size R) := Lib.hid (Blk.new _ _)
  have HT5 := Lib.hid (HT4.out.below (below_box0 w4 (.cells (arr .u8 R) 43)))
  have HR5 := Lib.hid (HR4.out.below (below_box0 w4 (.cells (arr .u8 R) 43)))
  have HV5 := Lib.hid (HV4.out.below (below_box0 w4 (.cells (arr .u8 R) 43)))
  have HB5 := Lib.hid (below_ext HB4.out (below_box0 w4 (.cells (arr .u8 R) 43)))
  obtain ⟨W5, hW5⟩ : ∃ u, w4.alloc (.cells (arr .u8 R) 43) = u := ⟨_, rfl⟩
  rw [hW5] at HK5 HT5 HR5 HB5 HV5 ⊢
  clear hW5 HT4 HR4 HV4 HB4
  go_wp2_with ((with_reducible show wpList _ _ _ (⟨some 47, _, _, _, _, _⟩ :: _) _ _); refine wpList_load_row rfl 43 _ rfl w4.heap.size rfl _ _ _ _ HK5.out Tryd.underlying43 rfl (hash_info HRL.out) ?_)
  refine (number_any R HRL HRB q (by omega) hq2 _).mono ?_
  rintro e w6 ⟨rfl, hb6⟩
  have HT6 := Lib.hid (HT5.out.below hb6)
  have HR6 := Lib.hid (HR5.out.below hb6)
  have HV6 := Lib.hid (HV5.out.below hb6)
  have HB6 := Lib.hid (below_ext HB5.out hb6)
  obtain ⟨n, hn⟩ : ∃ n, numv q R = n := ⟨_, rfl⟩
  have hn0 : 0 ≤ n ∧ n < q := by rw [← hn]; exact numL_lo (by omega) 16
  obtain ⟨hn1, hn2⟩ := hn0
  have HNN : Kp (chN q h (bys s) = n) := ⟨by rw [chN, HN.1]; exact hn⟩
  rw [hn]
  clear hb6 hn HT5 HR5 HV5 HB5 HK5
  go_wp2_with ((with_reducible show wpList _ _ _ (⟨some 57, _, _, _, _, _⟩ :: _) _ _); refine wpList_load_row rfl 125 _ rfl w.heap.size rfl _ _ _ _ HT6.out Tryd.underlying125 rfl (tr_info hl.out) ?_)
  refine (tabsorb_ok h hl hb c hc0 hc1 s hs hr (.int n) ⟨1, n, none, 0, 0, none, 0, 0⟩ _ HV6 (Lib.hid (.int n _ rfl rfl rfl rfl)) (Lib.hid ⟨by omega, by omega⟩) (Lib.hid (by rw [enc_int, List.length_cons, be8_len]; decide))).mono ?_
  rintro e w7 ⟨rfl, hb7⟩
  have HR7 := Lib.hid (HR6.out.below hb7)
  have HB7 := Lib.hid (below_ext HB6.out hb7)
  obtain ⟨G, hG⟩ : ∃ G, abL h (bys s) (.int n) = G := ⟨_, rfl⟩
  have HGL : Hid (G.length = 32) := Lib.hid (by rw [← hG]; exact abL_len _ _ _)
  have HNG : Kp (chL q h (bys s) = G) := ⟨by rw [chL, HNN.1]; exact hG⟩
  rw [hG, show TrE G (c + 1) 0 = .tuple #[.agg (tcs G (c + 1)), .int .i64 0] from rfl]
  clear hb7 hG HR6 HB6 HT6 HV6
  go_upto_region 14 with ((with_reducible show wpList _ _ _ (⟨none, _, _, _, _, _⟩ :: _) _ _); refine wpList_store_row rfl 125 _ _ rfl w7.heap.size (tcs G (c + 1)) rfl rfl _ _ (heap_alloc_new _ _) (tr_info HGL.out) (tcs_sz (h := zer 32) (c := 0) rfl HGL.out) (tcs_one _ _) ?_)
  rw [World.setRow_alloc_new]
  try simp only [Act.put]
  have HK8 : Hid (TBlk (w7.alloc (.cells (tcs G (c + 1)) 125)) w7.heap.size G (c + 1)) := Lib.hid (TBlk.new _ _ _)
  have HR8 := Lib.hid (HR7.out.below (below_box0 w7 (.cells (tcs G (c + 1)) 125)))
  have HB8 := Lib.hid (below_ext HB7.out (below_box0 w7 (.cells (tcs G (c + 1)) 125)))
  obtain ⟨W8, hW8⟩ : ∃ u, w7.alloc (.cells (tcs G (c + 1)) 125) = u := ⟨_, rfl⟩
  rw [hW8] at HK8 HR8 HB8 ⊢
  clear hW8 HR7 HB7
  go_wp2_with (first
    | ((with_reducible show wpList _ _ _ (⟨some 68, _, _, _, _, _⟩ :: _) _ _); refine wpList_load_row rfl 125 _ rfl w7.heap.size rfl _ _ _ _ HK8.out Tryd.underlying125 rfl (tr_info HGL.out) ?_)
    | ((with_reducible show wpList _ _ _ (⟨none, _, _, _, _, _⟩ :: _) _ _); refine wpList_store_row rfl 125 _ _ rfl (w.heap.size + 1) (tcs G (c + 1)) rfl rfl _ _ HR8.out (tr_info HGL.out) (tcs_sz rfl HGL.out) (tcs_one _ _) ?_))
  have HRR : Hid (TBlk (W8.setRow (w.heap.size + 1) (tcs G (c + 1))) (w.heap.size + 1) G (c + 1)) := Lib.hid HR8.out.setRow
  have HBF : Below w.heap.size w (W8.setRow (w.heap.size + 1) (tcs G (c + 1))) := below_setRow' HB8.out (by omega)
  exact bodyPost_ret (v := ChE G (c + 1) n 0) (results_cell_tmp3 (p := 6) (q := 7) (r := 8) (ty := 125) rfl _ _ ⟨w.heap.size + 1, 0, none⟩ _ _ _ rfl rfl rfl (run_loadVar_row _ _ _ _ _ _ _ HRR.out Tryd.underlying125 rfl (tr_info HGL.out))) rfl ⟨by rw [HNG.out, HNN.out], HBF⟩
end Go.Proofs.YtdlhodbiaoafiaaDoor
namespace Go.Proofs.YtdlhodbiaoafiaaDoor
open Go.RowKit SpM
set_option linter.unusedVariables false
set_option linter.unusedSimpArgs false
set_option maxRecDepth 100000
theorem grown_setRow (w : World) (a : Nat) (cs : Array Value) : w.grownBy (w.setRow a cs) (some a) :=
  ⟨rfl, rfl, rfl, by simp [World.setRow], fun k hk hne => setRow_other w a k cs (fun e => hne (by rw [e]))⟩
theorem OwnI.setRow {w : World} {base a : Nat} {v : Value} {cs : List Ic} {r : Array Value} (h : OwnI w base v cs) (ha : a < base) : OwnI (w.setRow a r) base v cs :=
  World.ownsRow.kept h (grown_setRow w a r) (Or.inr (h.no ha))
theorem Sk.setRow {K : IntKind} {w : World} {b a : Nat} {l : List Int} {r : Array Value} (h : Sk K w (some ⟨b, 0, none⟩) l) (hne : a ≠ b) : Sk K (w.setRow a r) (some ⟨b, 0, none⟩) l :=
  h.grown (grown_setRow w a r) (fun b' o' e _ e2 => by cases e; cases e2; exact hne rfl)
end Go.Proofs.YtdlhodbiaoafiaaDoor
namespace Go.Proofs.YtdlhodbiaoafiaaDoor
open Go.RowKit SpM
set_option linter.unusedVariables false
set_option linter.unusedSimpArgs false
set_option maxRecDepth 100000
theorem infoD : (Tryd.prog.info? 74).map (·.size) = some 33 := by kernel_rfl
theorem dr_info {h : List Int} {c : Int} (hl : h.length = 32) : (Tryd.prog.info? 74).map (·.size) = some (tcs h c).size := infoD.trans (congrArg some (tcs_size hl).symm)
/-- a block that holds a draw. -/
def DBlk (w : World) (b : Nat) (h : List Int) (c : Int) : Prop := w.heap[b]? = some (.cells (tcs h c) 74 (0, 0))
theorem DBlk.below {w w' : World} {b : Nat} {h : List Int} {c : Int} (hh : DBlk w b h c) (hb : Below w.heap.size w w') : DBlk w' b h c := (hb.block b (Array.getElem?_eq_some_iff.1 hh).1).trans hh
theorem DBlk.new (w : World) (h : List Int) (c : Int) : DBlk (w.alloc (.cells (tcs h c) 74)) w.heap.size h c := heap_alloc_new _ _
theorem DBlk.lt {w : World} {b : Nat} {h : List Int} {c : Int} (hh : DBlk w b h c) : b < w.heap.size := (Array.getElem?_eq_some_iff.1 hh).1
theorem DBlk.count {w : World} {b : Nat} {h : List Int} {c : Int} (hh : DBlk w b h c) (hl : h.length = 32) : w.cell? ⟨b, 32, none⟩ = some (.int .i64 c) := by
  rw [cell_blk hh, tcs, Array.getElem?_append_right (by rw [arr_size, hl]; exact Nat.le_refl _), arr_size, hl]
  rfl
theorem DBlk.sk {w : World} {b : Nat} {h : List Int} {c : Int} (hh : DBlk w b h c) : Sk .u8 w (some ⟨b, 0, none⟩) h := fun j hj => ⟨b, 0, rfl, by
  rw [Nat.zero_add, cell_blk hh, tcs, Array.getElem?_append_left (by rw [arr_size]; exact hj)]
  exact arr_get hj⟩
theorem DBlk.setRow {w : World} {b : Nat} {h h' : List Int} {c c' : Int} (hh : DBlk w b h c) : DBlk (w.setRow b (tcs h' c')) b h' c' := setRow_heap w b _ _ _ _ hh
/-- which sources are valid. -/
def drB (c : Int) : Bool := decide (0 ≤ c) && decide (c ≤ 1099511627776)
theorem dvalid_any (h : List Int) (hl : Hid (h.length = 32)) (c : Int) (r : Bool) (hr : Hid (drB c = r)) (w : World) :
    Calls Tryd.prog 44 #[.agg (tcs h c)] w fun e w' => e = .returned (.bool r) ∧ Below w.heap.size w w' := by
  have hc := (DBlk.new w h c).count hl.out
  by_cases h0 : 0 ≤ c
  · have d1 : decide ((0 : Int) ≤ c) = true := by simp [h0]
    obtain ⟨t, ht⟩ : ∃ t, decide (c ≤ 1099511627776) = t := ⟨_, rfl⟩
    obtain rfl : t = r := by rw [← hr.out, drB, d1, ht]; rfl
    clear hr
    go_enter Tryd.func44, Tryd.ntmps44
    go_wp2
    go_ret
    exact ⟨by first | rfl | (rw [ht]), below_box0 _ _⟩
  · have d1 : decide ((0 : Int) ≤ c) = false := by simp; omega
    obtain rfl : r = false := by rw [← hr.out, drB, d1]; rfl
    clear hr
    go_enter Tryd.func44, Tryd.ntmps44
    go_wp2
    go_ret
    exact ⟨rfl, below_box0 _ _⟩
theorem dcheck_ok (h : List Int) (hl : Hid (h.length = 32)) (c : Int) (hv : Hid (drB c = true)) (n lo hi : Int) (h1 : lo ≤ n) (h2 : n ≤ hi) (w : World) :
    Calls Tryd.prog 132 #[.agg (tcs h c), .int .i64 n, .int .i64 lo, .int .i64 hi] w fun e w' => e = .returned (.int .i64 0) ∧ Below w.heap.size w w' := by
  have HT0 : Hid (DBlk (w.alloc (.cells (tcs h c) 74)) w.heap.size h c) := Lib.hid (DBlk.new _ _ _)
  have hb0 := below_box0 w (.cells (tcs h c) 74)
  obtain ⟨W, hW⟩ : ∃ W, w.alloc (.cells (tcs h c) 74) = W := ⟨_, rfl⟩
  rw [hW] at HT0 hb0
  have HB0 := Lib.hid hb0
  have HW := Lib.hid hW
  have d1 : decide (n < lo) = false := by simp; omega
  have d2 : decide (hi < n) = false := by simp; omega
  clear hW hb0
  go_enter Tryd.func132, Tryd.ntmps132
  go_upto_region 1 with (fail)
  rw [HW.out]
  clear HW
  go_wp2_with ((with_reducible show wpList _ _ _ (⟨some 10, _, _, _, _, _⟩ :: _) _ _); refine wpList_load_row rfl 74 _ rfl w.heap.size rfl _ _ _ _ HT0.out Tryd.underlying74 rfl (dr_info hl.out) ?_)
  refine (dvalid_any h hl c true hv _).mono ?_
  rintro e w1 ⟨rfl, hb1⟩
  have hbF := below_ext HB0.out hb1
  go_wp2
  go_ret
  exact ⟨rfl, hbF⟩
set_option maxHeartbeats 6400000 in
theorem dposition_any (h : List Int) (hl : Hid (h.length = 32)) (c : Int) (hc0 : 0 ≤ c) (hc1 : c ≤ 1099511627776) (w : World) :
    Calls Tryd.prog 181 #[.agg (tcs h c)] w (KOut .u8 5 (h ++ be8 c) w) := by
  obtain ⟨i1, hi1, hy0, hy1, hy2⟩ := info_parts byteInfo
  have HT0 : Hid (DBlk (w.alloc (.cells (tcs h c) 74)) w.heap.size h c) := Lib.hid (DBlk.new _ _ _)
  have hb0 := below_box0 w (.cells (tcs h c) 74)
  have HSZ : Hid ((w.alloc (.cells (tcs h c) 74)).heap.size = w.heap.size + 1) := Lib.hid (by simp)
  obtain ⟨W, hW⟩ : ∃ W, w.alloc (.cells (tcs h c) 74) = W := ⟨_, rfl⟩
  rw [hW] at HT0 hb0 HSZ
  have HB0 := Lib.hid hb0
  have HW := Lib.hid hW
  clear hW hb0
  go_enter Tryd.func181, Tryd.ntmps181
  go_upto_region 1 with (fail)
  rw [HW.out]
  clear HW
  have HT1 := Lib.hid (HT0.out.below (below_box0 W (.cells #[] 5)))
  have hrow : (W.alloc (.cells #[] 5)).ownsRow W.heap.size 5 1 (.slice (some ⟨W.heap.size, 0, none⟩) 0 0) 0 [] := ⟨rfl, Or.inr ⟨W.heap.size, 0, #[], rfl, Nat.le_refl _, heap_alloc_new _ _, Nat.le_refl _, by decide, rfl, rfl⟩⟩
  have b1 : 0 + 32 ≤ maxLen := by unfold maxLen; omega
  have b2 : (0 + 32) * 1 ≤ 140737488355328 := by omega
  have b3 : W.heap.size ≤ (W.alloc (.cells #[] 5)).heap.size := by simp
  have hlen : (h.map (Value.int .u8)).length = 32 * 1 := by simp [hl.out]
  go_upto_region 2 with (at_builtin; refine wpList_append_lies rfl _ _ 92 rfl W.heap.size 5 i1 (.int .u8 0) 1 1 Tryd.underlying92 hi1 hy0 hy1 hy2 rfl (by decide) (.slice (some ⟨W.heap.size, 0, none⟩) 0 0) _ _ rfl hrow ⟨w.heap.size, 0, none⟩ 32 32 (h.map (.int .u8)) rfl hlen HT1.out.sk.news (ints_oneCell .u8 _) (by decide) b1 b2 b3 _ rfl ?_; intro g1 cap1 w1 hown1 hgrow1 hat1 hlt1)
  have HOH : Hid (OwnK .u8 5 w1 W.heap.size (.slice (some ⟨g1, 0, none⟩) 32 cap1) (h ++ (be8 c).take 0)) := Lib.hid (by unfold OwnK; rw [List.take_zero, List.append_nil, hl.out]; simpa using hown1)
  have HB1 : Hid (Below W.heap.size W w1) := Lib.hid (((Below.refl W.heap.size W).alloc (Nat.le_refl _) (.cells #[] 5)).grown hgrow1 (by simp) (fun j hj => by cases hj; exact Nat.le_refl _))
  clear hown1 hgrow1 hat1 hlt1 hrow b1 b2 b3 hlen HT1
  go_wp2_with fail
  go_loopw [3, 4] (fun p i u => ∃ k : Nat, k ≤ 8 ∧ i = .int .i64 (56 - 8 * (k : Int)) ∧ Hid (OwnK .u8 5 u W.heap.size p (h ++ (be8 c).take k)) ∧ Hid (Below W.heap.size W u)) (fun _ i _ => (intOf i + 8).toNat)
  case atStart => exact ⟨0, by omega, by simp, HOH, HB1⟩
  case round =>
    obtain ⟨k, hk, rfl, HO, HBr⟩ := hrel
    by_cases hlt : k < 8
    · have d1 : decide ((0 : Int) ≤ 56 - 8 * (k : Int)) = true := by simp; omega
      obtain ⟨q, hq⟩ : ∃ q, c / 2 ^ (56 - 8 * k) = q := ⟨_, rfl⟩
      have HTK : Hid ((be8 c).take (k + 1) = (be8 c).take k ++ [q % 256]) := Lib.hid (by
        rw [take_one (show k < (be8 c).length by rw [be8_len]; exact hlt)]
        have h2 := bes_get (s := 8) (Or.inr rfl) c k hlt
        rw [show bes 8 c = be8 c from rfl] at h2
        rw [h2, ← hq, show 8 * (8 - 1 - k) = 56 - 8 * k by omega])
      have HLN : Hid ((h ++ (be8 c).take k).length = 32 + k) := Lib.hid (by rw [List.length_append, List.length_take, be8_len, hl.out]; omega)
      have j0 : (0 : Int) ≤ 56 - 8 * (k : Int) := by omega
      have j1 : (56 - 8 * (k : Int)).toNat = 56 - 8 * k := by omega
      have hown := HO.out.row HLN.out
      have hbs := HBr.out.size
      have hcnt := (HT0.out.below HBr.out).count hl.out
      have b1 : 32 + k + 1 ≤ maxLen := by unfold maxLen; omega
      have b2 : (32 + k + 1) * 1 ≤ 140737488355328 := by omega
      have b3 : W.heap.size ≤ (wr.alloc (.cells #[.int .u8 (q % 256)] 5)).heap.size := by simp; omega
      go_wp2_with (at_builtin; refine wpList_append_lies rfl _ _ 92 rfl W.heap.size 5 i1 (.int .u8 0) 1 1 Tryd.underlying92 hi1 hy0 hy1 hy2 rfl (by decide) u3 _ _ rfl (hown.alloc _) ⟨wr.heap.size, 0, none⟩ 1 1 [.int .u8 (q % 256)] rfl rfl (World.news_of_block (cs := #[.int .u8 (q % 256)]) (t := 5) (fr := (0, 0)) (heap_alloc_new wr _)) (by simp [Value.oneCell']) (by decide) b1 b2 b3 _ rfl ?_; intro gg cap wz hown1 hgrow hat hlt2)
      have HO2 : Hid (OwnK .u8 5 wz W.heap.size (.slice (some ⟨gg, 0, none⟩) (32 + k + 1) cap) (h ++ (be8 c).take (k + 1))) := Lib.hid (by
        rw [HTK.out, ← List.append_assoc]
        exact OwnK.app (ys := [q % 256]) HLN.out.symm rfl hown1)
      have HB2 : Hid (Below W.heap.size W wz) := Lib.hid ((HBr.out.alloc hbs (.cells #[.int .u8 (q % 256)] 5)).grown hgrow (by simp; omega) (fun j hj => (World.ownsRow.lt hown j hj).1))
      clear hown1 hgrow hown hat hlt2 b1 b2 b3 hcnt
      go_wp2
      go_roundw
      case rel => exact ⟨k + 1, by omega, by go_num, HO2, HB2⟩
      case measure => simp [intOf]; omega
    · obtain rfl : k = 8 := by omega
      have HF : Hid (OwnK .u8 5 wr W.heap.size u3 (h ++ be8 c)) := Lib.hid (by
        have h2 := HO.out
        rwa [List.take_of_length_le (by rw [be8_len]; exact Nat.le_refl _)] at h2)
      have hbF := below_ext HB0.out HBr.out
      have hz := HB0.out.size
      clear HO
      go_wp2
      go_ret
      exact ⟨_, rfl, HF.out.mono hz, hbF⟩
end Go.Proofs.YtdlhodbiaoafiaaDoor
namespace Go.Proofs.YtdlhodbiaoafiaaDoor
open Go.ChangeShapes Go.WideShapes Go.ChangeAt Go.RowKit SpM
set_option linter.unusedVariables false
/-- a draw for the witness. -/
def zDraw : Value := .agg (List.replicate 32 (Value.int .u8 0) ++ [Value.int .i64 0]).toArray
def zDrawD {H : Type} : DataW H := .agg [.agg (List.replicate 32 (.lit (Lit.int .u8 0))), .lit (Lit.int .i64 0)]
theorem cells_u8 {cl : List Value} : ∀ (k : Nat), (∀ i, i < k → ∃ z : Int, (cl.drop i).take 1 = [.int .u8 z] ∧ 0 ≤ z ∧ z < 256) → ∃ h : List Int, h.length = k ∧ cl.take k = h.map (.int .u8) ∧ bytesB h = true
  | 0, _ => ⟨[], rfl, by simp, rfl⟩
  | k + 1, hf => by
    obtain ⟨h, h1, h2, h3⟩ := cells_u8 k (fun i hi => hf i (by omega))
    obtain ⟨z, hz, z0, z1⟩ := hf k (by omega)
    refine ⟨h ++ [z], by simp [h1], by rw [List.take_add, h2, hz, List.map_append]; rfl, ?_⟩
    rw [bytesB_app, h3]
    simp [bytesB, z0, z1]
section
variable {H : Type} {enc : TypeId × Value → H} {w : World} {base : Nat} {held : Bool}
theorem cellsDraw : Tryd.prog.cellsOf 74 = 33 := by kernel_rfl
theorem cellsHash : Tryd.prog.cellsOf 43 = 32 := by kernel_rfl
set_option maxRecDepth 100000 in
theorem open_draw {r : Reach} {b0 : Nat} {v : Value} {d : DataW H} {ps : List MemPlace} (hval : Value.okWide Tryd.prog w r b0 74 v) (hd : DataW.Trod enc Tryd.prog w base (fun _ => true) held 74 v d ps) :
    ∃ (h : List Int) (c : Int), v = .agg (tcs h c) ∧ h.length = 32 ∧ bytesB h = true := by
  obtain ⟨cs, rfl, hsz⟩ := okWide_struct Tryd.underlying74 hval
  obtain ⟨n, h⟩ := hd
  obtain ⟨xs, m, rfl, _, hl, hxl, hf⟩ := DataW.trod_struct Tryd.underlying74 h
  rw [cellsDraw] at hl
  obtain ⟨cl⟩ := cs
  simp only [Value.cells] at hl hf
  have f0 : DataW.trod enc Tryd.prog w base (fun _ => true) held m 43 ((cl.drop 0).take (Tryd.prog.cellsOf 43)) = xs[0]? := hf 0 _ rfl
  have f1 : DataW.trod enc Tryd.prog w base (fun _ => true) held m 3 ((cl.drop 32).take (Tryd.prog.cellsOf 3)) = xs[1]? := hf 1 _ rfl
  rw [cellsHash, List.drop_zero] at f0
  rw [cellsInt] at f1
  have hl2 : xs.length = 2 := hxl
  match xs, hl2 with
  | [x0, x1], _ =>
    obtain ⟨c, hc, _, wc⟩ := DataW.trod_int Tryd.underlying3 f1
    obtain ⟨ys, m', _, _, _, hyl, hfy⟩ := DataW.trod_array Tryd.underlying43 f0
    obtain ⟨hh, h1, h2, h3⟩ := cells_u8 (cl := cl.take 32) 32 (fun i hi => by
      have fi := hfy i hi
      rw [cellsU8, Nat.mul_one, List.getElem?_eq_getElem (by rw [hyl]; exact hi)] at fi
      obtain ⟨z, hz, _, wz⟩ := DataW.trod_int Tryd.underlying5 fi
      refine ⟨z, hz, ?_⟩
      simp [Lit.wf, IntKind.min, IntKind.max, IntKind.signed, IntKind.bits] at wz
      omega)
    refine ⟨hh, c, ?_, h1, h3⟩
    rw [List.take_take, Nat.min_self] at h2
    have e : cl = hh.map (.int .u8) ++ [.int .i64 c] := by
      rw [← h2, ← hc, ← List.take_append_drop 32 cl]
      congr 1
      · simp [List.take_append_drop]
      · rw [List.take_append_drop, List.take_of_length_le (by rw [List.length_drop, hl]; exact Nat.le_refl _)]
    rw [e]
    congr 1
    apply Array.ext'
    simp [tcs, arr]
end
end Go.Proofs.YtdlhodbiaoafiaaDoor
namespace Go.Proofs.YtdlhodbiaoafiaaDoor
open Go.RowKit SpM
set_option linter.unusedVariables false
set_option linter.unusedSimpArgs false
set_option maxRecDepth 100000
/-- the number of some bytes, as the program joins them. -/
def fstep (v x : Int) : Int := bits BinOp.or IntKind.u64 (IntKind.u64.wrap (v * 256)) (IntKind.u64.wrap x)
def fstN (l : List Int) : Int := l.foldl fstep 0
def fst8 (h : List Int) : Int := fstN (h.take 8)
theorem fstN_step {h : List Int} {k : Nat} (hk : k < h.length) : fstN (h.take (k + 1)) = fstep (fstN (h.take k)) (h.getD k 0) := by
  rw [take_one hk, fstN, List.foldl_append]; rfl
set_option maxHeartbeats 3200000 in
theorem dfirst_any (h : List Int) (hl : Hid (h.length = 32)) (hb : Hid (bytesB h = true)) (w : World) :
    Calls Tryd.prog 160 #[.agg (arr .u8 h)] w fun e w' => e = .returned (.int .u64 (fst8 h)) ∧ Below w.heap.size w w' := by
  have HT0 : Hid (Blk .u8 43 (w.alloc (.cells (arr .u8 h) 43)) w.heap.size h) := Lib.hid (Blk.new _ _)
  have hb0 := below_box0 w (.cells (arr .u8 h) 43)
  obtain ⟨W, hW⟩ : ∃ W, w.alloc (.cells (arr .u8 h) 43) = W := ⟨_, rfl⟩
  rw [hW] at HT0 hb0
  have HB0 := Lib.hid hb0
  have HW := Lib.hid hW
  clear hW hb0
  go_enter Tryd.func160, Tryd.ntmps160
  go_wp2_with fail
  rw [HW.out]
  clear HW
  go_loopw [3, 8] (fun x i u => ∃ k : Nat, k ≤ 8 ∧ i = .int .i64 k ∧ x = .int .u64 (fstN (h.take k)) ∧ u = W) (fun _ i _ => 8 - (intOf i).toNat)
  case atStart => exact ⟨0, by omega, rfl, rfl, rfl⟩
  case round =>
    obtain ⟨k, hk, rfl, rfl, rfl⟩ := hrel
    by_cases hlt : k < 8
    · have hkl : k < h.length := by rw [hl.out]; omega
      have hc := HT0.out.cell hkl
      obtain ⟨x, hx⟩ : ∃ x, h.getD k 0 = x := ⟨_, rfl⟩
      rw [hx] at hc
      obtain ⟨v, hv⟩ : ∃ v, fstN (h.take k) = v := ⟨_, rfl⟩
      have HST : Hid (fstN (h.take (k + 1)) = fstep v x) := Lib.hid (by rw [fstN_step hkl, hx, hv])
      rw [hv]
      clear hx hv hkl
      go_wp2
      go_roundw
      case rel => exact ⟨k + 1, by omega, by go_num, by rw [HST.out]; rfl, trivial⟩
      case measure => simp [intOf]; omega
    · obtain rfl : k = 8 := by omega
      clear hlt
      obtain ⟨v, hv⟩ : ∃ v, fstN (h.take 8) = v := ⟨_, rfl⟩
      have HV : Hid (fst8 h = v) := Lib.hid hv
      rw [hv]
      clear hv
      go_wp2
      go_ret
      exact ⟨by rw [HV.out]; rfl, HB0.out⟩
end Go.Proofs.YtdlhodbiaoafiaaDoor
namespace Go.Proofs.YtdlhodbiaoafiaaDoor
open Go.RowKit SpM
set_option linter.unusedVariables false
set_option linter.unusedSimpArgs false
set_option maxRecDepth 100000
/-- the cells of a source of draws. -/
def scs (h : List Int) (c : Int) (f : Bool) : Array Value := arr .u8 h ++ #[.int .i64 c, .bool f]
def SBlk (w : World) (b : Nat) (h : List Int) (c : Int) (f : Bool) : Prop := w.heap[b]? = some (.cells (scs h c f) 162 (0, 0))
variable {w : World} {b : Nat} {h : List Int} {c : Int} {f : Bool}
theorem SBlk.lt (hh : SBlk w b h c f) : b < w.heap.size := (Array.getElem?_eq_some_iff.1 hh).1
theorem SBlk.below {w' : World} (hh : SBlk w b h c f) (hb : Below w.heap.size w w') : SBlk w' b h c f := (hb.block b hh.lt).trans hh
theorem scs_at32 (hl : h.length = 32) : (scs h c f)[32]? = some (.int .i64 c) := by
  rw [scs, Array.getElem?_append_right (by rw [arr_size, hl]; exact Nat.le_refl _), arr_size, hl]; rfl
theorem scs_at33 (hl : h.length = 32) : (scs h c f)[33]? = some (.bool f) := by
  rw [scs, Array.getElem?_append_right (by rw [arr_size, hl]; decide), arr_size, hl]; rfl
theorem SBlk.count (hh : SBlk w b h c f) (hl : h.length = 32) : Own w ⟨b, 32, none⟩ (.int .i64 c) := ⟨(cell_blk hh 32).trans (scs_at32 hl), frozen_blk hh 32⟩
theorem SBlk.full (hh : SBlk w b h c f) (hl : h.length = 32) : Own w ⟨b, 33, none⟩ (.bool f) := ⟨(cell_blk hh 33).trans (scs_at33 hl), frozen_blk hh 33⟩
theorem scs_set32 (hl : h.length = 32) (x : Int) : (scs h c f).setIfInBounds 32 (.int .i64 x) = scs h x f := by
  apply Array.ext'
  simp [scs, arr, List.set_append, hl]
theorem scs_set33 (hl : h.length = 32) (x : Bool) : (scs h c f).setIfInBounds 33 (.bool x) = scs h c x := by
  apply Array.ext'
  simp [scs, arr, List.set_append, hl]
theorem SBlk.set32 (hh : SBlk w b h c f) (hl : h.length = 32) (x : Int) : SBlk (w.setCell ⟨b, 32, none⟩ (.int .i64 x)) b h x f := by
  unfold SBlk
  rw [heap_setCell_same w b 32 _ _ _ hh, scs_set32 hl]
theorem SBlk.set33 (hh : SBlk w b h c f) (hl : h.length = 32) (x : Bool) : SBlk (w.setCell ⟨b, 33, none⟩ (.bool x)) b h c x := by
  unfold SBlk
  rw [heap_setCell_same w b 33 _ _ _ hh, scs_set33 hl]
theorem SBlk.range (hh : SBlk w b h c f) (hl : h.length = 32) : w.rangeAt b 0 (tcs h c).toList := fun j v hj => by
  have hlt : j < 33 := by
    have h2 := (List.getElem?_eq_some_iff.1 hj).1
    rw [Array.length_toList, tcs_size hl] at h2
    exact h2
  rw [Nat.zero_add, cell_blk hh, ← hj, Array.getElem?_toList]
  by_cases h3 : j < 32
  · rw [scs, tcs, Array.getElem?_append_left (by rw [arr_size, hl]; exact h3), Array.getElem?_append_left (by rw [arr_size, hl]; exact h3)]
  · obtain rfl : j = 32 := by omega
    rw [scs_at32 hl, tcs, Array.getElem?_append_right (by rw [arr_size, hl]; exact Nat.le_refl _), arr_size, hl]
    rfl
theorem drl_info (hl : h.length = 32) : (Tryd.prog.info? 74).map (·.size) = some (tcs h c).toList.length := (dr_info (c := c) hl).trans (by simp)
theorem gb_below {w w' : World} (h : Below w.heap.size w w') (r : Option Nat) : w.grownBy w' r := ⟨h.os, h.tape, h.output, h.size, fun k hk _ => h.block k hk⟩
theorem gb_trans {w w1 w2 : World} {r : Option Nat} (h1 : w.grownBy w1 r) (h2 : w1.grownBy w2 r) : w.grownBy w2 r :=
  ⟨h2.os.trans h1.os, h2.tape.trans h1.tape, h2.output.trans h1.output, Nat.le_trans h1.size h2.size, fun k hk hne => (h2.block k (Nat.lt_of_lt_of_le hk h1.size) hne).trans (h1.block k hk hne)⟩
theorem gb_setCell {w : World} (b j : Nat) (v : Value) : w.grownBy (w.setCell ⟨b, j, none⟩ v) (some b) := grown_set2 w b j v
theorem gb_toBelow {w w' : World} {b B : Nat} (h : w.grownBy w' (some b)) (hB : B ≤ b) (hs : B ≤ w.heap.size) : Below B w w' := (Below.refl B w).grown h hs (fun j hj => by cases hj; exact hB)
/-- changes of the call's own new block are none of the old world's. -/
theorem gb_setRow_new {w w1 : World} {r : Option Nat} (h : w.grownBy w1 r) (a : Nat) (ha : w.heap.size ≤ a) (cs : Array Value) : w.grownBy (w1.setRow a cs) r :=
  ⟨h.os, h.tape, h.output, by rw [setRow_size]; exact h.size, fun k hk hne => (setRow_other w1 a k cs (by omega)).trans (h.block k hk hne)⟩
theorem gb_alloc_new {w w1 : World} {r : Option Nat} (h : w.grownBy w1 r) (o : Obj) : w.grownBy (w1.alloc o) r := gb_trans h (gb_below (below_box0 _ _) r)
/-- the hash of a block of draws. -/
def blkL (h : List Int) (c : Int) : List Int := sha (h ++ be8 c)
theorem blkL_len (h : List Int) (c : Int) : (blkL h c).length = 32 := sha_len _
theorem blkL_bytes (h : List Int) (c : Int) : bytesB (blkL h c) = true := sha_bytes _
set_option maxHeartbeats 3200000 in
theorem dblock_full (h : List Int) (hl : Hid (h.length = 32)) (b : Nat) (f0 : Bool) (w : World) (hS : Hid (SBlk w b h 1099511627776 f0)) :
    Calls Tryd.prog 159 #[.pointer (some ⟨b, 0, none⟩)] w fun e w' => e = .returned (.agg (arr .u8 (zer 32))) ∧ SBlk w' b h 1099511627776 true ∧ w.grownBy w' (some b) := by
  obtain ⟨W, hW⟩ : ∃ W, w.alloc (.cells #[.int .u8 0, .int .u8 0, .int .u8 0, .int .u8 0, .int .u8 0, .int .u8 0, .int .u8 0, .int .u8 0, .int .u8 0, .int .u8 0, .int .u8 0, .int .u8 0, .int .u8 0, .int .u8 0, .int .u8 0, .int .u8 0, .int .u8 0, .int .u8 0, .int .u8 0, .int .u8 0, .int .u8 0, .int .u8 0, .int .u8 0, .int .u8 0, .int .u8 0, .int .u8 0, .int .u8 0, .int .u8 0, .int .u8 0, .int .u8 0, .int .u8 0, .int .u8 0] 43) = W := ⟨_, rfl⟩
  have HBX : Hid (Below w.heap.size w W) := Lib.hid (by rw [← hW]; exact below_box0 _ _)
  have HR0 : Hid (Blk .u8 43 W w.heap.size (zer 32)) := Lib.hid (by rw [← hW, zarrh]; exact heap_alloc_new _ _)
  have HS := Lib.hid (hS.out.below HBX.out)
  have HLT : Hid (b < w.heap.size) := Lib.hid hS.out.lt
  have HW := Lib.hid hW
  clear hW
  obtain ⟨c1, c2⟩ := HS.out.count hl.out
  obtain ⟨f1, f2⟩ := HS.out.full hl.out
  have HS2 := Lib.hid (HS.out.set33 hl.out true)
  have HR2 : Hid (Blk .u8 43 (W.setCell ⟨b, 33, none⟩ (.bool true)) w.heap.size (zer 32)) := Lib.hid (HR0.out.set_ne (by have := HLT.out; omega))
  go_enter Tryd.func159, Tryd.ntmps159
  go_upto_region 1 with (fail)
  rw [HW.out]
  clear HW
  go_wp2_with ((with_reducible show wpList _ _ _ (⟨none, _, _, _, _, _⟩ :: _) _ _); refine wpList_store_row rfl 43 _ _ rfl w.heap.size (arr .u8 (zer 32)) rfl rfl _ _ HR2.out (hash_info rfl) (arrs_sz (l := zer 32) rfl rfl) (arr_one _) ?_)
  have HRR : Hid (Blk .u8 43 ((W.setCell ⟨b, 33, none⟩ (.bool true)).setRow w.heap.size (arr .u8 (zer 32))) w.heap.size (zer 32)) := Lib.hid HR2.out.setRow
  have hSF : SBlk ((W.setCell ⟨b, 33, none⟩ (.bool true)).setRow w.heap.size (arr .u8 (zer 32))) b h 1099511627776 true := (setRow_other _ _ b _ (by have := HLT.out; omega)).trans HS2.out
  have hGF : w.grownBy ((W.setCell ⟨b, 33, none⟩ (.bool true)).setRow w.heap.size (arr .u8 (zer 32))) (some b) := gb_setRow_new (gb_trans (gb_below HBX.out _) (gb_setCell b 33 _)) _ (Nat.le_refl _) _
  exact bodyPost_ret (v := .agg (arr .u8 (zer 32))) (results_cell1 (p := 2) (ty := 43) rfl _ _ ⟨w.heap.size, 0, none⟩ _ rfl (run_loadVar_row _ _ _ _ _ _ _ HRR.out Tryd.underlying43 rfl (hash_info rfl))) rfl ⟨rfl, hSF, hGF⟩
set_option maxHeartbeats 6400000 in
theorem dblock_ok (h : List Int) (hl : Hid (h.length = 32)) (hb : Hid (bytesB h = true)) (c : Int) (hc0 : 0 ≤ c) (hc1 : c < 1099511627776) (b : Nat) (w : World) (hv : Hid (VarsD w)) (hS : Hid (SBlk w b h c false)) :
    Calls Tryd.prog 159 #[.pointer (some ⟨b, 0, none⟩)] w fun e w' => e = .returned (.agg (arr .u8 (blkL h c))) ∧ SBlk w' b h (c + 1) false ∧ w.grownBy w' (some b) := by
  obtain ⟨W, hW⟩ : ∃ W, w.alloc (.cells #[.int .u8 0, .int .u8 0, .int .u8 0, .int .u8 0, .int .u8 0, .int .u8 0, .int .u8 0, .int .u8 0, .int .u8 0, .int .u8 0, .int .u8 0, .int .u8 0, .int .u8 0, .int .u8 0, .int .u8 0, .int .u8 0, .int .u8 0, .int .u8 0, .int .u8 0, .int .u8 0, .int .u8 0, .int .u8 0, .int .u8 0, .int .u8 0, .int .u8 0, .int .u8 0, .int .u8 0, .int .u8 0, .int .u8 0, .int .u8 0, .int .u8 0, .int .u8 0] 43) = W := ⟨_, rfl⟩
  have HBX : Hid (Below w.heap.size w W) := Lib.hid (by rw [← hW]; exact below_box0 _ _)
  have HR0 : Hid (Blk .u8 43 W w.heap.size (zer 32)) := Lib.hid (by rw [← hW, zarrh]; exact heap_alloc_new _ _)
  have HS := Lib.hid (hS.out.below HBX.out)
  have HV := Lib.hid (hv.out.below HBX.out)
  have HLT : Hid (b < w.heap.size) := Lib.hid hS.out.lt
  have HW := Lib.hid hW
  have hcn : ¬ (c = 1099511627776) := by omega
  have hwr : IntKind.i64.wrap (c + 1) = c + 1 := IntWalk.i64_in _ (by omega)
  clear hW
  obtain ⟨c1, c2⟩ := HS.out.count hl.out
  go_enter Tryd.func159, Tryd.ntmps159
  go_upto_region 1 with (fail)
  rw [HW.out]
  clear HW
  go_wp2_with ((with_reducible show wpList _ _ _ (⟨some 17, _, _, _, _, _⟩ :: _) _ _); refine wpList_load_mid rfl 74 _ rfl b 0 rfl (tcs h c).toList _ (HS.out.range hl.out) Tryd.underlying74 rfl (drl_info hl.out) ?_)
  clear c1 c2
  refine (dposition_any h hl c hc0 (by omega) _).mono ?_
  rintro e w1 ⟨v1, rfl, ho1, hb1⟩
  have HS1 := Lib.hid (HS.out.below hb1)
  have HR1 := Lib.hid (HR0.out.below hb1)
  have HV1 := Lib.hid (HV.out.below hb1)
  have HB1 := Lib.hid (below_ext HBX.out hb1)
  obtain ⟨E, hE⟩ : ∃ E, h ++ be8 c = E := ⟨_, rfl⟩
  have HEL : Hid (E.length = 40) := Lib.hid (by rw [← hE, List.length_append, hl.out, be8_len])
  have HEB : Hid (bytesB E = true) := Lib.hid (by rw [← hE, bytesB_app, hb.out, be8_bytes]; rfl)
  rw [hE] at ho1
  obtain ⟨g1, cap1, e1, hg1, -, -, hsk1⟩ := ho1.cells (by rw [HEL.out]; decide)
  rw [HEL.out] at e1
  subst e1
  have HSK := Lib.hid hsk1
  have HBE : Kp (blkL h c = sha E) := ⟨by rw [blkL, hE]⟩
  clear hb1 ho1 hE hsk1 hg1
  go_wp2_with fail
  refine (sum_any g1 0 cap1 E 40 HEL (by omega) HEB _ HSK HV1).mono ?_
  rintro e w2 ⟨rfl, hb2⟩
  obtain ⟨R, hR⟩ : ∃ R, sha E = R := ⟨_, rfl⟩
  have HRL : Hid (R.length = 32) := Lib.hid (by rw [← hR]; exact sha_len _)
  have HNR : Kp (blkL h c = R) := ⟨by rw [HBE.1, hR]⟩
  rw [hR]
  have HS2 := Lib.hid (HS1.out.below hb2)
  have HR2 := Lib.hid (HR1.out.below hb2)
  have HB2 := Lib.hid (below_ext HB1.out hb2)
  clear hb2 hR HSK
  go_upto_region 5 with ((with_reducible show wpList _ _ _ (⟨none, _, _, _, _, _⟩ :: _) _ _); refine wpList_store_row rfl 43 _ _ rfl w2.heap.size (arr .u8 R) rfl rfl _ _ (heap_alloc_new _ _) (hash_info HRL.out) (arrs_sz (l := zer 32) rfl HRL.out) (arr_one _) ?_)
  rw [World.setRow_alloc_new]
  try simp only [Act.put]
  have HK3 : Hid (Blk .u8 43 (w2.alloc (.cells (arr .u8 R) 43)) w2.heap.size R) := Lib.hid (Blk.new _ _)
  have HS3 := Lib.hid (HS2.out.below (below_box0 w2 (.cells (arr .u8 R) 43)))
  have HR3 := Lib.hid (HR2.out.below (below_box0 w2 (.cells (arr .u8 R) 43)))
  have HB3 := Lib.hid (below_ext HB2.out (below_box0 w2 (.cells (arr .u8 R) 43)))
  have HLT2 : Hid (b < w2.heap.size) := Lib.hid HS2.out.lt
  obtain ⟨W3, hW3⟩ : ∃ u, w2.alloc (.cells (arr .u8 R) 43) = u := ⟨_, rfl⟩
  rw [hW3] at HK3 HS3 HR3 HB3 ⊢
  clear hW3 HS2 HR2 HB2
  obtain ⟨c1, c2⟩ := HS3.out.count hl.out
  have HS4 := Lib.hid (HS3.out.set32 hl.out (c + 1))
  have HR4 : Hid (Blk .u8 43 (W3.setCell ⟨b, 32, none⟩ (.int .i64 (c + 1))) w.heap.size (zer 32)) := Lib.hid (HR3.out.set_ne (by have := HLT.out; omega))
  have HK4 : Hid (Blk .u8 43 (W3.setCell ⟨b, 32, none⟩ (.int .i64 (c + 1))) w2.heap.size R) := Lib.hid (HK3.out.set_ne (by have := HLT2.out; omega))
  go_wp2_with (first
    | ((with_reducible show wpList _ _ _ (⟨some 29, _, _, _, _, _⟩ :: _) _ _); refine wpList_load_row rfl 43 _ rfl w2.heap.size rfl _ _ _ _ HK4.out Tryd.underlying43 rfl (hash_info HRL.out) ?_)
    | ((with_reducible show wpList _ _ _ (⟨none, 28, _, _, _, _⟩ :: _) _ _); fail)
    | (refine wpList_store_row rfl 43 _ _ rfl w.heap.size (arr .u8 R) rfl rfl _ _ HR4.out (hash_info HRL.out) (arrs_sz (l := zer 32) rfl HRL.out) (arr_one _) ?_))
  have HRR : Hid (Blk .u8 43 ((W3.setCell ⟨b, 32, none⟩ (.int .i64 (c + 1))).setRow w.heap.size (arr .u8 R)) w.heap.size R) := Lib.hid HR4.out.setRow
  have hSF : SBlk ((W3.setCell ⟨b, 32, none⟩ (.int .i64 (c + 1))).setRow w.heap.size (arr .u8 R)) b h (c + 1) false := (setRow_other _ _ b _ (by have := HLT.out; omega)).trans HS4.out
  have hGF : w.grownBy ((W3.setCell ⟨b, 32, none⟩ (.int .i64 (c + 1))).setRow w.heap.size (arr .u8 R)) (some b) := gb_setRow_new (gb_trans (gb_below HB3.out _) (gb_setCell b 32 _)) _ (Nat.le_refl _) _
  exact bodyPost_ret (v := .agg (arr .u8 R)) (results_cell1 (p := 2) (ty := 43) rfl _ _ ⟨w.heap.size, 0, none⟩ _ rfl (run_loadVar_row _ _ _ _ _ _ _ HRR.out Tryd.underlying43 rfl (hash_info HRL.out))) rfl ⟨by rw [HNR.1], hSF, hGF⟩
theorem builtD : Tryd.prog.built 74 [] = some (tcs (zer 32) 0) := by kernel_rfl
/-- a draw and an error. -/
def DrE (h : List Int) (c e : Int) : Value := .tuple #[.agg (tcs h c), .int .i64 e]
set_option maxHeartbeats 3200000 in
theorem dresult_any (h : List Int) (hl : Hid (h.length = 32)) (c : Int) (f : Bool) (b : Nat) (w : World) (hS : Hid (SBlk w b h c f)) :
    Calls Tryd.prog 134 #[.pointer (some ⟨b, 0, none⟩)] w fun e w' => e = .returned (if f = true then DrE (zer 32) 0 5 else DrE h c 0) ∧ Below w.heap.size w w' := by
  obtain ⟨W, hW⟩ : ∃ W, w.alloc (.cells #[.int .u8 0, .int .u8 0, .int .u8 0, .int .u8 0, .int .u8 0, .int .u8 0, .int .u8 0, .int .u8 0, .int .u8 0, .int .u8 0, .int .u8 0, .int .u8 0, .int .u8 0, .int .u8 0, .int .u8 0, .int .u8 0, .int .u8 0, .int .u8 0, .int .u8 0, .int .u8 0, .int .u8 0, .int .u8 0, .int .u8 0, .int .u8 0, .int .u8 0, .int .u8 0, .int .u8 0, .int .u8 0, .int .u8 0, .int .u8 0, .int .u8 0, .int .u8 0, .int .i64 0] 74) = W := ⟨_, rfl⟩
  have HBX : Hid (Below w.heap.size w W) := Lib.hid (by rw [← hW]; exact below_box0 _ _)
  have HR0 : Hid (DBlk W w.heap.size (zer 32) 0) := Lib.hid (by rw [← hW, ztr]; exact heap_alloc_new _ _)
  have HS := Lib.hid (hS.out.below HBX.out)
  have HW := Lib.hid hW
  clear hW
  obtain ⟨f1, f2⟩ := HS.out.full hl.out
  cases f with
  | true =>
    rw [if_pos rfl]
    go_enter Tryd.func134, Tryd.ntmps134
    go_upto_region 1 with (fail)
    rw [HW.out]
    clear HW
    go_wp2_with (first
      | ((with_reducible show wpList _ _ _ (⟨some 8, _, _, _, _, _⟩ :: _) _ _); refine wpList_built rfl 74 _ rfl _ builtD ?_)
      | ((with_reducible show wpList _ _ _ (⟨none, _, _, _, _, _⟩ :: _) _ _); refine wpList_store_row rfl 74 _ _ rfl w.heap.size (tcs (zer 32) 0) rfl rfl _ _ HR0.out (dr_info rfl) rfl (tcs_one _ _) ?_))
    have HRR : Hid (DBlk (W.setRow w.heap.size (tcs (zer 32) 0)) w.heap.size (zer 32) 0) := Lib.hid HR0.out.setRow
    exact bodyPost_ret (v := DrE (zer 32) 0 5) (results_cell_tmp2 (p := 2) (q := 3) (ty := 74) rfl _ _ ⟨w.heap.size, 0, none⟩ _ _ rfl rfl (run_loadVar_row _ _ _ _ _ _ _ HRR.out Tryd.underlying74 rfl (dr_info rfl))) rfl ⟨rfl, below_setRow' HBX.out (Nat.le_refl _)⟩
  | false =>
    rw [if_neg (by decide)]
    go_enter Tryd.func134, Tryd.ntmps134
    go_upto_region 1 with (fail)
    rw [HW.out]
    clear HW
    go_wp2_with (first
      | ((with_reducible show wpList _ _ _ (⟨some 12, _, _, _, _, _⟩ :: _) _ _); refine wpList_load_mid rfl 74 _ rfl b 0 rfl (tcs h c).toList _ (HS.out.range hl.out) Tryd.underlying74 rfl (drl_info hl.out) ?_)
      | ((with_reducible show wpList _ _ _ (⟨none, _, _, _, _, _⟩ :: _) _ _); refine wpList_store_row rfl 74 _ _ rfl w.heap.size (tcs h c) rfl rfl _ _ HR0.out (dr_info hl.out) (tcs_sz rfl hl.out) (tcs_one _ _) ?_))
    have HRR : Hid (DBlk (W.setRow w.heap.size (tcs h c)) w.heap.size h c) := Lib.hid HR0.out.setRow
    exact bodyPost_ret (v := DrE h c 0) (results_cell_tmp2 (p := 2) (q := 3) (ty := 74) rfl _ _ ⟨w.heap.size, 0, none⟩ _ _ rfl rfl (run_loadVar_row _ _ _ _ _ _ _ HRR.out Tryd.underlying74 rfl (dr_info hl.out))) rfl ⟨rfl, below_setRow' HBX.out (Nat.le_refl _)⟩
end Go.Proofs.YtdlhodbiaoafiaaDoor
namespace Go.Proofs.YtdlhodbiaoafiaaDoor
open Go.RowKit SpM
set_option linter.unusedVariables false
set_option linter.unusedSimpArgs false
set_option maxRecDepth 100000
/-- the mask of a bound. -/
def maskD (q : Int) : Int := IntKind.u64.wrap (IntKind.u64.wrap (2 ^ min (Lib.bitLen (q - 1).toNat) 64) - 1)
/-- the number that a source yields: the number, the counter, and whether the source is used up. -/
def numD (h : List Int) (q m : Int) : Nat → Int → Int → Int × Int × Bool
  | 0, c, x => (x.tmod q, c, false)
  | k + 1, c, x => if c = 1099511627776 then (0, c, true) else if bits BinOp.and IntKind.u64 (fst8 (blkL h c)) m < q then (bits BinOp.and IntKind.u64 (fst8 (blkL h c)) m, c + 1, false) else numD h q m k (c + 1) (bits BinOp.and IntKind.u64 (fst8 (blkL h c)) m)
theorem numD_lo {h : List Int} {q m : Int} (hq : 1 ≤ q) : ∀ (k : Nat) (c x : Int), 0 ≤ x → 0 ≤ (numD h q m k c x).1 ∧ (numD h q m k c x).1 < q
  | 0, c, x, hx => by
    simp only [numD]
    rw [Int.tmod_eq_emod_of_nonneg hx]
    exact ⟨Int.emod_nonneg _ (by omega), Int.emod_lt_of_pos _ (by omega)⟩
  | k + 1, c, x, hx => by
    have hb := bits_lo_u64 BinOp.and (fst8 (blkL h c)) m
    simp only [numD]
    by_cases hc : c = 1099511627776
    · rw [if_pos hc]; exact ⟨Int.le_refl _, by show (0 : Int) < q; omega⟩
    · rw [if_neg hc]
      by_cases hy : bits BinOp.and IntKind.u64 (fst8 (blkL h c)) m < q
      · rw [if_pos hy]; exact ⟨hb, hy⟩
      · rw [if_neg hy]; exact numD_lo hq k _ _ hb
theorem numD_cnt {h : List Int} {q m : Int} : ∀ (k : Nat) (c x : Int), c ≤ 1099511627776 → c ≤ (numD h q m k c x).2.1 ∧ (numD h q m k c x).2.1 ≤ 1099511627776
  | 0, c, x, hc => ⟨Int.le_refl _, hc⟩
  | k + 1, c, x, hc => by
    simp only [numD]
    by_cases he : c = 1099511627776
    · rw [if_pos he]; exact ⟨Int.le_refl _, hc⟩
    · rw [if_neg he]
      by_cases hy : bits BinOp.and IntKind.u64 (fst8 (blkL h c)) m < q
      · rw [if_pos hy]; exact ⟨by show c ≤ c + 1; omega, by show c + 1 ≤ 1099511627776; omega⟩
      · rw [if_neg hy]
        have h2 := numD_cnt (h := h) (q := q) (m := m) k (c + 1) (bits BinOp.and IntKind.u64 (fst8 (blkL h c)) m) (by omega)
        exact ⟨by omega, h2.2⟩
set_option maxHeartbeats 6400000 in
theorem dnumber_any (h : List Int) (hl : Hid (h.length = 32)) (hb : Hid (bytesB h = true)) (q : Int) (hq1 : 1 ≤ q) (hq2 : q < 2305843009213693952) (c : Int) (hc0 : 0 ≤ c) (hc1 : c ≤ 1099511627776) (b : Nat) (w0 : World) (hv : Hid (VarsD w0)) (w : World) (hB0 : Hid (Below w0.heap.size w0 w)) (hB : w0.heap.size ≤ b) (f0 : Bool) (hf0 : f0 = true → c = 1099511627776) (hS : Hid (SBlk w b h c f0)) (n c2 : Int) (f : Bool) (hN : Kp (numD h q (maskD q) 256 c 0 = (n, c2, f))) :
    Calls Tryd.prog 133 #[.pointer (some ⟨b, 0, none⟩), .int .i64 q] w fun e w' => e = .returned (.int .i64 n) ∧ SBlk w' b h c2 f ∧ w.grownBy w' (some b) := by
  have q0 : IntKind.i64.wrap (q - 1) = q - 1 := IntWalk.i64_in _ (by omega)
  have q2 : IntKind.u64.wrap (q - 1) = q - 1 := by simp [IntKind.wrap, IntKind.bits, IntKind.signed]; omega
  have q3 : IntKind.u64.wrap q = q := by simp [IntKind.wrap, IntKind.bits, IntKind.signed]; omega
  go_enter Tryd.func133, Tryd.ntmps133
  go_wp2_with fail
  refine (Tryd.bits_Len64 (q - 1) _ (by omega) (by omega)).mono ?_
  rintro e w1 ⟨rfl, rfl⟩
  obtain ⟨ln, hln⟩ : ∃ n, Lib.bitLen (q - 1).toNat = n := ⟨_, rfl⟩
  obtain ⟨m1, hm1⟩ : ∃ m, IntKind.u64.wrap (2 ^ min ln 64) = m := ⟨_, rfl⟩
  obtain ⟨m, hm⟩ : ∃ m, IntKind.u64.wrap (m1 - 1) = m := ⟨_, rfl⟩
  have HN : Kp (numD h q m 256 c 0 = (n, c2, f)) := ⟨by rw [← hN.1, maskD, hln, hm1, hm]⟩
  rw [hln]
  go_wp2
  clear hln hm hm1 hN
  go_loopw [6, 14] (fun x i u => ∃ (k : Nat) (y cc : Int) (ff : Bool), k ≤ 256 ∧ i = .int .i64 k ∧ x = .int .u64 y ∧ Hid (0 ≤ y) ∧ Hid (0 ≤ cc ∧ cc ≤ 1099511627776) ∧ Kp (numD h q m (256 - k) cc y = (n, c2, f)) ∧ Hid (SBlk u b h cc ff) ∧ Hid ((ff = true → cc = 1099511627776) ∧ (0 < k → ff = false)) ∧ Hid (w1.grownBy u (some b))) (fun _ i _ => 256 - (intOf i).toNat)
  case atStart => exact ⟨0, 0, c, f0, by omega, rfl, rfl, Lib.hid (Int.le_refl _), Lib.hid ⟨hc0, hc1⟩, HN, hS, Lib.hid ⟨hf0, fun h0 => absurd h0 (Nat.lt_irrefl _)⟩, Lib.hid (gb_below (Below.refl _ _) _)⟩
  case round =>
    obtain ⟨k, y, cc, ff, hk, rfl, rfl, HY, HC, HNK, HSr, HFF, HGr⟩ := hrel
    obtain ⟨hcc0, hcc1⟩ := HC.out
    by_cases hlt : k < 256
    · have e256 : 256 - k = (256 - (k + 1)) + 1 := by omega
      by_cases hcf : cc = 1099511627776
      · subst hcf
        have HE : Kp ((0, 1099511627776, true) = (n, c2, f)) := ⟨by rw [← HNK.1, e256, numD, if_pos rfl]⟩
        go_wp2_with fail
        refine (dblock_full h hl b ff _ HSr).mono ?_
        rintro e w2 ⟨rfl, hS2, hG2⟩
        have HS2 := Lib.hid hS2
        have HG2 := Lib.hid (gb_trans HGr.out hG2)
        clear hS2 hG2
        go_upto_region 6 with ((with_reducible show wpList _ _ _ (⟨none, _, _, _, _, _⟩ :: _) _ _); refine wpList_store_row rfl 43 _ _ rfl w2.heap.size (arr .u8 (zer 32)) rfl rfl _ _ (heap_alloc_new _ _) (hash_info rfl) (arrs_sz (l := zer 32) rfl rfl) (arr_one _) ?_)
        rw [World.setRow_alloc_new]
        try simp only [Act.put]
        have HS3 := Lib.hid (HS2.out.below (below_box0 w2 (.cells (arr .u8 (zer 32)) 43)))
        have HG3 := Lib.hid (gb_alloc_new HG2.out (.cells (arr .u8 (zer 32)) 43))
        obtain ⟨W3, hW3⟩ : ∃ u, w2.alloc (.cells (arr .u8 (zer 32)) 43) = u := ⟨_, rfl⟩
        rw [hW3] at HS3 HG3 ⊢
        clear hW3
        obtain ⟨f1, f2⟩ := HS3.out.full hl.out
        have he1 : n = 0 := by have h2 := HE.1; simp only [Prod.mk.injEq] at h2; exact h2.1.symm
        have he2 : c2 = 1099511627776 := by have h2 := HE.1; simp only [Prod.mk.injEq] at h2; exact h2.2.1.symm
        have he3 : f = true := by have h2 := HE.1; simp only [Prod.mk.injEq] at h2; exact h2.2.2.symm
        go_wp2
        go_ret
        exact ⟨by rw [he1]; rfl, by rw [he2, he3]; exact HS3.out, HG3.out⟩
      · have hcl : cc < 1099511627776 := by omega
        have hff : ff = false := by
          cases hq : ff with
          | false => rfl
          | true => exact absurd (HFF.out.1 hq) hcf
        subst hff
        have HVr := Lib.hid (hv.out.below (hB0.out.trans (gb_toBelow HGr.out hB hB0.out.size)))
        go_wp2_with fail
        refine (dblock_ok h hl hb cc hcc0 hcl b _ HVr HSr).mono ?_
        rintro e w2 ⟨rfl, hS2, hG2⟩
        obtain ⟨R, hR⟩ : ∃ R, blkL h cc = R := ⟨_, rfl⟩
        have HRL : Hid (R.length = 32) := Lib.hid (by rw [← hR]; exact blkL_len _ _)
        have HRB : Hid (bytesB R = true) := Lib.hid (by rw [← hR]; exact blkL_bytes _ _)
        have HNK2 : Kp ((if bits BinOp.and IntKind.u64 (fst8 R) m < q then (bits BinOp.and IntKind.u64 (fst8 R) m, cc + 1, false) else numD h q m (256 - (k + 1)) (cc + 1) (bits BinOp.and IntKind.u64 (fst8 R) m)) = (n, c2, f)) := ⟨by rw [← HNK.1, e256, numD, if_neg hcf, hR]⟩
        rw [hR]
        have HS2 := Lib.hid hS2
        have HG2 := Lib.hid (gb_trans HGr.out hG2)
        clear hS2 hG2 hR HNK e256
        go_upto_region 6 with ((with_reducible show wpList _ _ _ (⟨none, _, _, _, _, _⟩ :: _) _ _); refine wpList_store_row rfl 43 _ _ rfl w2.heap.size (arr .u8 R) rfl rfl _ _ (heap_alloc_new _ _) (hash_info HRL.out) (arrs_sz (l := zer 32) rfl HRL.out) (arr_one _) ?_)
        rw [World.setRow_alloc_new]
        try simp only [Act.put]
        have HK3 : Hid (Blk .u8 43 (w2.alloc (.cells (arr .u8 R) 43)) w2.heap.size R) := Lib.hid (Blk.new _ _)
        have HS3 := Lib.hid (HS2.out.below (below_box0 w2 (.cells (arr .u8 R) 43)))
        have HG3 := Lib.hid (gb_alloc_new HG2.out (.cells (arr .u8 R) 43))
        obtain ⟨W3, hW3⟩ : ∃ u, w2.alloc (.cells (arr .u8 R) 43) = u := ⟨_, rfl⟩
        rw [hW3] at HS3 HG3 HK3 ⊢
        clear hW3
        obtain ⟨f1, f2⟩ := HS3.out.full hl.out
        go_wp2_with ((with_reducible show wpList _ _ _ (⟨some 22, _, _, _, _, _⟩ :: _) _ _); refine wpList_load_row rfl 43 _ rfl w2.heap.size rfl _ _ _ _ HK3.out Tryd.underlying43 rfl (hash_info HRL.out) ?_)
        clear f1 f2
        refine (dfirst_any R HRL HRB _).mono ?_
        rintro e w4 ⟨rfl, hb4⟩
        have HS4 := Lib.hid (HS3.out.below hb4)
        have HG4 := Lib.hid (gb_trans HG3.out (gb_below hb4 _))
        have hz0 := bits_lo_u64 BinOp.and (fst8 R) m
        obtain ⟨z, hz⟩ : ∃ z, bits BinOp.and IntKind.u64 (fst8 R) m = z := ⟨_, rfl⟩
        rw [hz] at hz0 HNK2
        obtain ⟨fr, hfr⟩ : ∃ z, fst8 R = z := ⟨_, rfl⟩
        rw [hfr] at hz ⊢
        clear hb4 hfr
        by_cases hzq : z < q
        · have HE : Kp ((z, cc + 1, false) = (n, c2, f)) := ⟨by rw [← HNK2.1, if_pos hzq]⟩
          have d1 : decide (z < q) = true := by simp [hzq]
          have z1 : IntKind.i64.wrap z = z := IntWalk.i64_in _ (by omega)
          have he1 : n = z := by have h2 := HE.1; simp only [Prod.mk.injEq] at h2; exact h2.1.symm
          have he2 : c2 = cc + 1 := by have h2 := HE.1; simp only [Prod.mk.injEq] at h2; exact h2.2.1.symm
          have he3 : f = false := by have h2 := HE.1; simp only [Prod.mk.injEq] at h2; exact h2.2.2.symm
          have HE1 := Lib.hid he1
          have HE2 := Lib.hid he2
          have HE3 := Lib.hid he3
          clear HNK2 he1 he2 he3
          go_wp2
          go_ret
          exact ⟨by rw [HE1.out]; rfl, by rw [HE2.out, HE3.out]; exact HS4.out, HG4.out⟩
        · have HE : Kp (numD h q m (256 - (k + 1)) (cc + 1) z = (n, c2, f)) := ⟨by rw [← HNK2.1, if_neg hzq]⟩
          have d1 : decide (z < q) = false := by simp; omega
          have HZ0 := Lib.hid hz0
          have HC2 : Hid (0 ≤ cc + 1 ∧ cc + 1 ≤ 1099511627776) := Lib.hid (by omega)
          clear HNK2
          go_wp2
          go_roundw
          case rel => exact ⟨k + 1, z, cc + 1, false, by omega, by go_num, rfl, HZ0, HC2, HE, HS4, Lib.hid ⟨(fun h0 => absurd h0 (by decide)), (fun _ => rfl)⟩, HG4⟩
          case measure => simp [intOf]; omega
    · obtain rfl : k = 256 := by omega
      obtain rfl : ff = false := HFF.out.2 (by omega)
      have hy := HY.out
      have HE : Kp ((y.tmod q, cc, false) = (n, c2, f)) := ⟨by rw [← HNK.1]; rfl⟩
      obtain ⟨z, hz⟩ : ∃ z, y.tmod q = z := ⟨_, rfl⟩
      have hz0 : 0 ≤ z ∧ z < q := by
        rw [← hz, Int.tmod_eq_emod_of_nonneg hy]
        exact ⟨Int.emod_nonneg _ (by omega), Int.emod_lt_of_pos _ (by omega)⟩
      have z1 : IntKind.i64.wrap z = z := IntWalk.i64_in _ (by omega)
      have qz : ((q : Int) == 0) = false := by simp; omega
      have qz2 : ¬ (q = 0) := by omega
      have he1 : n = z := by have h2 := HE.1; simp only [Prod.mk.injEq] at h2; rw [← hz]; exact h2.1.symm
      have he2 : c2 = cc := by have h2 := HE.1; simp only [Prod.mk.injEq] at h2; exact h2.2.1.symm
      have he3 : f = false := by have h2 := HE.1; simp only [Prod.mk.injEq] at h2; exact h2.2.2.symm
      have HE1 := Lib.hid he1
      have HE2 := Lib.hid he2
      have HE3 := Lib.hid he3
      clear HE he1 he2 he3 hlt HNK
      go_wp2
      go_ret
      exact ⟨by rw [HE1.out]; rfl, by rw [HE2.out, HE3.out]; exact HSr.out, HGr.out⟩
end Go.Proofs.YtdlhodbiaoafiaaDoor
namespace Go.Proofs.YtdlhodbiaoafiaaDoor
open Go.RowKit SpM
set_option linter.unusedVariables false
set_option linter.unusedSimpArgs false
set_option maxRecDepth 20000
theorem OwnL.mono {w : World} {B B' : Nat} {v : Value} {xs : List Int} (h : OwnL w B v xs) (hb : B' ≤ B) : OwnL w B' v xs := by
  obtain ⟨h1, h2⟩ := h
  refine ⟨h1, h2.imp id ?_⟩
  rintro ⟨g, cap, cur, rfl, hg, rest⟩
  exact ⟨g, cap, cur, rfl, by omega, rest⟩
/-- a list that the call made. -/
def ListOut (zs : List Int) (w : World) (e : Ending) (w' : World) : Prop := ∃ v, e = .returned v ∧ OwnL w' w.heap.size v zs ∧ Below w.heap.size w w'
end Go.Proofs.YtdlhodbiaoafiaaDoor
namespace Go.Proofs.YtdlhodbiaoafiaaDoor
open Go.RowKit SpM
set_option linter.unusedVariables false
set_option linter.unusedSimpArgs false
set_option maxRecDepth 20000
theorem sl_of_cells {w : World} {b : Nat} {xs : List Int} (h : Cells w b xs) : Sl w (some ⟨b, 0, none⟩) xs := fun k hk => ⟨b, 0, rfl, by rw [Nat.zero_add]; exact h k hk⟩
end Go.Proofs.YtdlhodbiaoafiaaDoor
namespace Go.Proofs.YtdlhodbiaoafiaaDoor
open Go.RowKit SpM
set_option linter.unusedVariables false
set_option linter.unusedSimpArgs false
set_option maxRecDepth 100000
theorem builtS (h : List Int) (hl : h.length = 32) (c : Int) : Tryd.prog.built 162 [(0, .agg (tcs h c))] = some (scs h c false) := by
  obtain ⟨a0, a1, a2, a3, a4, a5, a6, a7, a8, a9, a10, a11, a12, a13, a14, a15, a16, a17, a18, a19, a20, a21, a22, a23, a24, a25, a26, a27, a28, a29, a30, a31, rfl⟩ := list32 h hl
  kernel_rfl
end Go.Proofs.YtdlhodbiaoafiaaDoor
namespace Go.Proofs.YtdlhodbiaoafiaaDoor
open Go.RowKit SpM
set_option linter.unusedVariables false
set_option linter.unusedSimpArgs false
set_option maxRecDepth 100000
theorem numD_more {h : List Int} {q c n rc : Int} (hc : c ≤ 1099511627776) (hN : numD h q (maskD q) 256 c 0 = (n, rc, false)) : c < rc := by
  have e : (256 : Nat) = 255 + 1 := rfl
  rw [e, numD] at hN
  by_cases he : c = 1099511627776
  · rw [if_pos he] at hN
    cases hN
  · rw [if_neg he] at hN
    by_cases hy : bits BinOp.and IntKind.u64 (fst8 (blkL h c)) (maskD q) < q
    · rw [if_pos hy] at hN
      have := congrArg (fun p => p.2.1) hN
      simp at this
      omega
    · rw [if_neg hy] at hN
      have h2 := (numD_cnt (h := h) (q := q) (m := maskD q) 255 (c + 1) (bits BinOp.and IntKind.u64 (fst8 (blkL h c)) (maskD q)) (by omega)).1
      rw [hN] at h2
      have h3 : c + 1 ≤ rc := h2
      omega
set_option maxHeartbeats 6400000 in
theorem dnext_any (h : List Int) (hl : Hid (h.length = 32)) (hb : Hid (bytesB h = true)) (c : Int) (hdr : Hid (drB c = true)) (q : Int) (hq1 : 1 ≤ q) (hq2 : q < 2305843009213693952) (n rc : Int) (f : Bool) (HN : Kp (numD h q (maskD q) 256 c 0 = (n, rc, f)))
    (hh : List Int) (cc ee : Int) (hR : Hid ((if f = true then DrE (zer 32) 0 5 else DrE h rc 0) = DrE hh cc ee)) (hhl : Hid (hh.length = 32)) (w : World) (hv : Hid (VarsD w)) :
    Calls Tryd.prog 95 #[.agg (tcs h c), .int .i64 q] w fun e w' => e = .returned (ChE hh cc n ee) ∧ Below w.heap.size w w' := by
  obtain ⟨hc0, hc1⟩ : 0 ≤ c ∧ c ≤ 1099511627776 := by have h2 := hdr.out; simp [drB] at h2; exact h2
  obtain ⟨W, hW⟩ : ∃ W, (w.alloc (.cells (tcs h c) 74)).alloc (.cells #[.int .u8 0, .int .u8 0, .int .u8 0, .int .u8 0, .int .u8 0, .int .u8 0, .int .u8 0, .int .u8 0, .int .u8 0, .int .u8 0, .int .u8 0, .int .u8 0, .int .u8 0, .int .u8 0, .int .u8 0, .int .u8 0, .int .u8 0, .int .u8 0, .int .u8 0, .int .u8 0, .int .u8 0, .int .u8 0, .int .u8 0, .int .u8 0, .int .u8 0, .int .u8 0, .int .u8 0, .int .u8 0, .int .u8 0, .int .u8 0, .int .u8 0, .int .u8 0, .int .i64 0] 74) = W := ⟨_, rfl⟩
  have HBX : Hid (Below w.heap.size w W) := Lib.hid (by rw [← hW]; exact below_two (Below.refl _ _))
  have HT0 : Hid (DBlk W w.heap.size h c) := Lib.hid (by rw [← hW]; exact heap_alloc2_old _ _ _)
  have HR0 : Hid (DBlk W (w.heap.size + 1) (zer 32) 0) := Lib.hid (by rw [← hW, ztr]; exact heap_alloc2_new _ _ _)
  have HSZ : Hid (W.heap.size = w.heap.size + 2) := Lib.hid (by rw [← hW]; simp)
  have HV := Lib.hid (hv.out.below HBX.out)
  have HW := Lib.hid hW
  clear hW hv
  go_enter Tryd.func95, Tryd.ntmps95
  go_upto_region 1 with (fail)
  rw [HW.out]
  clear HW
  go_wp2_with ((with_reducible show wpList _ _ _ (⟨some 11, _, _, _, _, _⟩ :: _) _ _); refine wpList_load_row rfl 74 _ rfl w.heap.size rfl _ _ _ _ HT0.out Tryd.underlying74 rfl (dr_info hl.out) ?_)
  refine (dcheck_ok h hl c hdr q 1 2305843009213693951 hq1 (by omega) _).mono ?_
  rintro e w1 ⟨rfl, hb1⟩
  have HT1 := Lib.hid (HT0.out.below hb1)
  have HR1 := Lib.hid (HR0.out.below hb1)
  have HB1 := Lib.hid (below_ext HBX.out hb1)
  have HBW1 := Lib.hid hb1
  have HV1 := Lib.hid (HV.out.below hb1)
  have HZ1 : Hid (w.heap.size + 2 ≤ w1.heap.size) := Lib.hid (by have := hb1.size; have := HSZ.out; omega)
  clear hb1 HT0 HR0
  go_wp2_with (first
    | ((with_reducible show wpList _ _ _ (⟨some 18, _, _, _, _, _⟩ :: _) _ _); refine wpList_load_row rfl 74 _ rfl w.heap.size rfl _ _ _ _ HT1.out Tryd.underlying74 rfl (dr_info hl.out) ?_)
    | ((with_reducible show wpList _ _ _ (⟨some 19, _, _, _, _, _⟩ :: _) _ _); refine wpList_built rfl 162 _ rfl _ (builtS h hl.out c) ?_))
  have hS3 : SBlk (w1.alloc (.cells (scs h c false) 162)) w1.heap.size h c false := heap_alloc_new _ _
  have hb3 := below_box0 w1 (.cells (scs h c false) 162)
  have hsz3 : (w1.alloc (.cells (scs h c false) 162)).heap.size = w1.heap.size + 1 := by simp
  obtain ⟨W3, hW3⟩ : ∃ u, w1.alloc (.cells (scs h c false) 162) = u := ⟨_, rfl⟩
  rw [hW3] at hS3 hb3 hsz3 ⊢
  have HS3 := Lib.hid hS3
  have HB3 := Lib.hid hb3
  have HSZ3 := Lib.hid hsz3
  clear hS3 hb3 hsz3 hW3
  refine (dnumber_any h hl hb q hq1 hq2 c hc0 hc1 w1.heap.size w1 HV1 _ HB3 (Nat.le_refl _) false (fun e => by cases e) HS3 n rc f HN).mono ?_
  rintro e w4 ⟨rfl, hS4, hG4⟩
  have HS4 := Lib.hid hS4
  have hB4 : Below w1.heap.size w1 w4 := HB3.out.trans (gb_toBelow hG4 (Nat.le_refl _) (by have := HSZ3.out; omega))
  have HT4 := Lib.hid (HT1.out.below hB4)
  have HR4 := Lib.hid (HR1.out.below hB4)
  have HB4 := Lib.hid (below_ext HB1.out hB4)
  clear hS4 hG4 hB4 HT1 HR1
  go_wp2_with fail
  refine (dresult_any h hl rc f w1.heap.size _ HS4).mono ?_
  rintro e w5 ⟨rfl, hb5⟩
  rw [hR.out, show DrE hh cc ee = .tuple #[.agg (tcs hh cc), .int .i64 ee] from rfl]
  have HT5 := Lib.hid (HT4.out.below hb5)
  have HR5 := Lib.hid (HR4.out.below hb5)
  have HB5 := Lib.hid (below_ext HB4.out hb5)
  clear hb5
  go_upto_region 7 with ((with_reducible show wpList _ _ _ (⟨none, _, _, _, _, _⟩ :: _) _ _); refine wpList_store_row rfl 74 _ _ rfl w.heap.size (tcs hh cc) rfl rfl _ _ HT5.out (dr_info hhl.out) (tcs_sz hl.out hhl.out) (tcs_one _ _) ?_)
  have HT6 : Hid (DBlk (w5.setRow w.heap.size (tcs hh cc)) w.heap.size hh cc) := Lib.hid HT5.out.setRow
  have HR6 : Hid (DBlk (w5.setRow w.heap.size (tcs hh cc)) (w.heap.size + 1) (zer 32) 0) := Lib.hid ((setRow_other _ _ _ _ (by omega)).trans HR5.out)
  have HR7 : Hid (DBlk ((w5.setRow w.heap.size (tcs hh cc)).setRow (w.heap.size + 1) (tcs hh cc)) (w.heap.size + 1) hh cc) := Lib.hid HR6.out.setRow
  have hBF := below_setRow' (cs := tcs hh cc) (below_setRow' (cs := tcs hh cc) HB5.out (Nat.le_refl w.heap.size)) (Nat.le_succ w.heap.size)
  go_wp2_with (first
    | ((with_reducible show wpList _ _ _ (⟨some 29, _, _, _, _, _⟩ :: _) _ _); refine wpList_load_row rfl 74 _ rfl w.heap.size rfl _ _ _ _ HT6.out Tryd.underlying74 rfl (dr_info hhl.out) ?_)
    | ((with_reducible show wpList _ _ _ (⟨none, _, _, _, _, _⟩ :: _) _ _); refine wpList_store_row rfl 74 _ _ rfl (w.heap.size + 1) (tcs hh cc) rfl rfl _ _ HR6.out (dr_info hhl.out) (tcs_sz rfl hhl.out) (tcs_one _ _) ?_))
  exact bodyPost_ret (v := ChE hh cc n ee) (results_cell_tmp3 (p := 4) (q := 5) (r := 6) (ty := 74) rfl _ _ ⟨w.heap.size + 1, 0, none⟩ _ _ _ rfl rfl rfl (run_loadVar_row _ _ _ _ _ _ _ HR7.out Tryd.underlying74 rfl (dr_info hhl.out))) rfl ⟨rfl, hBF⟩
end Go.Proofs.YtdlhodbiaoafiaaDoor
namespace Go.Proofs.YtdlhodbiaoafiaaDoor
open Go.RowKit SpM
set_option linter.unusedVariables false
set_option linter.unusedSimpArgs false
set_option maxRecDepth 100000
/-- a list of machine integers, not too long. -/
def okL (l : List Int) : Prop := l.length ≤ 1000 ∧ ∀ x ∈ l, -9223372036854775808 ≤ x ∧ x < 9223372036854775808
theorem okL.fits {l : List Int} (h : okL l) : Hid (fits 7 (.lst (l.map .int))) := Lib.hid (by
  refine ⟨by rw [List.length_map]; exact h.1, fun x hx => ?_⟩
  obtain ⟨y, hy, rfl⟩ := List.mem_map.1 hx
  exact h.2 y hy)
theorem encL_ints (l : List Int) : (encL (l.map .int)).length = 9 * l.length := by
  induction l with
  | nil => rfl
  | cons x l ih => rw [List.map_cons, encL, List.length_append, ih, enc_int, List.length_cons, be8_len, List.length_cons]; omega
theorem okL.len {l : List Int} (h : okL l) : Hid ((enc (.lst (l.map .int))).length ≤ 14000) := Lib.hid (by
  rw [enc_lst, List.length_cons, List.length_append, be4_len, encL_ints]
  have := h.1
  omega)
/-- the state behind a list of integers absorbed. -/
def absL (h s l : List Int) : List Int := abL h s (.lst (l.map .int))
theorem absL_len (h s l : List Int) : (absL h s l).length = 32 := abL_len _ _ _
theorem absL_bytes (h s l : List Int) : bytesB (absL h s l) = true := sha_bytes _
end Go.Proofs.YtdlhodbiaoafiaaDoor
namespace Go.Proofs.YtdlhodbiaoafiaaDoor
open Go.RowKit SpM
set_option linter.unusedVariables false
set_option linter.unusedSimpArgs false
set_option maxRecDepth 100000
def lbGroup : ByteArray := { data := #[103, 114, 111, 117, 112] }
def lbCh : ByteArray := { data := #[99, 104, 97, 108, 108, 101, 110, 103, 101] }
theorem labGroup : Hid (labB (bys lbGroup) = true) := Lib.hid (by kernel_rfl)
theorem labCh : Hid (labB (bys lbCh) = true) := Lib.hid (by kernel_rfl)
/-- a state: 32 bytes. -/
def St32 (h : List Int) : Prop := h.length = 32 ∧ bytesB h = true
theorem st_abs (h s l : List Int) : St32 (absL h s l) := ⟨absL_len _ _ _, absL_bytes _ _ _⟩
theorem st_new (l : List Int) : St32 (newL l) := ⟨tagged_len _ _, sha_bytes _⟩
/-- what stands while the lists are absorbed. -/
def LcI (W : World) (a : Nat) (h : List Int) (c : Int) (x : Int) (u : World) : Prop := TBlk u a h c ∧ Own u ⟨a + 1, 0, none⟩ (.int .i64 x) ∧ Below W.heap.size W u
theorem LcI.alloc {W : World} {a : Nat} {h : List Int} {c x : Int} {u : World} (hI : LcI W a h c x u) (o : Obj) : LcI W a h c x (u.alloc o) :=
  ⟨hI.1.below (below_box0 _ _), hI.2.1.below (below_box0 _ _), below_ext hI.2.2 (below_box0 _ _)⟩
theorem LcI.below {W : World} {a : Nat} {h : List Int} {c x : Int} {u u' : World} (hI : LcI W a h c x u) (hb : Below u.heap.size u u') : LcI W a h c x u' :=
  ⟨hI.1.below hb, hI.2.1.below hb, below_ext hI.2.2 hb⟩
theorem cells3l (w : World) (T : TypeId) (a b c : Int) : Cells (w.alloc (.cells #[.int .i64 a, .int .i64 b, .int .i64 c] T)) w.heap.size [a, b, c] := by
  intro k hk
  rw [World.cell?_alloc_at _ _ _ _ rfl]
  match k, hk with
  | 0, _ => rfl
  | 1, _ => rfl
  | 2, _ => rfl
end Go.Proofs.YtdlhodbiaoafiaaDoor
namespace Go.Proofs.YtdlhodbiaoafiaaDoor
open Go.RowKit SpM
set_option linter.unusedVariables false
set_option linter.unusedSimpArgs false
set_option maxRecDepth 100000
/-- a list that the call made, its block named. -/
def CellsOut (zs : List Int) (n : Nat) (w : World) (e : Ending) (w' : World) : Prop := ∃ g cap, e = .returned (.slice (some ⟨g, 0, none⟩) n cap) ∧ Hid (Cells w' g zs) ∧ Below w.heap.size w w'
theorem ListOut.cells {zs : List Int} {n : Nat} {w w' : World} {e : Ending} (h : ListOut zs w e w') (hn : zs.length = n) (hpos : 0 < n) : CellsOut zs n w e w' := by
  obtain ⟨v, he, ho, hb⟩ := h
  obtain ⟨g, cap, rfl, _, hc⟩ := OwnL.cells ho (by omega)
  rw [hn] at he
  exact ⟨g, cap, he, Lib.hid hc, hb⟩
end Go.Proofs.YtdlhodbiaoafiaaDoor
namespace Go.Proofs.YtdlhodbiaoafiaaDoor
open Go.RowKit SpM
set_option linter.unusedVariables false
set_option linter.unusedSimpArgs false
set_option maxRecDepth 20000
theorem RowF.below {w w' : World} {g n : Nat} {f : Nat → Int} (h : RowF w g n f) (hn : 0 < n) (hb : Below w.heap.size w w') : RowF w' g n f := by
  have hg : g < w.heap.size := World.block_lt_of_cell? _ _ (h.1 0 hn)
  exact ⟨fun j hj => (hb.cell (p := ⟨g, j, none⟩) hg).trans (h.1 j hj), fun j => (hb.frozen (p := ⟨g, j, none⟩) hg).trans (h.2 j)⟩
end Go.Proofs.YtdlhodbiaoafiaaDoor
namespace Go.Proofs.YtdlhodbiaoafiaaDoor
open Go.RowKit SpM
set_option linter.unusedVariables false
set_option linter.unusedSimpArgs false
set_option maxRecDepth 100000
/-- a proof's value, its block, its box (names apart from layer 16's). -/
abbrev prvL (pa : Option Addr) (na ca : Nat) (C : Int) (pz : Option Addr) (nz cz : Nat) : Value := .agg #[.slice pa na ca, .int .i64 C, .slice pz nz cz]
abbrev prObjL (pa : Option Addr) (na ca : Nat) (C : Int) (pz : Option Addr) (nz cz : Nat) : Obj := .cells #[.slice pa na ca, .int .i64 C, .slice pz nz cz] 32
def PrBox (w : World) (a : Nat) (x y z : Value) : Prop := w.cell? ⟨a, 0, none⟩ = some x ∧ w.cell? ⟨a, 1, none⟩ = some y ∧ w.cell? ⟨a, 2, none⟩ = some z
theorem PrBox.below {w w' : World} {a : Nat} {x y z : Value} (h : PrBox w a x y z) (hb : Below w.heap.size w w') : PrBox w' a x y z :=
  ⟨cell_below h.1 hb, cell_below h.2.1 hb, cell_below h.2.2 hb⟩
end Go.Proofs.YtdlhodbiaoafiaaDoor
namespace Go.Proofs.YtdlhodbiaoafiaaDoor
open Go.RowKit SpM
set_option linter.unusedVariables false
set_option linter.unusedSimpArgs false
set_option maxRecDepth 100000
/-- the relation of the example, laid from block s on. -/
def ex17R (s : Nat) : List Row := [⟨some ⟨s + 1 + 1, 0, none⟩, 1, 1, [2]⟩, ⟨some ⟨s + 1 + 1 + 1, 0, none⟩, 1, 1, [4]⟩]
def Ex17 (w : World) (s : Nat) : Prop := GBox w s 23 11 4 ∧ Sl w (some ⟨s + 1, 0, none⟩) [8, 18] ∧ Rw w (some ⟨s + 1 + 1 + 1 + 1, 0, none⟩) (ex17R s) ∧ RBox w (s + 1 + 1 + 1 + 1 + 1) (.slice (some ⟨s + 1, 0, none⟩) 2 2) (.slice (some ⟨s + 1 + 1 + 1 + 1, 0, none⟩) 2 2)
theorem Ex17.below {w w' : World} {s : Nat} (h : Ex17 w s) (hb : Below w.heap.size w w') : Ex17 w' s := ⟨h.1.below hb, h.2.1.below hb, h.2.2.1.below hb, h.2.2.2.below hb⟩
end Go.Proofs.YtdlhodbiaoafiaaDoor
namespace Go.Proofs.YtdlhodbiaoafiaaDoor
open Go.RowKit SpM
set_option linter.unusedVariables false
set_option linter.unusedSimpArgs false
set_option maxRecDepth 100000
theorem valid_okg {P Q G : Int} (h : validG P Q G = true) : okL [P, Q, G] := by
  obtain ⟨h1, h2, h3, h4⟩ := validG_P h
  have h5 : 2 ≤ G ∧ G < P := by simp [validG] at h; exact ⟨h.2.2.2.2.2.2.1, h.2.2.2.2.2.2.2.1⟩
  refine ⟨by simp, fun x hx => ?_⟩
  simp at hx
  rcases hx with rfl | rfl | rfl <;> omega
theorem mem_okL {P Q : Int} {l : List Int} (hP : P < 2305843009213693952) (h : l.all (memG P Q) = true) (hl : l.length ≤ 1000) : okL l :=
  ⟨hl, fun x hx => by
    have h1 := memG_lo (List.all_eq_true.1 h x hx)
    have h2 := memG_hi (List.all_eq_true.1 h x hx)
    omega⟩
end Go.Proofs.YtdlhodbiaoafiaaDoor
namespace Go.Proofs.YtdlhodbiaoafiaaDoor
open Go.RowKit SpM
set_option linter.unusedVariables false
set_option linter.unusedSimpArgs false
set_option maxRecDepth 100000
theorem wpList_load_row_g {P : Program} {ops : Array Oper} {rest : List Oper} {o : Oper} {a : Act} {w : World} {Q : Exit → Act → World → Prop} (hw : Region.wanted o (yielded ops a.tmps) = true) (ty : TypeId) (x : Operand) (ho : o.op = .load ty x)
    (g : Nat) (hx : a.eval x = .pointer (some ⟨g, 0, none⟩)) (t : TypeId) (cs : Array Value) (fr : Nat × Nat) (d : TypeDesc) (hg : w.heap[g]? = some (.cells cs t fr))
    (hu : P.underlying ty = some d) (hd : (match d with | .struct _ | .array _ _ => true | _ => false) = true) (hi : (P.info? ty).map (·.size) = some cs.size)
    (h : wpList P ops Q rest (a.put o.dst (.agg cs)) w) : wpList P ops Q (o :: rest) a w :=
  wpList_step fun K hK => by
    rw [if_pos hw]
    unfold Oper.wp execOp
    simp only [ho, hx, Instr.loadAt, Instr.sureAddr, Sem.run_bind, Sem.run_pure, Result.andThen_ok, run_loadVar_row w g t ty cs fr d hg hu hd hi]
    exact hK _ _ h
/-- three results, two of them by value. -/
def PrvE (pv : Value) (h : List Int) (c e : Int) : Value := .tuple #[pv, .agg (tcs h c), .int .i64 e]
theorem results_cell2_tmp {P : Program} {fn : Func} {p q r : Tmp} {ty ty2 : TypeId} (h : fn.results = #[.cell p ty, .cell q ty2, .tmp r]) (tmps : Array Value) (w : World) (a b : Addr) (v u x : Value)
    (hp : tmps.getD p undef = .pointer (some a)) (hq : tmps.getD q undef = .pointer (some b)) (hr : tmps.getD r undef = x) (hl : (loadVar ty a).run P w = .ok v w) (hl2 : (loadVar ty2 b).run P w = .ok u w) : (results fn tmps).run P w = .ok (.tuple #[v, u, x]) w := by
  have hp' : tmps[p]?.getD undef = .pointer (some a) := by simpa using hp
  have hq' : tmps[q]?.getD undef = .pointer (some b) := by simpa using hq
  have hr' : tmps[r]?.getD undef = x := by simpa using hr
  simp [results, h, hp', hq', hr', asAddr, hl, hl2]
theorem infoP : (Tryd.prog.info? 32).map (·.size) = some 3 := by kernel_rfl
/-- a block that holds a proof. -/
def QBlk (w : World) (b : Nat) (x y z : Value) : Prop := w.heap[b]? = some (.cells #[x, y, z] 32 (0, 0))
theorem QBlk.below {w w' : World} {b : Nat} {x y z : Value} (hh : QBlk w b x y z) (hb : Below w.heap.size w w') : QBlk w' b x y z := (hb.block b (Array.getElem?_eq_some_iff.1 hh).1).trans hh
theorem QBlk.lt {w : World} {b : Nat} {x y z : Value} (hh : QBlk w b x y z) : b < w.heap.size := (Array.getElem?_eq_some_iff.1 hh).1
theorem QBlk.setRow {w : World} {b : Nat} {x y z x' y' z' : Value} (hh : QBlk w b x y z) : QBlk (w.setRow b #[x', y', z']) b x' y' z' := setRow_heap w b _ _ _ _ hh
/-- three cells stored. -/
def s3 (w : World) (b : Nat) (x y z : Value) : World := ((w.setCell ⟨b, 0, none⟩ x).setCell ⟨b, 1, none⟩ y).setCell ⟨b, 2, none⟩ z
theorem QBlk.cells {w : World} {b : Nat} {x y z : Value} (hh : QBlk w b x y z) : (w.cell? ⟨b, 0, none⟩ = some x ∧ w.cell? ⟨b, 1, none⟩ = some y ∧ w.cell? ⟨b, 2, none⟩ = some z) ∧ (w.frozen? ⟨b, 0, none⟩ = false ∧ w.frozen? ⟨b, 1, none⟩ = false ∧ w.frozen? ⟨b, 2, none⟩ = false) :=
  ⟨⟨cell_blk hh 0, cell_blk hh 1, cell_blk hh 2⟩, frozen_blk hh 0, frozen_blk hh 1, frozen_blk hh 2⟩
theorem QBlk.s3 {w : World} {b : Nat} {x y z x' y' z' : Value} (hh : QBlk w b x y z) : QBlk (s3 w b x' y' z') b x' y' z' := by
  unfold QBlk Go.Proofs.YtdlhodbiaoafiaaDoor.s3
  rw [heap_setCell_same _ _ _ _ _ _ (heap_setCell_same _ _ _ _ _ _ (heap_setCell_same _ _ _ _ _ _ hh))]
  rfl
theorem s3_other {w : World} {b k : Nat} {x y z : Value} (hne : k ≠ b) : (s3 w b x y z).heap[k]? = w.heap[k]? :=
  (heap_setCell_other _ _ _ _ hne).trans ((heap_setCell_other _ _ _ _ hne).trans (heap_setCell_other _ _ _ _ hne))
theorem below_s3 {B b : Nat} {w w1 : World} {x y z : Value} (h : Below B w w1) (hB : B ≤ b) : Below B w (s3 w1 b x y z) := ((h.setCell hB _).setCell hB _).setCell hB _
/-- what stands in linear.Prove: its own boxes. -/
structure PvI (w : World) (P Q G : Int) (Y : Option Addr) (yn yc : Nat) (B : Option Addr) (bn bc : Nat) (h : List Int) (c : Int) (u : World) : Prop where
  g : GBox u w.heap.size P Q G
  r : RBox u (w.heap.size + 1) (.slice Y yn yc) (.slice B bn bc)
  d : DBlk u (w.heap.size + 2) h c
  p : QBlk u (w.heap.size + 3) (.slice none 0 0) (.int .i64 0) (.slice none 0 0)
  e : DBlk u (w.heap.size + 4) (zer 32) 0
  b : Below w.heap.size w u
  z : w.heap.size + 5 ≤ u.heap.size
theorem PvI.below {w : World} {P Q G : Int} {Y : Option Addr} {yn yc : Nat} {B : Option Addr} {bn bc : Nat} {h : List Int} {c : Int} {u u' : World} (H : PvI w P Q G Y yn yc B bn bc h c u) (hb : Below u.heap.size u u') : PvI w P Q G Y yn yc B bn bc h c u' :=
  ⟨H.g.below hb, H.r.below hb, H.d.below hb, H.p.below hb, H.e.below hb, below_ext H.b hb, Nat.le_trans H.z hb.size⟩
/-- the answer of a call that failed. -/
theorem PvI.fail {w : World} {P Q G : Int} {Y : Option Addr} {yn yc : Nat} {B : Option Addr} {bn bc : Nat} {h : List Int} {c : Int} {u : World} (H : PvI w P Q G Y yn yc B bn bc h c u) :
    QBlk ((s3 u (w.heap.size + 3) (.slice none 0 0) (.int .i64 0) (.slice none 0 0)).setRow (w.heap.size + 4) (tcs (zer 32) 0)) (w.heap.size + 3) (.slice none 0 0) (.int .i64 0) (.slice none 0 0) ∧
    DBlk ((s3 u (w.heap.size + 3) (.slice none 0 0) (.int .i64 0) (.slice none 0 0)).setRow (w.heap.size + 4) (tcs (zer 32) 0)) (w.heap.size + 4) (zer 32) 0 ∧
    DBlk (s3 u (w.heap.size + 3) (.slice none 0 0) (.int .i64 0) (.slice none 0 0)) (w.heap.size + 4) (zer 32) 0 ∧
    Below w.heap.size w ((s3 u (w.heap.size + 3) (.slice none 0 0) (.int .i64 0) (.slice none 0 0)).setRow (w.heap.size + 4) (tcs (zer 32) 0)) := by
  have h1 : DBlk (s3 u (w.heap.size + 3) (.slice none 0 0) (.int .i64 0) (.slice none 0 0)) (w.heap.size + 4) (zer 32) 0 := (s3_other (by omega)).trans H.e
  exact ⟨(setRow_other _ _ _ _ (by omega)).trans H.p.s3, h1.setRow, h1, below_setRow' (below_s3 H.b (by omega)) (by omega)⟩
end Go.Proofs.YtdlhodbiaoafiaaDoor
namespace Go.Proofs.YtdlhodbiaoafiaaDoor
open Go.RowKit SpM
set_option linter.unusedVariables false
set_option linter.unusedSimpArgs false
set_option maxRecDepth 100000
/-- the boxes of such a Prove. -/
structure PvK (w : World) (P Q G : Int) (h : List Int) (c : Int) (u : World) : Prop where
  g : GBox u w.heap.size P Q G
  d : DBlk u (w.heap.size + 1) h c
  p : QBlk u (w.heap.size + 2) (.slice none 0 0) (.int .i64 0) (.slice none 0 0)
  e : DBlk u (w.heap.size + 3) (zer 32) 0
  b : Below w.heap.size w u
  z : w.heap.size + 4 ≤ u.heap.size
theorem PvK.below {w : World} {P Q G : Int} {h : List Int} {c : Int} {u u' : World} (H : PvK w P Q G h c u) (hb : Below u.heap.size u u') : PvK w P Q G h c u' :=
  ⟨H.g.below hb, H.d.below hb, H.p.below hb, H.e.below hb, below_ext H.b hb, Nat.le_trans H.z hb.size⟩
theorem PvK.start (w : World) (P Q G : Int) (h : List Int) (c : Int) :
    PvK w P Q G h c ((((w.alloc (gObj P Q G)).alloc (.cells (tcs h c) 74)).alloc (.cells #[.slice none 0 0, .int .i64 0, .slice none 0 0] 32)).alloc (.cells #[.int .u8 0, .int .u8 0, .int .u8 0, .int .u8 0, .int .u8 0, .int .u8 0, .int .u8 0, .int .u8 0, .int .u8 0, .int .u8 0, .int .u8 0, .int .u8 0, .int .u8 0, .int .u8 0, .int .u8 0, .int .u8 0, .int .u8 0, .int .u8 0, .int .u8 0, .int .u8 0, .int .u8 0, .int .u8 0, .int .u8 0, .int .u8 0, .int .u8 0, .int .u8 0, .int .u8 0, .int .u8 0, .int .u8 0, .int .u8 0, .int .u8 0, .int .u8 0, .int .i64 0] 74)) := by
  have e1 : (w.alloc (gObj P Q G)).heap.size = w.heap.size + 1 := by simp
  have e2 : ((w.alloc (gObj P Q G)).alloc (.cells (tcs h c) 74)).heap.size = w.heap.size + 2 := by simp
  refine ⟨?_, ?_, ?_, ?_, ?_, ?_⟩
  · exact (((gbox_alloc w P Q G).below (below_box0 _ _)).below (below_box0 _ _)).below (below_box0 _ _)
  · rw [← e1]; exact ((DBlk.new _ _ _).below (below_box0 _ _)).below (below_box0 _ _)
  · rw [← e2]; exact heap_alloc2_old _ _ _
  · rw [show w.heap.size + 3 = ((w.alloc (gObj P Q G)).alloc (.cells (tcs h c) 74)).heap.size + 1 by rw [e2], ztr]; exact heap_alloc2_new _ _ _
  · exact below_ext (below_ext (below_two (Below.refl _ _)) (below_box0 _ _)) (below_box0 _ _)
  · simp
/-- the answer of a call that failed. -/
theorem PvK.fail {w : World} {P Q G : Int} {h : List Int} {c : Int} {u : World} (H : PvK w P Q G h c u) :
    QBlk ((s3 u (w.heap.size + 2) (.slice none 0 0) (.int .i64 0) (.slice none 0 0)).setRow (w.heap.size + 3) (tcs (zer 32) 0)) (w.heap.size + 2) (.slice none 0 0) (.int .i64 0) (.slice none 0 0) ∧
    DBlk ((s3 u (w.heap.size + 2) (.slice none 0 0) (.int .i64 0) (.slice none 0 0)).setRow (w.heap.size + 3) (tcs (zer 32) 0)) (w.heap.size + 3) (zer 32) 0 ∧
    DBlk (s3 u (w.heap.size + 2) (.slice none 0 0) (.int .i64 0) (.slice none 0 0)) (w.heap.size + 3) (zer 32) 0 ∧
    Below w.heap.size w ((s3 u (w.heap.size + 2) (.slice none 0 0) (.int .i64 0) (.slice none 0 0)).setRow (w.heap.size + 3) (tcs (zer 32) 0)) := by
  have h1 : DBlk (s3 u (w.heap.size + 2) (.slice none 0 0) (.int .i64 0) (.slice none 0 0)) (w.heap.size + 3) (zer 32) 0 := (s3_other (by omega)).trans H.e
  exact ⟨(setRow_other _ _ _ _ (by omega)).trans H.p.s3, h1.setRow, h1, below_setRow' (below_s3 H.b (by omega)) (by omega)⟩
end Go.Proofs.YtdlhodbiaoafiaaDoor
namespace Go.Proofs.YtdlhodbiaoafiaaDoor
open Go.RowKit SpM
set_option linter.unusedVariables false
set_option linter.unusedSimpArgs false
set_option maxRecDepth 100000
/-- what stands while the reference absorbs. -/
def RcI (W : World) (a : Nat) (h : List Int) (c : Int) (u : World) : Prop := TBlk u a h c ∧ Below W.heap.size W u
theorem RcI.step {W : World} {a : Nat} {h h' : List Int} {c c' : Int} {u u' : World} (hI : RcI W a h c u) (hb : Below u.heap.size u u') (hWa : W.heap.size ≤ a) : RcI W a h' c' (u'.setRow a (tcs h' c')) :=
  ⟨(hI.1.below hb).setRow, below_setRow' (below_ext hI.2 hb) hWa⟩
end Go.Proofs.YtdlhodbiaoafiaaDoor
namespace Go.Proofs.YtdlhodbiaoafiaaDoor
open Go.RowKit SpM
set_option linter.unusedVariables false
set_option linter.unusedSimpArgs false
set_option maxRecDepth 100000
def lbState : ByteArray := { data := #[115, 116, 97, 116, 101, 109, 101, 110, 116] }
def lbComm : ByteArray := { data := #[99, 111, 109, 109, 105, 116, 109, 101, 110, 116] }
theorem labState : Hid (labB (bys lbState) = true) := Lib.hid (by kernel_rfl)
theorem labComm : Hid (labB (bys lbComm) = true) := Lib.hid (by kernel_rfl)
/-- the challenge of a base, an element, a commitment and a label. -/
def chalK (P Q G b y a0 : Int) (lb : List Int) : Int :=
  chN Q (absL (absL (absL (newL lb) (bys lbGroup) [P, Q, G]) (bys lbState) [b, y]) (bys lbComm) [a0]) (bys lbCh)
theorem chalK_lo {P Q G b y a0 : Int} (hq : 1 ≤ Q) (lb : List Int) : 0 ≤ chalK P Q G b y a0 lb ∧ chalK P Q G b y a0 lb < Q := chN_lo hq _ _
theorem tints_st (h : List Int) (hst : Hid (St32 h)) (c : Int) (hc0 : 0 ≤ c) (hc1 : c < 1000) (s : ByteArray) (hs : s.size ≤ 1000) (hr : Hid (labB (bys s) = true)) (A : Option Addr) (l : List Int) (n cA : Nat) (hn : Hid (l.length = n)) (hok : Hid (okL l)) (u : World) (hv : Hid (VarsD u)) (hS : Hid (Sl u A l)) :
    Calls Tryd.prog 135 #[.agg (tcs h c), .string s, .slice A n cA] u fun e u' => e = .returned (TrE (absL h (bys s) l) (c + 1) 0) ∧ Below u.heap.size u u' :=
  tints_ok h (Lib.hid hst.out.1) (Lib.hid hst.out.2) c hc0 hc1 s hs hr A l n cA hn (by rw [← hn.out]; exact hok.out.1) u hv hS hok.out.fits hok.out.len
theorem sl_farK {w w' : World} {g : Nat} {xs : List Int} (h : Sl w (some ⟨g, 0, none⟩) xs) (hb : w'.heap[g]? = w.heap[g]?) : Sl w' (some ⟨g, 0, none⟩) xs := fun k hk => by
  obtain ⟨b, o, e, h1⟩ := h k hk
  cases e
  exact ⟨_, _, rfl, (World.cell?_of_block hb).trans h1⟩
/-- the three labelled lists, laid from block g on. -/
def KcL (P Q G b y a0 : Int) (g : Nat) (u : World) : Prop :=
  Sl u (some ⟨g, 0, none⟩) [P, Q, G] ∧ Sl u (some ⟨g + 1, 0, none⟩) [b, y] ∧ Sl u (some ⟨g + 1 + 1, 0, none⟩) [a0] ∧
  u.cell? ⟨g + 1 + 1 + 1, 0, none⟩ = some (.string lbGroup) ∧ u.cell? ⟨g + 1 + 1 + 1, 1, none⟩ = some (.slice (some ⟨g, 0, none⟩) 3 3) ∧
  u.cell? ⟨g + 1 + 1 + 1, 2, none⟩ = some (.string lbState) ∧ u.cell? ⟨g + 1 + 1 + 1, 3, none⟩ = some (.slice (some ⟨g + 1, 0, none⟩) 2 2) ∧
  u.cell? ⟨g + 1 + 1 + 1, 4, none⟩ = some (.string lbComm) ∧ u.cell? ⟨g + 1 + 1 + 1, 5, none⟩ = some (.slice (some ⟨g + 1 + 1, 0, none⟩) 1 1)
theorem KcL.below {P Q G b y a0 : Int} {g : Nat} {u u' : World} (h : KcL P Q G b y a0 g u) (hb : Below u.heap.size u u') : KcL P Q G b y a0 g u' := by
  obtain ⟨h1, h2, h3, h4, h5, h6, h7, h8, h9⟩ := h
  exact ⟨h1.below hb, h2.below hb, h3.below hb, cell_below h4 hb, cell_below h5 hb, cell_below h6 hb, cell_below h7 hb, cell_below h8 hb, cell_below h9 hb⟩
theorem KcL.setRow {P Q G b y a0 : Int} {g : Nat} {u : World} (h : KcL P Q G b y a0 g u) (a : Nat) (ha : a < g) (cs : Array Value) : KcL P Q G b y a0 g (u.setRow a cs) := by
  have hc : ∀ (k j : Nat), g ≤ k → (u.setRow a cs).cell? ⟨k, j, none⟩ = u.cell? ⟨k, j, none⟩ := fun k j hk => World.cell?_of_block (setRow_other u a k cs (by omega))
  have hs : ∀ (k : Nat) (l : List Int), g ≤ k → Sl u (some ⟨k, 0, none⟩) l → Sl (u.setRow a cs) (some ⟨k, 0, none⟩) l := fun k l hk h => sl_farK h (setRow_other u a k cs (by omega))
  obtain ⟨h1, h2, h3, h4, h5, h6, h7, h8, h9⟩ := h
  exact ⟨hs _ _ (by omega) h1, hs _ _ (by omega) h2, hs _ _ (by omega) h3, (hc _ _ (by omega)).trans h4, (hc _ _ (by omega)).trans h5, (hc _ _ (by omega)).trans h6, (hc _ _ (by omega)).trans h7, (hc _ _ (by omega)).trans h8, (hc _ _ (by omega)).trans h9⟩
theorem kcL_laid (P Q G b y a0 : Int) (T1 T2 : TypeId) (w : World) :
    KcL P Q G b y a0 w.heap.size ((((w.alloc (.cells #[.int .i64 P, .int .i64 Q, .int .i64 G] T1)).alloc (.cells #[.int .i64 b, .int .i64 y] T1)).alloc (.cells #[.int .i64 a0] T1)).alloc (.cells #[.string lbGroup, .slice (some ⟨w.heap.size, 0, none⟩) 3 3, .string lbState, .slice (some ⟨w.heap.size + 1, 0, none⟩) 2 2, .string lbComm, .slice (some ⟨w.heap.size + 1 + 1, 0, none⟩) 1 1] T2)) ∧
    Below w.heap.size w ((((w.alloc (.cells #[.int .i64 P, .int .i64 Q, .int .i64 G] T1)).alloc (.cells #[.int .i64 b, .int .i64 y] T1)).alloc (.cells #[.int .i64 a0] T1)).alloc (.cells #[.string lbGroup, .slice (some ⟨w.heap.size, 0, none⟩) 3 3, .string lbState, .slice (some ⟨w.heap.size + 1, 0, none⟩) 2 2, .string lbComm, .slice (some ⟨w.heap.size + 1 + 1, 0, none⟩) 1 1] T2)) := by
  have s1 : Sl (w.alloc (.cells #[.int .i64 P, .int .i64 Q, .int .i64 G] T1)) (some ⟨w.heap.size, 0, none⟩) [P, Q, G] := sl_of_cells (cells3l w T1 P Q G)
  obtain ⟨w1, h1⟩ : ∃ x, w.alloc (.cells #[.int .i64 P, .int .i64 Q, .int .i64 G] T1) = x := ⟨_, rfl⟩
  have z1 : w1.heap.size = w.heap.size + 1 := by rw [← h1]; simp
  have b1 : Below w.heap.size w w1 := by rw [← h1]; exact below_box0 _ _
  rw [h1] at s1 ⊢
  obtain ⟨w2, h2⟩ : ∃ x, w1.alloc (.cells #[.int .i64 b, .int .i64 y] T1) = x := ⟨_, rfl⟩
  have s2 : Sl w2 (some ⟨w.heap.size + 1, 0, none⟩) [b, y] := by rw [← h2, ← z1]; exact sl_of_cells (cells2 w1 T1 b y)
  have z2 : w2.heap.size = w.heap.size + 1 + 1 := by rw [← h2]; simp [z1]
  have b2 : Below w1.heap.size w1 w2 := by rw [← h2]; exact below_box0 _ _
  rw [h2]
  obtain ⟨w3, h3⟩ : ∃ x, w2.alloc (.cells #[.int .i64 a0] T1) = x := ⟨_, rfl⟩
  have s3 : Sl w3 (some ⟨w.heap.size + 1 + 1, 0, none⟩) [a0] := by rw [← h3, ← z2]; exact sl_of_cells (cells1 w2 T1 a0)
  have z3 : w3.heap.size = w.heap.size + 1 + 1 + 1 := by rw [← h3]; simp [z2]
  have b3 : Below w2.heap.size w2 w3 := by rw [← h3]; exact below_box0 _ _
  rw [h3]
  have b4 := below_box0 w3 (.cells #[.string lbGroup, .slice (some ⟨w.heap.size, 0, none⟩) 3 3, .string lbState, .slice (some ⟨w.heap.size + 1, 0, none⟩) 2 2, .string lbComm, .slice (some ⟨w.heap.size + 1 + 1, 0, none⟩) 1 1] T2)
  refine ⟨⟨((s1.below b2).below b3).below b4, (s2.below b3).below b4, s3.below b4, ?_, ?_, ?_, ?_, ?_, ?_⟩, below_ext (below_ext (below_ext b1 b2) b3) b4⟩ <;> (rw [← z3]; exact World.cell?_alloc_at _ _ _ _ rfl)
set_option maxHeartbeats 12800000 in
theorem kchal_ok (P Q G b y a0 : Int) (s : ByteArray) (hs : s.size ≤ 1000) (hr : Hid (labB (bys s) = true)) (okg : Hid (okL [P, Q, G])) (okb : Hid (okL [b, y])) (oka : Hid (okL [a0]))
    (hQ1 : 2 ≤ Q) (hQ2 : Q < 2305843009213693952) (V : Int) (hV : Kp (chalK P Q G b y a0 (bys s) = V)) (w : World) (hv : Hid (VarsD w)) :
    Calls Tryd.prog 96 #[gv P Q G, .int .i64 b, .int .i64 y, .int .i64 a0, .string s] w fun e w' => e = .returned (.tuple #[.int .i64 V, .int .i64 0]) ∧ Below w.heap.size w w' := by
  obtain ⟨W, hW⟩ : ∃ W, w.alloc (gObj P Q G) = W := ⟨_, rfl⟩
  have HBX : Hid (Below w.heap.size w W) := Lib.hid (by rw [← hW]; exact below_box0 _ _)
  have HGX : Hid (GBox W w.heap.size P Q G) := Lib.hid (by rw [← hW]; exact gbox_alloc w P Q G)
  have HV := Lib.hid (hv.out.below HBX.out)
  have HW := Lib.hid hW
  clear hW hv
  go_enter Tryd.func96, Tryd.ntmps96
  go_upto_region 1 with (fail)
  rw [HW.out]
  clear HW
  go_wp2_with fail
  refine (tnew_ok s hs hr _ HV).mono ?_
  rintro e w1 ⟨rfl, hb1⟩
  obtain ⟨S0, hS0⟩ : ∃ S, newL (bys s) = S := ⟨_, rfl⟩
  have HS0 : Hid (St32 S0) := Lib.hid (by rw [← hS0]; exact st_new _)
  have HV0 : Kp (chN Q (absL (absL (absL S0 (bys lbGroup) [P, Q, G]) (bys lbState) [b, y]) (bys lbComm) [a0]) (bys lbCh) = V) := ⟨by rw [← hS0]; exact hV.1⟩
  rw [hS0, show TrE S0 0 0 = .tuple #[.agg (tcs S0 0), .int .i64 0] from rfl]
  have HL0 := Lib.hid HS0.out.1
  have HB1 := Lib.hid hb1
  clear hb1 hS0 hV
  go_upto_region 2 with ((with_reducible show wpList _ _ _ (⟨none, _, _, _, _, _⟩ :: _) _ _); refine wpList_store_row rfl 125 _ _ rfl w1.heap.size (tcs S0 0) rfl rfl _ _ (heap_alloc_new _ _) (tr_info HL0.out) (tcs_sz (h := zer 32) (c := 0) rfl HL0.out) (tcs_one _ _) ?_)
  rw [World.setRow_alloc_new]
  try simp only [Act.put]
  have hI2 : RcI W w1.heap.size S0 0 (w1.alloc (.cells (tcs S0 0) 125)) := ⟨TBlk.new _ _ _, below_ext HB1.out (below_box0 _ _)⟩
  obtain ⟨W2, hW2⟩ : ∃ u, w1.alloc (.cells (tcs S0 0) 125) = u := ⟨_, rfl⟩
  obtain ⟨a, ha⟩ : ∃ a, w1.heap.size = a := ⟨_, rfl⟩
  have hWa : W.heap.size ≤ a := by rw [← ha]; exact HB1.out.size
  have hs2 : W2.heap.size = a + 1 := by rw [← hW2, ← ha]; simp
  rw [hW2] at hI2 ⊢
  rw [ha] at hI2 ⊢
  have HI2 := Lib.hid hI2
  clear hW2 hI2 ha HB1
  obtain ⟨c0, c1, c2⟩ := HGX.out.below HI2.out.2
  go_upto_region 5 with (fail)
  clear c0 c1 c2
  have hK := kcL_laid P Q G b y a0 3 166 W2
  unfold lbGroup lbState lbComm at hK
  rw [hs2] at hK
  obtain ⟨W4, hW4⟩ : ∃ u, (((W2.alloc (.cells #[.int .i64 P, .int .i64 Q, .int .i64 G] 3)).alloc (.cells #[.int .i64 b, .int .i64 y] 3)).alloc (.cells #[.int .i64 a0] 3)).alloc (.cells #[.string { data := #[103, 114, 111, 117, 112] }, .slice (some ⟨a + 1, 0, none⟩) 3 3, .string { data := #[115, 116, 97, 116, 101, 109, 101, 110, 116] }, .slice (some ⟨a + 1 + 1, 0, none⟩) 2 2, .string { data := #[99, 111, 109, 109, 105, 116, 109, 101, 110, 116] }, .slice (some ⟨a + 1 + 1 + 1, 0, none⟩) 1 1] 166) = u := ⟨_, rfl⟩
  rw [hW4] at hK ⊢
  clear hW4
  obtain ⟨HKL, HB4⟩ := hK
  obtain ⟨HKL, HB4⟩ := And.intro (Lib.hid HKL) (Lib.hid HB4)
  have HI4 : Hid (RcI W a S0 0 W4) := Lib.hid ⟨HI2.out.1.below (by rw [hs2]; exact HB4.out), below_ext HI2.out.2 (by rw [hs2]; exact HB4.out)⟩
  clear HI2 HB4 hs2
  obtain ⟨S1, hS1⟩ : ∃ S, absL S0 (bys lbGroup) [P, Q, G] = S := ⟨_, rfl⟩
  have HS1 : Hid (St32 S1) := Lib.hid (by rw [← hS1]; exact st_abs _ _ _)
  have HE1 := Kp.mk hS1
  obtain ⟨S2, hS2⟩ : ∃ S, absL S1 (bys lbState) [b, y] = S := ⟨_, rfl⟩
  have HS2 : Hid (St32 S2) := Lib.hid (by rw [← hS2]; exact st_abs _ _ _)
  have HE2 := Kp.mk hS2
  obtain ⟨S3, hS3⟩ : ∃ S, absL S2 (bys lbComm) [a0] = S := ⟨_, rfl⟩
  have HS3 : Hid (St32 S3) := Lib.hid (by rw [← hS3]; exact st_abs _ _ _)
  have HE3 := Kp.mk hS3
  have HV3 : Kp (chN Q S3 (bys lbCh) = V) := ⟨by rw [← hS3, ← hS2, ← hS1]; exact HV0.1⟩
  clear hS1 hS2 hS3 HV0
  go_loopw [43] (fun i u => Hid (KcL P Q G b y a0 (a + 1) u) ∧ ((i = .int .i64 0 ∧ Hid (RcI W a S0 0 u)) ∨ (i = .int .i64 1 ∧ Hid (RcI W a S1 1 u)) ∨ (i = .int .i64 2 ∧ Hid (RcI W a S2 2 u)) ∨ (i = .int .i64 3 ∧ Hid (RcI W a S3 3 u)))) (fun i _ => 3 - (intOf i).toNat)
  case atStart => exact ⟨HKL, Or.inl ⟨rfl, HI4⟩⟩
  case round =>
    obtain ⟨HK, hcase⟩ := hrel
    obtain ⟨k1, k2, k3, e0, e1, e2, e3, e4, e5⟩ := HK.out
    have HA1 := Lib.hid k1
    have HA2 := Lib.hid k2
    have HA3 := Lib.hid k3
    clear k1 k2 k3
    unfold lbGroup at e0
    unfold lbState at e2
    unfold lbComm at e4
    rcases hcase with ⟨rfl, HI⟩ | ⟨rfl, HI⟩ | ⟨rfl, HI⟩ | ⟨rfl, HI⟩
    · have HLk := Lib.hid HS0.out.1
      have HLn := Lib.hid HS1.out.1
      have hq := below_box0 wr (.cells #[.string { data := #[103, 114, 111, 117, 112] }, .slice (some ⟨a + 1, 0, none⟩) 3 3] 166)
      have HTk := Lib.hid (HI.out.1.below hq)
      have HVk := Lib.hid ((HV.out.below HI.out.2).below hq)
      have HAk := Lib.hid (HA1.out.below hq)
      have HIq : Hid (RcI W a S0 0 (wr.alloc (.cells #[.string { data := #[103, 114, 111, 117, 112] }, .slice (some ⟨a + 1, 0, none⟩) 3 3] 166))) := Lib.hid ⟨HI.out.1.below hq, below_ext HI.out.2 hq⟩
      have HKq := Lib.hid (HK.out.below hq)
      clear hq
      go_wp2_with ((with_reducible show wpList _ _ _ (⟨some 48, _, _, _, _, _⟩ :: _) _ _); refine wpList_load_row rfl 125 _ rfl a rfl _ _ _ _ HTk.out Tryd.underlying125 rfl (tr_info HLk.out) ?_)
      refine (tints_st S0 HS0 0 (by omega) (by omega) lbGroup (by decide) labGroup (some ⟨a + 1, 0, none⟩) [P, Q, G] 3 3 (Lib.hid rfl) okg _ HVk HAk).mono ?_
      rintro e w6 ⟨rfl, hb6⟩
      rw [HE1.1, show TrE S1 (0 + 1) 0 = .tuple #[.agg (tcs S1 1), .int .i64 0] from rfl]
      have HT6 := Lib.hid (HTk.out.below hb6)
      have HI6 := Lib.hid (HIq.out.step (h' := S1) (c' := 1) hb6 hWa)
      have HK6 := Lib.hid (HKq.out.below hb6)
      clear hb6 e0 e1 e2 e3 e4 e5 HK HI HIq HKq
      go_wp2_with ((with_reducible show wpList _ _ _ (⟨none, _, _, _, _, _⟩ :: _) _ _); refine wpList_store_row rfl 125 _ _ rfl a (tcs S1 1) rfl rfl _ _ HT6.out (tr_info HLn.out) (tcs_sz HLk.out HLn.out) (tcs_one _ _) ?_)
      go_roundw
      case rel => exact ⟨Lib.hid (HK6.out.setRow a (Nat.lt_succ_self a) _), Or.inr (Or.inl ⟨by go_num, HI6⟩)⟩
      case measure => simp [intOf]
    · have HLk := Lib.hid HS1.out.1
      have HLn := Lib.hid HS2.out.1
      have hq := below_box0 wr (.cells #[.string { data := #[115, 116, 97, 116, 101, 109, 101, 110, 116] }, .slice (some ⟨a + 1 + 1, 0, none⟩) 2 2] 166)
      have HTk := Lib.hid (HI.out.1.below hq)
      have HVk := Lib.hid ((HV.out.below HI.out.2).below hq)
      have HAk := Lib.hid (HA2.out.below hq)
      have HIq : Hid (RcI W a S1 1 (wr.alloc (.cells #[.string { data := #[115, 116, 97, 116, 101, 109, 101, 110, 116] }, .slice (some ⟨a + 1 + 1, 0, none⟩) 2 2] 166))) := Lib.hid ⟨HI.out.1.below hq, below_ext HI.out.2 hq⟩
      have HKq := Lib.hid (HK.out.below hq)
      clear hq
      go_wp2_with ((with_reducible show wpList _ _ _ (⟨some 48, _, _, _, _, _⟩ :: _) _ _); refine wpList_load_row rfl 125 _ rfl a rfl _ _ _ _ HTk.out Tryd.underlying125 rfl (tr_info HLk.out) ?_)
      refine (tints_st S1 HS1 1 (by omega) (by omega) lbState (by decide) labState (some ⟨a + 1 + 1, 0, none⟩) [b, y] 2 2 (Lib.hid rfl) okb _ HVk HAk).mono ?_
      rintro e w6 ⟨rfl, hb6⟩
      rw [HE2.1, show TrE S2 (1 + 1) 0 = .tuple #[.agg (tcs S2 2), .int .i64 0] from rfl]
      have HT6 := Lib.hid (HTk.out.below hb6)
      have HI6 := Lib.hid (HIq.out.step (h' := S2) (c' := 2) hb6 hWa)
      have HK6 := Lib.hid (HKq.out.below hb6)
      clear hb6 e0 e1 e2 e3 e4 e5 HK HI HIq HKq
      go_wp2_with ((with_reducible show wpList _ _ _ (⟨none, _, _, _, _, _⟩ :: _) _ _); refine wpList_store_row rfl 125 _ _ rfl a (tcs S2 2) rfl rfl _ _ HT6.out (tr_info HLn.out) (tcs_sz HLk.out HLn.out) (tcs_one _ _) ?_)
      go_roundw
      case rel => exact ⟨Lib.hid (HK6.out.setRow a (Nat.lt_succ_self a) _), Or.inr (Or.inr (Or.inl ⟨by go_num, HI6⟩))⟩
      case measure => simp [intOf]
    · have HLk := Lib.hid HS2.out.1
      have HLn := Lib.hid HS3.out.1
      have hq := below_box0 wr (.cells #[.string { data := #[99, 111, 109, 109, 105, 116, 109, 101, 110, 116] }, .slice (some ⟨a + 1 + 1 + 1, 0, none⟩) 1 1] 166)
      have HTk := Lib.hid (HI.out.1.below hq)
      have HVk := Lib.hid ((HV.out.below HI.out.2).below hq)
      have HAk := Lib.hid (HA3.out.below hq)
      have HIq : Hid (RcI W a S2 2 (wr.alloc (.cells #[.string { data := #[99, 111, 109, 109, 105, 116, 109, 101, 110, 116] }, .slice (some ⟨a + 1 + 1 + 1, 0, none⟩) 1 1] 166))) := Lib.hid ⟨HI.out.1.below hq, below_ext HI.out.2 hq⟩
      have HKq := Lib.hid (HK.out.below hq)
      clear hq
      go_wp2_with ((with_reducible show wpList _ _ _ (⟨some 48, _, _, _, _, _⟩ :: _) _ _); refine wpList_load_row rfl 125 _ rfl a rfl _ _ _ _ HTk.out Tryd.underlying125 rfl (tr_info HLk.out) ?_)
      refine (tints_st S2 HS2 2 (by omega) (by omega) lbComm (by decide) labComm (some ⟨a + 1 + 1 + 1, 0, none⟩) [a0] 1 1 (Lib.hid rfl) oka _ HVk HAk).mono ?_
      rintro e w6 ⟨rfl, hb6⟩
      rw [HE3.1, show TrE S3 (2 + 1) 0 = .tuple #[.agg (tcs S3 3), .int .i64 0] from rfl]
      have HT6 := Lib.hid (HTk.out.below hb6)
      have HI6 := Lib.hid (HIq.out.step (h' := S3) (c' := 3) hb6 hWa)
      have HK6 := Lib.hid (HKq.out.below hb6)
      clear hb6 e0 e1 e2 e3 e4 e5 HK HI HIq HKq
      go_wp2_with ((with_reducible show wpList _ _ _ (⟨none, _, _, _, _, _⟩ :: _) _ _); refine wpList_store_row rfl 125 _ _ rfl a (tcs S3 3) rfl rfl _ _ HT6.out (tr_info HLn.out) (tcs_sz HLk.out HLn.out) (tcs_one _ _) ?_)
      go_roundw
      case rel => exact ⟨Lib.hid (HK6.out.setRow a (Nat.lt_succ_self a) _), Or.inr (Or.inr (Or.inr ⟨by go_num, HI6⟩))⟩
      case measure => simp [intOf]
    · have HL3 := Lib.hid HS3.out.1
      have HTk := Lib.hid HI.out.1
      have HVk := Lib.hid (HV.out.below HI.out.2)
      obtain ⟨g0, g1, g2⟩ := HGX.out.below HI.out.2
      clear e0 e1 e2 e3 e4 e5 HK
      go_wp2_with ((with_reducible show wpList _ _ _ (⟨some 61, _, _, _, _, _⟩ :: _) _ _); refine wpList_load_row rfl 125 _ rfl a rfl _ _ _ _ HTk.out Tryd.underlying125 rfl (tr_info HL3.out) ?_)
      refine (tchal_ok S3 HL3 (Lib.hid HS3.out.2) 3 (by omega) (by omega) lbCh (by decide) labCh Q hQ1 hQ2 _ HVk).mono ?_
      rintro e w7 ⟨rfl, hb7⟩
      obtain ⟨G4, hG4⟩ : ∃ G4, chL Q S3 (bys lbCh) = G4 := ⟨_, rfl⟩
      have HG4 : Hid (G4.length = 32) := Lib.hid (by rw [← hG4]; exact abL_len _ _ _)
      rw [hG4, HV3.1, show ChE G4 (3 + 1) V 0 = .tuple #[.agg (tcs G4 4), .int .i64 V, .int .i64 0] from rfl]
      have HB7 := Lib.hid (below_ext HBX.out (below_ext HI.out.2 hb7))
      clear hb7 hG4 g0 g1 g2
      go_upto_region 12 with ((with_reducible show wpList _ _ _ (⟨none, _, _, _, _, _⟩ :: _) _ _); refine wpList_store_row rfl 125 _ _ rfl w7.heap.size (tcs G4 4) rfl rfl _ _ (heap_alloc_new _ _) (tr_info HG4.out) (tcs_sz (h := zer 32) (c := 0) rfl HG4.out) (tcs_one _ _) ?_)
      rw [World.setRow_alloc_new]
      try simp only [Act.put]
      have hBF := below_ext HB7.out (below_box0 w7 (.cells (tcs G4 4) 125))
      go_wp2
      go_ret2
      exact ⟨rfl, hBF⟩
end Go.Proofs.YtdlhodbiaoafiaaDoor
