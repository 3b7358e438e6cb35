/- Contracts and lemmas: BrR. -/
import Derived.Test.YtgbfhcfhopadaaaGreatDoorBc6
set_option linter.unusedVariables false
set_option linter.unusedSimpArgs false
set_option maxRecDepth 100000
set_option maxHeartbeats 25600000
namespace Go.Proofs.YtgbfhcfhopadaaaGreatDoor
open Go.RowKit ou
section
variable {P : Program} (w : World)
theorem j_ : ∀ (xs ys : List Int), xs.length = ys.length → ((List.range xs.length).all fun i => xs.getD i 0 == ys.getD i 0) = (xs == ys)
 | [], [], _ => rfl
 | x :: xs, y :: ys, h => by
  have ih := j_ xs ys (by simpa using h)
  rw [List.length_cons, List.range_succ_eq_map, List.all_cons, List.all_map]
  simp only [List.getD_cons_zero, Function.comp_def, List.getD_cons_succ, ih]
  simp [List.cons_beq_cons]
 | [], _ :: _, h => by simp at h
 | _ :: _, [], h => by simp at h
theorem v_ {K : IntKind} {l : List Int} {i : Nat} (h : i < l.length) : (arr K l)[i]? = some (.int K (l.getD i 0)) := by
 simp [arr, List.getD, List.getElem?_eq_getElem h]
theorem mJ (d : Nat) (t e : TypeId) (n : Nat) (ht : P.underlying t = some (.array n e)) (he : P.underlying e = some (.int .u8)) (hsz : ∀ w, (sizeOf e).run P w = .ok 1 w)
  (xs ys : List Int) (hx : xs.length = n) (hy : ys.length = n) :
  (Op.equalIn (d + 2) t (.agg (arr .u8 xs)) (.agg (arr .u8 ys))).run P w = .ok (xs == ys) w := by
 rw [← j_ xs ys (hx.trans hy.symm), hx, List.range_eq_range', Op.equalIn]
 simp only [Sem.run_bind, run_underlying ht, Result.andThen_ok, hsz, Std.Legacy.Range.forIn_eq_forIn_range', Std.Legacy.Range.size, Nat.sub_zero, Nat.add_sub_cancel, Nat.div_one]
 have hl : ∀ i ∈ List.range' 0 n 1, i < n := fun i hi => by simpa using (List.mem_range'_1.1 hi).2
 generalize List.range' 0 n 1 = l at hl ⊢
 induction l with
 | nil => simp
 | cons i l ih =>
  have hi : i < n := hl i (by simp)
  have px : (Go.part e (arr .u8 xs) (i * 1)).run P w = .ok (.int .u8 (xs.getD i 0)) w := by
   have h1 := v_ (K := .u8) (l := xs) (i := i) (by omega)
   simp [Go.part, isAgg, run_underlying he, h1]
  have py : (Go.part e (arr .u8 ys) (i * 1)).run P w = .ok (.int .u8 (ys.getD i 0)) w := by
   have h1 := v_ (K := .u8) (l := ys) (i := i) (by omega)
   simp [Go.part, isAgg, run_underlying he, h1]
  have pe : (Op.equalIn (d + 1) e (.int .u8 (xs.getD i 0)) (.int .u8 (ys.getD i 0))).run P w = .ok (xs.getD i 0 == ys.getD i 0) w := run_equalIn_int w d e .u8 .u8 _ _ he
  simp only [List.forIn_cons, Sem.run_bind, px, py, pe, Result.andThen_ok, List.all_cons]
  cases hb : (xs.getD i 0 == ys.getD i 0)
  · simp
  ·
   simp only [Bool.not_true, Bool.false_eq_true, if_false, Sem.run_pure, Result.andThen_ok, Bool.true_and]
   exact ih fun j hj => hl j (by simp [hj])
end
theorem Kt (w : World) : (sizeOf 5).run Tryz.prog w = .ok 1 w := by kernel_rfl
theorem CK : Tryz.prog.eqGuardType Tryz.prog.depth 27 = false := by kernel_rfl
theorem nP {S : World → Prop} {o : Oper} {a : Act} (x y : Operand) (t : TypeId) (ho : o.op = .binOp .neq 27 x y t)
  (h h' : List Int) (hl : h.length = 32) (hl' : h'.length = 32) (hx : a.eval x = .agg (arr .u8 h)) (hy : a.eval y = .agg (arr .u8 h')) (r : Bool) (hr : (!(h == h')) = r) :
  ∀ w, S w → (execOp a.eval o).run Tryz.prog w = .ok (.value (.bool r)) w := fun w _ => by
 unfold execOp
 simp only [ho, hx, hy, Sem.run_bind, run_eqGuard_agg (P := Tryz.prog) w .neq 27 x y _ _ CK, run_neq_struct, mJ (P := Tryz.prog) w 9998 27 5 32 (by kernel_rfl) (by kernel_rfl) Kt h h' hl hl', hr, Result.andThen_ok]
 rfl
theorem Ij : (Tryz.prog.info? 27).map (·.size) = some 32 := by kernel_rfl
theorem qX {l : List Int} (h : l.length = 32) : (Tryz.prog.info? 27).map (·.size) = some (l.map (Value.int .u8)).length := Ij.trans (congrArg some (by rw [List.length_map, h]))
theorem qi {P : Program} {ops : Array Oper} {rest : List Oper} {op : Oper} {a : Act} {w : World} {Q : Exit → Act → World → Prop} (hw : Region.wanted op (yielded ops a.tmps) = true) (v : Value) (hy : (execOp a.eval op).run P w = .ok (.value v) w)
  (h : wpList P ops Q rest (a.put op.dst v) w) : wpList P ops Q (op :: rest) a w :=
 wpList_step fun K hK => by
  rw [if_pos hw]
  unfold Oper.wp
  simp only [hy]
  exact hK _ _ h
theorem fP {P : Program} {ops : Array Oper} {rest : List Oper} {op : Oper} {a : Act} {w : World} {Q : Exit → Act → World → Prop} (hw : Region.wanted op (yielded ops a.tmps) = true) (ty : TypeId) (x : Operand) (ho : op.op = .load ty x)
  (b o : Nat) (hx : a.eval x = .pointer (some ⟨b, o, none⟩)) (cs : List Value) (d : TypeDesc) (hc : w.rangeAt b o cs)
  (hu : P.underlying ty = some d) (hd : d.isRow = true) (hi : (P.info? ty).map (·.size) = some cs.length)
  (h : wpList P ops Q rest (a.put op.dst (.agg cs.toArray)) w) : wpList P ops Q (op :: rest) a w :=
 wpList_step fun K hK => by
  rw [if_pos hw]
  exact wp_load_mid ty x ho b o hx cs d hc hu hd hi (hK _ _ h)
theorem aD.rng {w : World} {b : Nat} {h : List Int} {c : Int} (hh : aD w b h c) : w.rangeAt b 0 (h.map (Value.int .u8)) := fun j v hj => by
 rw [List.getElem?_map] at hj
 have hlt : j < h.length := by
  rcases Nat.lt_or_ge j h.length with h1 | h1
  · exact h1
  · rw [List.getElem?_eq_none h1] at hj; cases hj
 obtain ⟨b2, o2, e, hc⟩ := hh.sk j hlt
 injection e with e
 injection e with e1 e2
 subst e1
 subst e2
 rw [List.getElem?_eq_getElem hlt] at hj
 injection hj with hj
 rw [hc, ← hj, List.getD_eq_getElem?_getD, List.getElem?_eq_getElem hlt]
 rfl
structure Js (w : World) (P Q G X B H : Int) (h : List Int) (c : Int) (u : World) : Prop where
 g : qI u w.heap.size P Q G X B H
 d : aD u (w.heap.size + 1) h c
 z : w.heap.size + 2 ≤ u.heap.size
 b : Below w.heap.size w u
theorem Js.below {w u u' : World} {P Q G X B H : Int} {h : List Int} {c : Int} (K : Js w P Q G X B H h c u) (hb : Below u.heap.size u u') : Js w P Q G X B H h c u' :=
 ⟨K.g.below hb, K.d.below hb, Nat.le_trans K.z hb.size, ag K.b hb⟩
theorem Js.start (w : World) (P Q G X B H : Int) (h : List Int) (c : Int) : Js w P Q G X B H h c ((w.alloc (bB P Q G X B H)).alloc (.cells (ak h c) 29)) := by
 have e1 : (w.alloc (bB P Q G X B H)).heap.size = w.heap.size + 1 := by simp
 have b1 := af (w.alloc (bB P Q G X B H)) (.cells (ak h c) 29)
 refine ⟨(eP w P Q G X B H).below b1, ?_, by simp, ag (af w (bB P Q G X B H)) b1⟩
 have h1 := aD.new (w.alloc (bB P Q G X B H)) h c
 rwa [e1] at h1
theorem nT (P Q G X B H m r n low high other : Int) (s : ByteArray) (h : List Int) (hl : Hid (h.length = 32)) (n_ : Hid (au h = true)) (c : Int) (hQ : Q < 9223372036854775808) (w : World) (hv : Hid (Vars w)) (hd : Hid (bu w)) :
  Calls Tryz.prog 3 #[bv P Q G X B H, .int .i64 m, .int .i64 r, .int .i64 n, .int .i64 low, .int .i64 high, .string s, .agg (ak h c), .int .i64 other] w (Rt w (.bool true)) := by
 have HI0 : Hid (Js w P Q G X B H h c ((w.alloc (bB P Q G X B H)).alloc (.cells (ak h c) 29))) := aa (Js.start w P Q G X B H h c)
 obtain ⟨W, hW⟩ : ∃ W, (w.alloc (bB P Q G X B H)).alloc (.cells (ak h c) 29) = W := ⟨_, rfl⟩
 rw [hW] at HI0
 have HW := aa hW
 clear hW
 go_in
 go_upto_region 1 with (fail)
 rw [show (w.alloc (bB P Q G X B H)).alloc (.cells (ak h c) 29) = W from HW.out]
 clear HW
 go_wp2_with fail
 refine (FX _ (aa (hv.out.below HI0.out.b))).mono ?_
 rintro e w1 ⟨rfl, hb1⟩
 have HI1 := aa (HI0.out.below hb1)
 clear hb1 HI0
 by_cases hsz : s.size ≤ 100
 ·
  obtain ⟨⟨g0, g1, g2⟩, g3, g4, g5⟩ := HI1.out.g
  have t1 : decide ((100 : Int) < (s.size : Int)) = false := by simp; omega
  go_wp2_with fail
  clear g0 g1 g2 g3 g4 g5
  obtain ⟨Rm, hbv⟩ : ∃ z, aS P Q G X B H = z := ⟨_, rfl⟩
  refine (uG P Q G X B H Rm (aa hbv) hQ _).mono ?_
  rintro e w2 ⟨rfl, hb2⟩
  have HI2 := aa (HI1.out.below hb2)
  clear hb2 HI1
  cases Rm with
  | false =>
   go_wp2_with fail
   go_ret
   exact ⟨rfl, HI2.out.b⟩
  | true =>
   have hval := aa hbv
   clear hbv
   go_wp2_with fail
   obtain ⟨lb, hlb⟩ : ∃ z, cZ (aO s) = z := ⟨_, rfl⟩
   refine (wZ s (by omega) lb (aa hlb) _).mono ?_
   rintro e w3 ⟨rfl, rfl⟩
   cases lb with
   | false =>
    go_wp2_with fail
    go_ret
    exact ⟨rfl, HI2.out.b⟩
   | true =>
    have hr := aa hlb
    clear hlb
    go_wp2_with ((with_reducible show wpList _ _ _ (⟨some 43, _, _, _, _, _⟩ :: _) _ _); refine az (by rfl) 29 _ rfl (w.heap.size + 1) rfl _ _ _ _ HI2.out.d Tryz.underlying29 rfl (ai hl.out) ?_)
    obtain ⟨dv, hdv⟩ : ∃ z, nS c = z := ⟨_, rfl⟩
    refine (uF h hl c dv (aa hdv) _).mono ?_
    rintro e w4 ⟨rfl, hb4⟩
    have HI4 := aa (HI2.out.below hb4)
    clear hb4 HI2
    cases dv with
    | false =>
     go_wp2_with fail
     go_ret
     exact ⟨rfl, HI4.out.b⟩
    | true =>
     have hc0 : 0 ≤ c := by simp [nS] at hdv; omega
     clear hdv
     have hcc := HI4.out.d.count hl.out
     obtain ⟨p1, p2, p3, p4⟩ := aJ (bn hval.out).1
     by_cases hcn : c ≤ 549755813888
     ·
      have t2 : decide ((549755813888 : Int) < c) = false := by simp; omega
      obtain ⟨⟨g0, g1, g2⟩, g3, g4, g5⟩ := HI4.out.g
      go_wp2_with fail
      clear g0 g1 g2 g3 g4 g5 hcc
      obtain ⟨ce, hce⟩ : ∃ z, Cz P Q G X B H [m, r] = z := ⟨_, rfl⟩
      obtain ⟨V, hV⟩ : ∃ z, H_ P Q G X B H m r = z := ⟨_, rfl⟩
      refine (ny P Q G X B H m r V ce (aa hce) (aa hV) (by omega) _ (aa (hv.out.below HI4.out.b))).mono ?_
      rintro e w5 ⟨rfl, hb5⟩
      have nN := aa (HI4.out.below hb5)
      clear hb5 HI4
      have fM : Q < 2305843009213693952 := by omega
      by_cases hc2 : ce = 0
      ·
       subst hc2
       obtain ⟨_, hsm, iY⟩ := Gn hce
       simp only [bH, Bool.and_eq_true, decide_eq_true_eq] at hsm iY
       have HV : Hid (rep P G H m r = V) := aa (by rw [← hV, H_, if_pos hce, uD p1])
       clear hce hV
       obtain ⟨⟨g0, g1, g2⟩, g3, g4, g5⟩ := nN.out.g
       go_wp2_with ((with_reducible show wpList _ _ _ (⟨some 69, _, _, _, _, _⟩ :: _) _ _); refine az (by rfl) 29 _ rfl (w.heap.size + 1) rfl _ _ _ _ nN.out.d Tryz.underlying29 rfl (ai hl.out) ?_)
       clear g0 g1 g2 g3 g4 g5
       by_cases hgood : fK Q n = true ∧ m < 2 ^ n.toNat
       ·
        obtain ⟨hp, hm1⟩ := hgood
        obtain ⟨k, rfl, hk1, sF, hpw⟩ := fD hp
        rw [Int.toNat_natCast] at hm1
        have Kb := aa hm1
        have dP := aa hp
        clear hm1 hp hpw
        refine (iw P Q G X B H m r k s (by omega) hr h hl n_ c hc0 (by omega) hval dP hsm.1 Kb.out iY.1 iY.2 fM _ (aa (hv.out.below nN.out.b)) (aa (hd.out.below nN.out.b))).mono ?_
        rintro e w6 ⟨A, L, ca, cl, rfl, Q8, hb6⟩
        have G5 := aa (Q8 w6 (Nat.le_refl _) (fun _ _ _ => rfl))
        have tu := aa (nN.out.below hb6)
        clear Q8 hb6 nN
        have Iz := sG (h := h) (q := Q) (c := c) (k - 1) (by omega)
        have Iy := oU (h := h) (q := Q) (m := m) (c := mF h Q c (k - 1)) k (by omega)
        obtain ⟨c3, hc3⟩ : ∃ z, mK h Q m (mF h Q c (k - 1)) k = z := ⟨_, rfl⟩
        have hgt : c < c3 := by
         rw [← hc3]
         obtain ⟨j, rfl⟩ : ∃ j, k = j + 1 := ⟨k - 1, by omega⟩
         rw [Nat.add_sub_cancel]
         rw [Nat.add_sub_cancel] at Iz
         have q1 := oU (h := h) (q := Q) (m := m) (c := mF h Q c j) j (by omega)
         have q2 := Dz (h := h) (q := Q) (c := mK h Q m (mF h Q c j) j) (wh := nI m j) (by omega)
         rw [mK]
         omega
        rw [hc3]
        clear hc3 Iz Iy
        have hA1 := af w6 (.cells #[.slice none 0 0, .slice none 0 0] 40)
        have hA2 := af (w6.alloc (.cells #[.slice none 0 0, .slice none 0 0] 40)) (.cells #[.int .u8 0, .int .u8 0, .int .u8 0, .int .u8 0, .int .u8 0, .int .u8 0, .int .u8 0, .int .u8 0, .int .u8 0, .int .u8 0, .int .u8 0, .int .u8 0, .int .u8 0, .int .u8 0, .int .u8 0, .int .u8 0, .int .u8 0, .int .u8 0, .int .u8 0, .int .u8 0, .int .u8 0, .int .u8 0, .int .u8 0, .int .u8 0, .int .u8 0, .int .u8 0, .int .u8 0, .int .u8 0, .int .u8 0, .int .u8 0, .int .u8 0, .int .u8 0, .int .i64 0] 29)
        have hz1 : (w6.alloc (.cells #[.slice none 0 0, .slice none 0 0] 40)).heap.size = w6.heap.size + 1 := by simp
        have H1 : Hid (((w6.alloc (.cells #[.slice none 0 0, .slice none 0 0] 40)).alloc (.cells #[.int .u8 0, .int .u8 0, .int .u8 0, .int .u8 0, .int .u8 0, .int .u8 0, .int .u8 0, .int .u8 0, .int .u8 0, .int .u8 0, .int .u8 0, .int .u8 0, .int .u8 0, .int .u8 0, .int .u8 0, .int .u8 0, .int .u8 0, .int .u8 0, .int .u8 0, .int .u8 0, .int .u8 0, .int .u8 0, .int .u8 0, .int .u8 0, .int .u8 0, .int .u8 0, .int .u8 0, .int .u8 0, .int .u8 0, .int .u8 0, .int .u8 0, .int .u8 0, .int .i64 0] 29)).heap[w6.heap.size]? = some (.cells #[.slice none 0 0, .slice none 0 0] 40 (0, 0))) := aa ((hA2.block _ (by omega)).trans (heap_alloc_new w6 (.cells #[.slice none 0 0, .slice none 0 0] 40)))
        have H2 : Hid (aD (((w6.alloc (.cells #[.slice none 0 0, .slice none 0 0] 40)).alloc (.cells #[.int .u8 0, .int .u8 0, .int .u8 0, .int .u8 0, .int .u8 0, .int .u8 0, .int .u8 0, .int .u8 0, .int .u8 0, .int .u8 0, .int .u8 0, .int .u8 0, .int .u8 0, .int .u8 0, .int .u8 0, .int .u8 0, .int .u8 0, .int .u8 0, .int .u8 0, .int .u8 0, .int .u8 0, .int .u8 0, .int .u8 0, .int .u8 0, .int .u8 0, .int .u8 0, .int .u8 0, .int .u8 0, .int .u8 0, .int .u8 0, .int .u8 0, .int .u8 0, .int .i64 0] 29)).setRow w6.heap.size #[.slice A k ca, .slice L k cl]) (w6.heap.size + 1) (aR 32) 0) := aa (by
         refine (setRow_other _ _ _ _ (by omega)).trans ?_
         rw [← hz1, nO]
         exact aD.new _ _ _)
        have Ex : Hid (((((w6.alloc (.cells #[.slice none 0 0, .slice none 0 0] 40)).alloc (.cells #[.int .u8 0, .int .u8 0, .int .u8 0, .int .u8 0, .int .u8 0, .int .u8 0, .int .u8 0, .int .u8 0, .int .u8 0, .int .u8 0, .int .u8 0, .int .u8 0, .int .u8 0, .int .u8 0, .int .u8 0, .int .u8 0, .int .u8 0, .int .u8 0, .int .u8 0, .int .u8 0, .int .u8 0, .int .u8 0, .int .u8 0, .int .u8 0, .int .u8 0, .int .u8 0, .int .u8 0, .int .u8 0, .int .u8 0, .int .u8 0, .int .u8 0, .int .u8 0, .int .i64 0] 29)).setRow w6.heap.size #[.slice A k ca, .slice L k cl]).setRow (w6.heap.size + 1) (ak h c3)).heap[w6.heap.size]? = some (.cells #[.slice A k ca, .slice L k cl] 40 (0, 0))) := aa ((setRow_other _ _ _ _ (by omega)).trans (setRow_heap _ _ _ #[.slice A k ca, .slice L k cl] _ _ H1.out))
        have HD7 : Hid (aD ((((w6.alloc (.cells #[.slice none 0 0, .slice none 0 0] 40)).alloc (.cells #[.int .u8 0, .int .u8 0, .int .u8 0, .int .u8 0, .int .u8 0, .int .u8 0, .int .u8 0, .int .u8 0, .int .u8 0, .int .u8 0, .int .u8 0, .int .u8 0, .int .u8 0, .int .u8 0, .int .u8 0, .int .u8 0, .int .u8 0, .int .u8 0, .int .u8 0, .int .u8 0, .int .u8 0, .int .u8 0, .int .u8 0, .int .u8 0, .int .u8 0, .int .u8 0, .int .u8 0, .int .u8 0, .int .u8 0, .int .u8 0, .int .u8 0, .int .u8 0, .int .i64 0] 29)).setRow w6.heap.size #[.slice A k ca, .slice L k cl]).setRow (w6.heap.size + 1) (ak h c3)) (w6.heap.size + 1) h c3) := aa H2.out.setRow
        have gQ : Below w6.heap.size w6 ((((w6.alloc (.cells #[.slice none 0 0, .slice none 0 0] 40)).alloc (.cells #[.int .u8 0, .int .u8 0, .int .u8 0, .int .u8 0, .int .u8 0, .int .u8 0, .int .u8 0, .int .u8 0, .int .u8 0, .int .u8 0, .int .u8 0, .int .u8 0, .int .u8 0, .int .u8 0, .int .u8 0, .int .u8 0, .int .u8 0, .int .u8 0, .int .u8 0, .int .u8 0, .int .u8 0, .int .u8 0, .int .u8 0, .int .u8 0, .int .u8 0, .int .u8 0, .int .u8 0, .int .u8 0, .int .u8 0, .int .u8 0, .int .u8 0, .int .u8 0, .int .i64 0] 29)).setRow w6.heap.size #[.slice A k ca, .slice L k cl]).setRow (w6.heap.size + 1) (ak h c3)) := ah (ah (ag hA1 hA2) (Nat.le_refl _)) (Nat.le_succ _)
        clear hA1 hA2 hz1
        go_upto_region 9 with (first | ((with_reducible show wpList _ _ _ (⟨none, Op.store _ (Operand.tmp 21) _, _, _, _, _⟩ :: _) _ _); refine wpList_store_row rfl 40 _ _ rfl w6.heap.size #[.slice A k ca, .slice L k cl] rfl rfl _ _ H1.out bC rfl (by simp [Value.oneCell']) ?_) | ((with_reducible show wpList _ _ _ (⟨none, Op.store _ (Operand.tmp 22) _, _, _, _, _⟩ :: _) _ _); refine wpList_store_row rfl 29 _ _ rfl (w6.heap.size + 1) (ak h c3) rfl rfl _ _ H2.out (ai hl.out) (aH rfl hl.out) (ay _ _) ?_))
        have tq := aa (tu.out.below gQ)
        have GZ := aa (G5.out.below gQ)
        obtain ⟨w7, hw7⟩ : ∃ u, (((w6.alloc (.cells #[.slice none 0 0, .slice none 0 0] 40)).alloc (.cells #[.int .u8 0, .int .u8 0, .int .u8 0, .int .u8 0, .int .u8 0, .int .u8 0, .int .u8 0, .int .u8 0, .int .u8 0, .int .u8 0, .int .u8 0, .int .u8 0, .int .u8 0, .int .u8 0, .int .u8 0, .int .u8 0, .int .u8 0, .int .u8 0, .int .u8 0, .int .u8 0, .int .u8 0, .int .u8 0, .int .u8 0, .int .u8 0, .int .u8 0, .int .u8 0, .int .u8 0, .int .u8 0, .int .u8 0, .int .u8 0, .int .u8 0, .int .u8 0, .int .i64 0] 29)).setRow w6.heap.size #[.slice A k ca, .slice L k cl]).setRow (w6.heap.size + 1) (ak h c3) = u := ⟨_, rfl⟩
        obtain ⟨xb, hxb⟩ : ∃ z, w6.heap.size = z := ⟨_, rfl⟩
        rw [hw7] at Ex HD7 tq GZ ⊢
        rw [hxb] at Ex HD7 ⊢
        clear hw7 hxb gQ G5 tu H1 H2
        obtain ⟨⟨g0, g1, g2⟩, g3, g4, g5⟩ := tq.out.g
        go_wp2_with fail
        clear g0 g1 g2 g3 g4 g5
        refine (oN P Q G X B H k true dP _).mono ?_
        rintro e w8 ⟨rfl, mE⟩
        have dG := aa (tq.out.below mE)
        have JE := aa (GZ.out.below mE)
        have kU := aa ((mE.block xb (Array.getElem?_eq_some_iff.1 Ex.out).1).trans Ex.out)
        have Sy := aa (HD7.out.below mE)
        clear mE tq GZ Ex HD7
        obtain ⟨q1, q2⟩ := lH (n := k) (by omega)
        have hsh : wrap64 ((2 : Int) ^ k) = 2 ^ k := IntWalk.wrap64_in _ (by omega)
        have t3 : decide (m < (2 : Int) ^ k) = true := by simpa using Kb.out
        obtain ⟨⟨g0, g1, g2⟩, g3, g4, g5⟩ := dG.out.g
        clear q1 q2
        go_wp2_with ((with_reducible show wpList _ _ _ (⟨some _, Op.load _ (Operand.tmp 21), _, _, _, _⟩ :: _) _ _); refine az (by rfl) 40 _ rfl xb rfl _ _ _ _ kU.out Tryz.underlying40 rfl bC ?_)
        clear g0 g1 g2 g3 g4 g5
        refine (jE P Q G X B H m r k s (by omega) hr h c hval dP hsm.1 Kb.out iY.1 iY.2 fM A L ca cl _ (aa (hv.out.below dG.out.b)) (aa (hd.out.below dG.out.b)) JE.out V HV.out.symm).mono ?_
        rintro e w9 ⟨rfl, ry⟩
        have wJ := aa (dG.out.below ry)
        have RY := aa (JE.out.below ry)
        have RB := aa ((ry.block xb (Array.getElem?_eq_some_iff.1 kU.out).1).trans kU.out)
        have Qc := aa (Sy.out.below ry)
        clear ry dG JE kU Sy
        have La := wJ.out.d.count hl.out
        have TB := Qc.out.count hl.out
        have t4 : decide (c3 ≤ c) = false := by simp; omega
        go_upto_region 12 with (first | ((with_reducible show wpList _ _ _ (⟨some 96, _, _, _, _, _⟩ :: _) _ _); refine fP (by rfl) _ _ rfl (xb + 1) 0 rfl (h.map (Value.int .u8)) _ Qc.out.rng Tryz.underlying27 rfl (qX hl.out) ?_) | ((with_reducible show wpList _ _ _ (⟨some 98, _, _, _, _, _⟩ :: _) _ _); refine fP (by rfl) _ _ rfl (w.heap.size + 1) 0 rfl (h.map (Value.int .u8)) _ wJ.out.d.rng Tryz.underlying27 rfl (qX hl.out) ?_) | ((with_reducible show wpList _ _ _ (⟨some 99, _, _, _, _, _⟩ :: _) _ _); refine qi (by rfl) (.bool false) (nP (S := fun _ => True) _ _ _ rfl h h hl.out hl.out rfl rfl false (by simp) _ trivial) ?_))
        clear La TB t4
        obtain ⟨⟨g0, g1, g2⟩, g3, g4, g5⟩ := wJ.out.g
        by_cases hov : other = V
        ·
         have t5 : (other != V) = false := by simp [hov]
         go_wp2_with ((with_reducible show wpList _ _ _ (⟨some 128, _, _, _, _, _⟩ :: _) _ _); refine az (by rfl) 29 _ rfl (w.heap.size + 1) rfl _ _ _ _ wJ.out.d Tryz.underlying29 rfl (ai hl.out) ?_)
         clear g0 g1 g2 g3 g4 g5
         obtain ⟨nd, hnd⟩ : ∃ z, uP Q low high = z := ⟨_, rfl⟩
         by_cases hbt : nd = 0 ∨ m < low ∨ high < m
         ·
          refine (gK P Q G X B H m r low high s (by omega) hr h hl n_ c hc0 (by omega) hval hsm.1 hsm.2 iY.1 iY.2 fM (by rw [hnd]; exact hbt) _ (aa (hv.out.below wJ.out.b))).mono ?_
          rintro e wa ⟨rfl, hba⟩
          have gU := aa (wJ.out.below hba)
          clear hba wJ
          have H2 : Hid (aD (wa.alloc (.cells #[.int .u8 0, .int .u8 0, .int .u8 0, .int .u8 0, .int .u8 0, .int .u8 0, .int .u8 0, .int .u8 0, .int .u8 0, .int .u8 0, .int .u8 0, .int .u8 0, .int .u8 0, .int .u8 0, .int .u8 0, .int .u8 0, .int .u8 0, .int .u8 0, .int .u8 0, .int .u8 0, .int .u8 0, .int .u8 0, .int .u8 0, .int .u8 0, .int .u8 0, .int .u8 0, .int .u8 0, .int .u8 0, .int .u8 0, .int .u8 0, .int .u8 0, .int .u8 0, .int .i64 0] 29)) wa.heap.size (aR 32) 0) := aa (by
           rw [nO]
           exact aD.new _ _ _)
          have gQ : Below wa.heap.size wa ((wa.alloc (.cells #[.int .u8 0, .int .u8 0, .int .u8 0, .int .u8 0, .int .u8 0, .int .u8 0, .int .u8 0, .int .u8 0, .int .u8 0, .int .u8 0, .int .u8 0, .int .u8 0, .int .u8 0, .int .u8 0, .int .u8 0, .int .u8 0, .int .u8 0, .int .u8 0, .int .u8 0, .int .u8 0, .int .u8 0, .int .u8 0, .int .u8 0, .int .u8 0, .int .u8 0, .int .u8 0, .int .u8 0, .int .u8 0, .int .u8 0, .int .u8 0, .int .u8 0, .int .u8 0, .int .i64 0] 29)).setRow wa.heap.size (ak (aR 32) 0)) := ah (af wa _) (Nat.le_refl _)
          go_upto_region 17 with (((with_reducible show wpList _ _ _ (⟨none, Op.store _ (Operand.tmp 25) _, _, _, _, _⟩ :: _) _ _); refine wpList_store_row rfl 29 _ _ rfl wa.heap.size (ak (aR 32) 0) rfl rfl _ _ H2.out (ai rfl) (aH rfl rfl) (ay _ _) ?_))
          have dW := aa (gU.out.below gQ)
          obtain ⟨wq, hwq⟩ : ∃ u, (wa.alloc (.cells #[.int .u8 0, .int .u8 0, .int .u8 0, .int .u8 0, .int .u8 0, .int .u8 0, .int .u8 0, .int .u8 0, .int .u8 0, .int .u8 0, .int .u8 0, .int .u8 0, .int .u8 0, .int .u8 0, .int .u8 0, .int .u8 0, .int .u8 0, .int .u8 0, .int .u8 0, .int .u8 0, .int .u8 0, .int .u8 0, .int .u8 0, .int .u8 0, .int .u8 0, .int .u8 0, .int .u8 0, .int .u8 0, .int .u8 0, .int .u8 0, .int .u8 0, .int .u8 0, .int .i64 0] 29)).setRow wa.heap.size (ak (aR 32) 0) = u := ⟨_, rfl⟩
          obtain ⟨yb, hyb⟩ : ∃ z, wa.heap.size = z := ⟨_, rfl⟩
          rw [hwq] at dW ⊢
          rw [hyb] at ⊢
          clear hwq hyb gQ H2 gU
          obtain ⟨⟨g0, g1, g2⟩, g3, g4, g5⟩ := dW.out.g
          go_wp2_with fail
          clear g0 g1 g2 g3 g4 g5
          refine (bZ P Q G X B H low high fM nd (aa hnd) _).mono ?_
          rintro e wb ⟨rfl, hbb⟩
          have iW := aa (dW.out.below hbb)
          clear hbb dW hnd
          by_cases n0 : nd = 0
          ·
           subst n0
           go_wp2_with fail
           go_ret
           exact ⟨rfl, iW.out.b⟩
          ·
           have n1 : (nd == 0) = false := by simp [n0]
           by_cases n2 : m < low
           ·
            have n3 : decide (m < low) = true := by simp [n2]
            go_wp2_with fail
            go_ret
            exact ⟨rfl, iW.out.b⟩
           ·
            have n3 : decide (m < low) = false := by simp; omega
            have n4 : decide (high < m) = true := by simp; omega
            go_wp2_with fail
            go_ret
            exact ⟨rfl, iW.out.b⟩
         ·
          obtain ⟨hn0, hml, xJ⟩ : nd ≠ 0 ∧ low ≤ m ∧ m ≤ high := by omega
          obtain ⟨bb, hbb⟩ : ∃ z, iy Q low high = z := ⟨_, rfl⟩
          cases bb with
          | false => exact absurd (by rw [← hnd, uP, hbb]; rfl) hn0
          | true =>
           obtain ⟨wn, hwn⟩ : ∃ z, tJ low high = z := ⟨_, rfl⟩
           obtain ⟨Hq, hwb⟩ : ∃ z, tK Q wn = z := ⟨_, rfl⟩
           cases Hq with
           | false => exact absurd (by rw [← hnd, uP, hbb, hwn, hwb]; rfl) hn0
           | true =>
            have rQ := aa hbb
            have DV := aa hwn
            have DW := aa hwb
            have JF := aa hnd
            clear hbb hwn hwb hnd hbt
            refine (iT P Q G X B H m r low high s (by omega) hr h hl n_ c hc0 (by omega) hval hsm.1 hsm.2 iY.1 iY.2 fM wn rQ DV DW hml xJ _ (aa (hv.out.below wJ.out.b)) (aa (hd.out.below wJ.out.b))).mono ?_
            rintro e wa ⟨gb, A1, L1, A2, L2, eD, eB, bN, cB, cb, rfl, hG, og, hR2, hba⟩
            have gU := aa (wJ.out.below hba)
            have yV := aa hG
            have pX := aa og
            have pW := aa hR2
            clear hba wJ hG og hR2
            have H2 : Hid (aD (wa.alloc (.cells #[.int .u8 0, .int .u8 0, .int .u8 0, .int .u8 0, .int .u8 0, .int .u8 0, .int .u8 0, .int .u8 0, .int .u8 0, .int .u8 0, .int .u8 0, .int .u8 0, .int .u8 0, .int .u8 0, .int .u8 0, .int .u8 0, .int .u8 0, .int .u8 0, .int .u8 0, .int .u8 0, .int .u8 0, .int .u8 0, .int .u8 0, .int .u8 0, .int .u8 0, .int .u8 0, .int .u8 0, .int .u8 0, .int .u8 0, .int .u8 0, .int .u8 0, .int .u8 0, .int .i64 0] 29)) wa.heap.size (aR 32) 0) := aa (by
             rw [nO]
             exact aD.new _ _ _)
            have gQ : Below wa.heap.size wa ((wa.alloc (.cells #[.int .u8 0, .int .u8 0, .int .u8 0, .int .u8 0, .int .u8 0, .int .u8 0, .int .u8 0, .int .u8 0, .int .u8 0, .int .u8 0, .int .u8 0, .int .u8 0, .int .u8 0, .int .u8 0, .int .u8 0, .int .u8 0, .int .u8 0, .int .u8 0, .int .u8 0, .int .u8 0, .int .u8 0, .int .u8 0, .int .u8 0, .int .u8 0, .int .u8 0, .int .u8 0, .int .u8 0, .int .u8 0, .int .u8 0, .int .u8 0, .int .u8 0, .int .u8 0, .int .i64 0] 29)).setRow wa.heap.size (ak h cb)) := ah (af wa _) (Nat.le_refl _)
            go_upto_region 17 with (((with_reducible show wpList _ _ _ (⟨none, Op.store _ (Operand.tmp 25) _, _, _, _, _⟩ :: _) _ _); refine wpList_store_row rfl 29 _ _ rfl wa.heap.size (ak h cb) rfl rfl _ _ H2.out (ai hl.out) (aH rfl hl.out) (ay _ _) ?_))
            have dW := aa (gU.out.below gQ)
            have kQ := aa (pX.out.below gQ)
            have kP := aa (pW.out.below gQ)
            have tF := aa ((gQ.block gb (Array.getElem?_eq_some_iff.1 yV.out).1).trans yV.out)
            obtain ⟨wq, hwq⟩ : ∃ u, (wa.alloc (.cells #[.int .u8 0, .int .u8 0, .int .u8 0, .int .u8 0, .int .u8 0, .int .u8 0, .int .u8 0, .int .u8 0, .int .u8 0, .int .u8 0, .int .u8 0, .int .u8 0, .int .u8 0, .int .u8 0, .int .u8 0, .int .u8 0, .int .u8 0, .int .u8 0, .int .u8 0, .int .u8 0, .int .u8 0, .int .u8 0, .int .u8 0, .int .u8 0, .int .u8 0, .int .u8 0, .int .u8 0, .int .u8 0, .int .u8 0, .int .u8 0, .int .u8 0, .int .u8 0, .int .i64 0] 29)).setRow wa.heap.size (ak h cb) = u := ⟨_, rfl⟩
            obtain ⟨yb, hyb⟩ : ∃ z, wa.heap.size = z := ⟨_, rfl⟩
            rw [hwq] at dW kQ kP tF ⊢
            rw [hyb] at ⊢
            clear hwq hyb gQ H2 gU pX pW yV
            obtain ⟨⟨g0, g1, g2⟩, g3, g4, g5⟩ := dW.out.g
            go_wp2_with fail
            clear g0 g1 g2 g3 g4 g5
            refine (bZ P Q G X B H low high fM nd JF _).mono ?_
            rintro e wb ⟨rfl, hbb⟩
            have iW := aa (dW.out.below hbb)
            have yR := aa (kQ.out.below hbb)
            have yQ := aa (kP.out.below hbb)
            have JH := aa ((hbb.block gb (Array.getElem?_eq_some_iff.1 tF.out).1).trans tF.out)
            clear hbb dW kQ kP tF
            have n1 : (nd == 0) = false := by simp [hn0]
            have n3 : decide (m < low) = false := by simp; omega
            have n4 : decide (high < m) = false := by simp; omega
            obtain ⟨⟨g0, g1, g2⟩, g3, g4, g5⟩ := iW.out.g
            go_wp2_with fail
            clear g0 g1 g2 g3 g4 g5
            refine (gD P Q G X B H m r low high wn s (by omega) hr h c _ hval rQ DV DW hml xJ iY.1 iY.2 fM V HV gb A1 L1 A2 L2 eD eB bN cB _ (aa (hv.out.below iW.out.b)) (aa (hd.out.below iW.out.b)) JH yR yQ).mono ?_
            rintro e wc ⟨rfl, hbc⟩
            go_wp2_with fail
            go_ret
            exact ⟨rfl, (iW.out.below hbc).b⟩
        ·
         have t5 : (other != V) = true := by simp [hov]
         go_wp2_with ((with_reducible show wpList _ _ _ (⟨some 116, _, _, _, _, _⟩ :: _) _ _); refine az (by rfl) 40 _ rfl xb rfl _ _ _ _ RB.out Tryz.underlying40 rfl bC ?_)
         clear g0 g1 g2 g3 g4 g5
         refine (yE P Q G X B H m r k s h c hval dP hsm.1 Kb.out iY.1 iY.2 fM A L ca cl _ (aa (hv.out.below wJ.out.b)) RY.out other (by rw [HV.out]; exact hov)).mono ?_
         rintro e Va ⟨rfl, Le⟩
         have tC := aa (wJ.out.below Le)
         clear Le wJ RY RB Qc
         obtain ⟨⟨g0, g1, g2⟩, g3, g4, g5⟩ := tC.out.g
         go_wp2_with ((with_reducible show wpList _ _ _ (⟨some 128, _, _, _, _, _⟩ :: _) _ _); refine az (by rfl) 29 _ rfl (w.heap.size + 1) rfl _ _ _ _ tC.out.d Tryz.underlying29 rfl (ai hl.out) ?_)
         clear g0 g1 g2 g3 g4 g5
         obtain ⟨nd, hnd⟩ : ∃ z, uP Q low high = z := ⟨_, rfl⟩
         by_cases hbt : nd = 0 ∨ m < low ∨ high < m
         ·
          refine (gK P Q G X B H m r low high s (by omega) hr h hl n_ c hc0 (by omega) hval hsm.1 hsm.2 iY.1 iY.2 fM (by rw [hnd]; exact hbt) _ (aa (hv.out.below tC.out.b))).mono ?_
          rintro e wa ⟨rfl, hba⟩
          have gU := aa (tC.out.below hba)
          clear hba tC
          have H2 : Hid (aD (wa.alloc (.cells #[.int .u8 0, .int .u8 0, .int .u8 0, .int .u8 0, .int .u8 0, .int .u8 0, .int .u8 0, .int .u8 0, .int .u8 0, .int .u8 0, .int .u8 0, .int .u8 0, .int .u8 0, .int .u8 0, .int .u8 0, .int .u8 0, .int .u8 0, .int .u8 0, .int .u8 0, .int .u8 0, .int .u8 0, .int .u8 0, .int .u8 0, .int .u8 0, .int .u8 0, .int .u8 0, .int .u8 0, .int .u8 0, .int .u8 0, .int .u8 0, .int .u8 0, .int .u8 0, .int .i64 0] 29)) wa.heap.size (aR 32) 0) := aa (by
           rw [nO]
           exact aD.new _ _ _)
          have gQ : Below wa.heap.size wa ((wa.alloc (.cells #[.int .u8 0, .int .u8 0, .int .u8 0, .int .u8 0, .int .u8 0, .int .u8 0, .int .u8 0, .int .u8 0, .int .u8 0, .int .u8 0, .int .u8 0, .int .u8 0, .int .u8 0, .int .u8 0, .int .u8 0, .int .u8 0, .int .u8 0, .int .u8 0, .int .u8 0, .int .u8 0, .int .u8 0, .int .u8 0, .int .u8 0, .int .u8 0, .int .u8 0, .int .u8 0, .int .u8 0, .int .u8 0, .int .u8 0, .int .u8 0, .int .u8 0, .int .u8 0, .int .i64 0] 29)).setRow wa.heap.size (ak (aR 32) 0)) := ah (af wa _) (Nat.le_refl _)
          go_upto_region 17 with (((with_reducible show wpList _ _ _ (⟨none, Op.store _ (Operand.tmp 25) _, _, _, _, _⟩ :: _) _ _); refine wpList_store_row rfl 29 _ _ rfl wa.heap.size (ak (aR 32) 0) rfl rfl _ _ H2.out (ai rfl) (aH rfl rfl) (ay _ _) ?_))
          have dW := aa (gU.out.below gQ)
          obtain ⟨wq, hwq⟩ : ∃ u, (wa.alloc (.cells #[.int .u8 0, .int .u8 0, .int .u8 0, .int .u8 0, .int .u8 0, .int .u8 0, .int .u8 0, .int .u8 0, .int .u8 0, .int .u8 0, .int .u8 0, .int .u8 0, .int .u8 0, .int .u8 0, .int .u8 0, .int .u8 0, .int .u8 0, .int .u8 0, .int .u8 0, .int .u8 0, .int .u8 0, .int .u8 0, .int .u8 0, .int .u8 0, .int .u8 0, .int .u8 0, .int .u8 0, .int .u8 0, .int .u8 0, .int .u8 0, .int .u8 0, .int .u8 0, .int .i64 0] 29)).setRow wa.heap.size (ak (aR 32) 0) = u := ⟨_, rfl⟩
          obtain ⟨yb, hyb⟩ : ∃ z, wa.heap.size = z := ⟨_, rfl⟩
          rw [hwq] at dW ⊢
          rw [hyb] at ⊢
          clear hwq hyb gQ H2 gU
          obtain ⟨⟨g0, g1, g2⟩, g3, g4, g5⟩ := dW.out.g
          go_wp2_with fail
          clear g0 g1 g2 g3 g4 g5
          refine (bZ P Q G X B H low high fM nd (aa hnd) _).mono ?_
          rintro e wb ⟨rfl, hbb⟩
          have iW := aa (dW.out.below hbb)
          clear hbb dW hnd
          by_cases n0 : nd = 0
          ·
           subst n0
           go_wp2_with fail
           go_ret
           exact ⟨rfl, iW.out.b⟩
          ·
           have n1 : (nd == 0) = false := by simp [n0]
           by_cases n2 : m < low
           ·
            have n3 : decide (m < low) = true := by simp [n2]
            go_wp2_with fail
            go_ret
            exact ⟨rfl, iW.out.b⟩
           ·
            have n3 : decide (m < low) = false := by simp; omega
            have n4 : decide (high < m) = true := by simp; omega
            go_wp2_with fail
            go_ret
            exact ⟨rfl, iW.out.b⟩
         ·
          obtain ⟨hn0, hml, xJ⟩ : nd ≠ 0 ∧ low ≤ m ∧ m ≤ high := by omega
          obtain ⟨bb, hbb⟩ : ∃ z, iy Q low high = z := ⟨_, rfl⟩
          cases bb with
          | false => exact absurd (by rw [← hnd, uP, hbb]; rfl) hn0
          | true =>
           obtain ⟨wn, hwn⟩ : ∃ z, tJ low high = z := ⟨_, rfl⟩
           obtain ⟨Hq, hwb⟩ : ∃ z, tK Q wn = z := ⟨_, rfl⟩
           cases Hq with
           | false => exact absurd (by rw [← hnd, uP, hbb, hwn, hwb]; rfl) hn0
           | true =>
            have rQ := aa hbb
            have DV := aa hwn
            have DW := aa hwb
            have JF := aa hnd
            clear hbb hwn hwb hnd hbt
            refine (iT P Q G X B H m r low high s (by omega) hr h hl n_ c hc0 (by omega) hval hsm.1 hsm.2 iY.1 iY.2 fM wn rQ DV DW hml xJ _ (aa (hv.out.below tC.out.b)) (aa (hd.out.below tC.out.b))).mono ?_
            rintro e wa ⟨gb, A1, L1, A2, L2, eD, eB, bN, cB, cb, rfl, hG, og, hR2, hba⟩
            have gU := aa (tC.out.below hba)
            have yV := aa hG
            have pX := aa og
            have pW := aa hR2
            clear hba tC hG og hR2
            have H2 : Hid (aD (wa.alloc (.cells #[.int .u8 0, .int .u8 0, .int .u8 0, .int .u8 0, .int .u8 0, .int .u8 0, .int .u8 0, .int .u8 0, .int .u8 0, .int .u8 0, .int .u8 0, .int .u8 0, .int .u8 0, .int .u8 0, .int .u8 0, .int .u8 0, .int .u8 0, .int .u8 0, .int .u8 0, .int .u8 0, .int .u8 0, .int .u8 0, .int .u8 0, .int .u8 0, .int .u8 0, .int .u8 0, .int .u8 0, .int .u8 0, .int .u8 0, .int .u8 0, .int .u8 0, .int .u8 0, .int .i64 0] 29)) wa.heap.size (aR 32) 0) := aa (by
             rw [nO]
             exact aD.new _ _ _)
            have gQ : Below wa.heap.size wa ((wa.alloc (.cells #[.int .u8 0, .int .u8 0, .int .u8 0, .int .u8 0, .int .u8 0, .int .u8 0, .int .u8 0, .int .u8 0, .int .u8 0, .int .u8 0, .int .u8 0, .int .u8 0, .int .u8 0, .int .u8 0, .int .u8 0, .int .u8 0, .int .u8 0, .int .u8 0, .int .u8 0, .int .u8 0, .int .u8 0, .int .u8 0, .int .u8 0, .int .u8 0, .int .u8 0, .int .u8 0, .int .u8 0, .int .u8 0, .int .u8 0, .int .u8 0, .int .u8 0, .int .u8 0, .int .i64 0] 29)).setRow wa.heap.size (ak h cb)) := ah (af wa _) (Nat.le_refl _)
            go_upto_region 17 with (((with_reducible show wpList _ _ _ (⟨none, Op.store _ (Operand.tmp 25) _, _, _, _, _⟩ :: _) _ _); refine wpList_store_row rfl 29 _ _ rfl wa.heap.size (ak h cb) rfl rfl _ _ H2.out (ai hl.out) (aH rfl hl.out) (ay _ _) ?_))
            have dW := aa (gU.out.below gQ)
            have kQ := aa (pX.out.below gQ)
            have kP := aa (pW.out.below gQ)
            have tF := aa ((gQ.block gb (Array.getElem?_eq_some_iff.1 yV.out).1).trans yV.out)
            obtain ⟨wq, hwq⟩ : ∃ u, (wa.alloc (.cells #[.int .u8 0, .int .u8 0, .int .u8 0, .int .u8 0, .int .u8 0, .int .u8 0, .int .u8 0, .int .u8 0, .int .u8 0, .int .u8 0, .int .u8 0, .int .u8 0, .int .u8 0, .int .u8 0, .int .u8 0, .int .u8 0, .int .u8 0, .int .u8 0, .int .u8 0, .int .u8 0, .int .u8 0, .int .u8 0, .int .u8 0, .int .u8 0, .int .u8 0, .int .u8 0, .int .u8 0, .int .u8 0, .int .u8 0, .int .u8 0, .int .u8 0, .int .u8 0, .int .i64 0] 29)).setRow wa.heap.size (ak h cb) = u := ⟨_, rfl⟩
            obtain ⟨yb, hyb⟩ : ∃ z, wa.heap.size = z := ⟨_, rfl⟩
            rw [hwq] at dW kQ kP tF ⊢
            rw [hyb] at ⊢
            clear hwq hyb gQ H2 gU pX pW yV
            obtain ⟨⟨g0, g1, g2⟩, g3, g4, g5⟩ := dW.out.g
            go_wp2_with fail
            clear g0 g1 g2 g3 g4 g5
            refine (bZ P Q G X B H low high fM nd JF _).mono ?_
            rintro e wb ⟨rfl, hbb⟩
            have iW := aa (dW.out.below hbb)
            have yR := aa (kQ.out.below hbb)
            have yQ := aa (kP.out.below hbb)
            have JH := aa ((hbb.block gb (Array.getElem?_eq_some_iff.1 tF.out).1).trans tF.out)
            clear hbb dW kQ kP tF
            have n1 : (nd == 0) = false := by simp [hn0]
            have n3 : decide (m < low) = false := by simp; omega
            have n4 : decide (high < m) = false := by simp; omega
            obtain ⟨⟨g0, g1, g2⟩, g3, g4, g5⟩ := iW.out.g
            go_wp2_with fail
            clear g0 g1 g2 g3 g4 g5
            refine (gD P Q G X B H m r low high wn s (by omega) hr h c _ hval rQ DV DW hml xJ iY.1 iY.2 fM V HV gb A1 L1 A2 L2 eD eB bN cB _ (aa (hv.out.below iW.out.b)) (aa (hd.out.below iW.out.b)) JH yR yQ).mono ?_
            rintro e wc ⟨rfl, hbc⟩
            go_wp2_with fail
            go_ret
            exact ⟨rfl, (iW.out.below hbc).b⟩
       ·
        refine (yI P Q G X B H m r n s (by omega) hr h hl c hc0 (by omega) hval (by
         by_cases hp : fK Q n = true
         · exact .inr (Int.not_lt.1 (fun e => hgood ⟨hp, e⟩))
         · exact .inl (by simpa using hp)) hsm.1 iY.1 iY.2 fM _ (aa (hv.out.below nN.out.b))).mono ?_
        rintro e w6 ⟨rfl, hb6⟩
        have tu := aa (nN.out.below hb6)
        clear hb6 nN
        have hA1 := af w6 (.cells #[.slice none 0 0, .slice none 0 0] 40)
        have hA2 := af (w6.alloc (.cells #[.slice none 0 0, .slice none 0 0] 40)) (.cells #[.int .u8 0, .int .u8 0, .int .u8 0, .int .u8 0, .int .u8 0, .int .u8 0, .int .u8 0, .int .u8 0, .int .u8 0, .int .u8 0, .int .u8 0, .int .u8 0, .int .u8 0, .int .u8 0, .int .u8 0, .int .u8 0, .int .u8 0, .int .u8 0, .int .u8 0, .int .u8 0, .int .u8 0, .int .u8 0, .int .u8 0, .int .u8 0, .int .u8 0, .int .u8 0, .int .u8 0, .int .u8 0, .int .u8 0, .int .u8 0, .int .u8 0, .int .u8 0, .int .i64 0] 29)
        have hz1 : (w6.alloc (.cells #[.slice none 0 0, .slice none 0 0] 40)).heap.size = w6.heap.size + 1 := by simp
        have H1 : Hid (((w6.alloc (.cells #[.slice none 0 0, .slice none 0 0] 40)).alloc (.cells #[.int .u8 0, .int .u8 0, .int .u8 0, .int .u8 0, .int .u8 0, .int .u8 0, .int .u8 0, .int .u8 0, .int .u8 0, .int .u8 0, .int .u8 0, .int .u8 0, .int .u8 0, .int .u8 0, .int .u8 0, .int .u8 0, .int .u8 0, .int .u8 0, .int .u8 0, .int .u8 0, .int .u8 0, .int .u8 0, .int .u8 0, .int .u8 0, .int .u8 0, .int .u8 0, .int .u8 0, .int .u8 0, .int .u8 0, .int .u8 0, .int .u8 0, .int .u8 0, .int .i64 0] 29)).heap[w6.heap.size]? = some (.cells #[.slice none 0 0, .slice none 0 0] 40 (0, 0))) := aa ((hA2.block _ (by omega)).trans (heap_alloc_new w6 (.cells #[.slice none 0 0, .slice none 0 0] 40)))
        have H2 : Hid (aD (((w6.alloc (.cells #[.slice none 0 0, .slice none 0 0] 40)).alloc (.cells #[.int .u8 0, .int .u8 0, .int .u8 0, .int .u8 0, .int .u8 0, .int .u8 0, .int .u8 0, .int .u8 0, .int .u8 0, .int .u8 0, .int .u8 0, .int .u8 0, .int .u8 0, .int .u8 0, .int .u8 0, .int .u8 0, .int .u8 0, .int .u8 0, .int .u8 0, .int .u8 0, .int .u8 0, .int .u8 0, .int .u8 0, .int .u8 0, .int .u8 0, .int .u8 0, .int .u8 0, .int .u8 0, .int .u8 0, .int .u8 0, .int .u8 0, .int .u8 0, .int .i64 0] 29)).setRow w6.heap.size #[.slice none 0 0, .slice none 0 0]) (w6.heap.size + 1) (aR 32) 0) := aa (by
         refine (setRow_other _ _ _ _ (by omega)).trans ?_
         rw [← hz1, nO]
         exact aD.new _ _ _)
        have gQ : Below w6.heap.size w6 ((((w6.alloc (.cells #[.slice none 0 0, .slice none 0 0] 40)).alloc (.cells #[.int .u8 0, .int .u8 0, .int .u8 0, .int .u8 0, .int .u8 0, .int .u8 0, .int .u8 0, .int .u8 0, .int .u8 0, .int .u8 0, .int .u8 0, .int .u8 0, .int .u8 0, .int .u8 0, .int .u8 0, .int .u8 0, .int .u8 0, .int .u8 0, .int .u8 0, .int .u8 0, .int .u8 0, .int .u8 0, .int .u8 0, .int .u8 0, .int .u8 0, .int .u8 0, .int .u8 0, .int .u8 0, .int .u8 0, .int .u8 0, .int .u8 0, .int .u8 0, .int .i64 0] 29)).setRow w6.heap.size #[.slice none 0 0, .slice none 0 0]).setRow (w6.heap.size + 1) (ak (aR 32) 0)) := ah (ah (ag hA1 hA2) (Nat.le_refl _)) (Nat.le_succ _)
        clear hA1 hA2 hz1
        go_upto_region 9 with (first | ((with_reducible show wpList _ _ _ (⟨none, Op.store _ (Operand.tmp 21) _, _, _, _, _⟩ :: _) _ _); refine wpList_store_row rfl 40 _ _ rfl w6.heap.size #[.slice none 0 0, .slice none 0 0] rfl rfl _ _ H1.out bC rfl (by simp [Value.oneCell']) ?_) | ((with_reducible show wpList _ _ _ (⟨none, Op.store _ (Operand.tmp 22) _, _, _, _, _⟩ :: _) _ _); refine wpList_store_row rfl 29 _ _ rfl (w6.heap.size + 1) (ak (aR 32) 0) rfl rfl _ _ H2.out (ai rfl) (aH rfl rfl) (ay _ _) ?_))
        have tq := aa (tu.out.below gQ)
        obtain ⟨w7, hw7⟩ : ∃ u, (((w6.alloc (.cells #[.slice none 0 0, .slice none 0 0] 40)).alloc (.cells #[.int .u8 0, .int .u8 0, .int .u8 0, .int .u8 0, .int .u8 0, .int .u8 0, .int .u8 0, .int .u8 0, .int .u8 0, .int .u8 0, .int .u8 0, .int .u8 0, .int .u8 0, .int .u8 0, .int .u8 0, .int .u8 0, .int .u8 0, .int .u8 0, .int .u8 0, .int .u8 0, .int .u8 0, .int .u8 0, .int .u8 0, .int .u8 0, .int .u8 0, .int .u8 0, .int .u8 0, .int .u8 0, .int .u8 0, .int .u8 0, .int .u8 0, .int .u8 0, .int .i64 0] 29)).setRow w6.heap.size #[.slice none 0 0, .slice none 0 0]).setRow (w6.heap.size + 1) (ak (aR 32) 0) = u := ⟨_, rfl⟩
        rw [hw7] at tq ⊢
        clear hw7 gQ tu H1 H2
        obtain ⟨⟨g0, g1, g2⟩, g3, g4, g5⟩ := tq.out.g
        go_wp2_with fail
        clear g0 g1 g2 g3 g4 g5
        obtain ⟨pb, hpb⟩ : ∃ z, fK Q n = z := ⟨_, rfl⟩
        refine (oN P Q G X B H n pb (aa hpb) _).mono ?_
        rintro e w8 ⟨rfl, mE⟩
        have dG := aa (tq.out.below mE)
        clear mE tq
        cases pb with
        | false =>
         obtain ⟨⟨g0, g1, g2⟩, g3, g4, g5⟩ := dG.out.g
         go_wp2_with ((with_reducible show wpList _ _ _ (⟨some 128, _, _, _, _, _⟩ :: _) _ _); refine az (by rfl) 29 _ rfl (w.heap.size + 1) rfl _ _ _ _ dG.out.d Tryz.underlying29 rfl (ai hl.out) ?_)
         clear g0 g1 g2 g3 g4 g5
         obtain ⟨nd, hnd⟩ : ∃ z, uP Q low high = z := ⟨_, rfl⟩
         by_cases hbt : nd = 0 ∨ m < low ∨ high < m
         ·
          refine (gK P Q G X B H m r low high s (by omega) hr h hl n_ c hc0 (by omega) hval hsm.1 hsm.2 iY.1 iY.2 fM (by rw [hnd]; exact hbt) _ (aa (hv.out.below dG.out.b))).mono ?_
          rintro e wa ⟨rfl, hba⟩
          have gU := aa (dG.out.below hba)
          clear hba dG
          have H2 : Hid (aD (wa.alloc (.cells #[.int .u8 0, .int .u8 0, .int .u8 0, .int .u8 0, .int .u8 0, .int .u8 0, .int .u8 0, .int .u8 0, .int .u8 0, .int .u8 0, .int .u8 0, .int .u8 0, .int .u8 0, .int .u8 0, .int .u8 0, .int .u8 0, .int .u8 0, .int .u8 0, .int .u8 0, .int .u8 0, .int .u8 0, .int .u8 0, .int .u8 0, .int .u8 0, .int .u8 0, .int .u8 0, .int .u8 0, .int .u8 0, .int .u8 0, .int .u8 0, .int .u8 0, .int .u8 0, .int .i64 0] 29)) wa.heap.size (aR 32) 0) := aa (by
           rw [nO]
           exact aD.new _ _ _)
          have gQ : Below wa.heap.size wa ((wa.alloc (.cells #[.int .u8 0, .int .u8 0, .int .u8 0, .int .u8 0, .int .u8 0, .int .u8 0, .int .u8 0, .int .u8 0, .int .u8 0, .int .u8 0, .int .u8 0, .int .u8 0, .int .u8 0, .int .u8 0, .int .u8 0, .int .u8 0, .int .u8 0, .int .u8 0, .int .u8 0, .int .u8 0, .int .u8 0, .int .u8 0, .int .u8 0, .int .u8 0, .int .u8 0, .int .u8 0, .int .u8 0, .int .u8 0, .int .u8 0, .int .u8 0, .int .u8 0, .int .u8 0, .int .i64 0] 29)).setRow wa.heap.size (ak (aR 32) 0)) := ah (af wa _) (Nat.le_refl _)
          go_upto_region 17 with (((with_reducible show wpList _ _ _ (⟨none, Op.store _ (Operand.tmp 25) _, _, _, _, _⟩ :: _) _ _); refine wpList_store_row rfl 29 _ _ rfl wa.heap.size (ak (aR 32) 0) rfl rfl _ _ H2.out (ai rfl) (aH rfl rfl) (ay _ _) ?_))
          have dW := aa (gU.out.below gQ)
          obtain ⟨wq, hwq⟩ : ∃ u, (wa.alloc (.cells #[.int .u8 0, .int .u8 0, .int .u8 0, .int .u8 0, .int .u8 0, .int .u8 0, .int .u8 0, .int .u8 0, .int .u8 0, .int .u8 0, .int .u8 0, .int .u8 0, .int .u8 0, .int .u8 0, .int .u8 0, .int .u8 0, .int .u8 0, .int .u8 0, .int .u8 0, .int .u8 0, .int .u8 0, .int .u8 0, .int .u8 0, .int .u8 0, .int .u8 0, .int .u8 0, .int .u8 0, .int .u8 0, .int .u8 0, .int .u8 0, .int .u8 0, .int .u8 0, .int .i64 0] 29)).setRow wa.heap.size (ak (aR 32) 0) = u := ⟨_, rfl⟩
          obtain ⟨yb, hyb⟩ : ∃ z, wa.heap.size = z := ⟨_, rfl⟩
          rw [hwq] at dW ⊢
          rw [hyb] at ⊢
          clear hwq hyb gQ H2 gU
          obtain ⟨⟨g0, g1, g2⟩, g3, g4, g5⟩ := dW.out.g
          go_wp2_with fail
          clear g0 g1 g2 g3 g4 g5
          refine (bZ P Q G X B H low high fM nd (aa hnd) _).mono ?_
          rintro e wb ⟨rfl, hbb⟩
          have iW := aa (dW.out.below hbb)
          clear hbb dW hnd
          by_cases n0 : nd = 0
          ·
           subst n0
           go_wp2_with fail
           go_ret
           exact ⟨rfl, iW.out.b⟩
          ·
           have n1 : (nd == 0) = false := by simp [n0]
           by_cases n2 : m < low
           ·
            have n3 : decide (m < low) = true := by simp [n2]
            go_wp2_with fail
            go_ret
            exact ⟨rfl, iW.out.b⟩
           ·
            have n3 : decide (m < low) = false := by simp; omega
            have n4 : decide (high < m) = true := by simp; omega
            go_wp2_with fail
            go_ret
            exact ⟨rfl, iW.out.b⟩
         ·
          obtain ⟨hn0, hml, xJ⟩ : nd ≠ 0 ∧ low ≤ m ∧ m ≤ high := by omega
          obtain ⟨bb, hbb⟩ : ∃ z, iy Q low high = z := ⟨_, rfl⟩
          cases bb with
          | false => exact absurd (by rw [← hnd, uP, hbb]; rfl) hn0
          | true =>
           obtain ⟨wn, hwn⟩ : ∃ z, tJ low high = z := ⟨_, rfl⟩
           obtain ⟨Hq, hwb⟩ : ∃ z, tK Q wn = z := ⟨_, rfl⟩
           cases Hq with
           | false => exact absurd (by rw [← hnd, uP, hbb, hwn, hwb]; rfl) hn0
           | true =>
            have rQ := aa hbb
            have DV := aa hwn
            have DW := aa hwb
            have JF := aa hnd
            clear hbb hwn hwb hnd hbt
            refine (iT P Q G X B H m r low high s (by omega) hr h hl n_ c hc0 (by omega) hval hsm.1 hsm.2 iY.1 iY.2 fM wn rQ DV DW hml xJ _ (aa (hv.out.below dG.out.b)) (aa (hd.out.below dG.out.b))).mono ?_
            rintro e wa ⟨gb, A1, L1, A2, L2, eD, eB, bN, cB, cb, rfl, hG, og, hR2, hba⟩
            have gU := aa (dG.out.below hba)
            have yV := aa hG
            have pX := aa og
            have pW := aa hR2
            clear hba dG hG og hR2
            have H2 : Hid (aD (wa.alloc (.cells #[.int .u8 0, .int .u8 0, .int .u8 0, .int .u8 0, .int .u8 0, .int .u8 0, .int .u8 0, .int .u8 0, .int .u8 0, .int .u8 0, .int .u8 0, .int .u8 0, .int .u8 0, .int .u8 0, .int .u8 0, .int .u8 0, .int .u8 0, .int .u8 0, .int .u8 0, .int .u8 0, .int .u8 0, .int .u8 0, .int .u8 0, .int .u8 0, .int .u8 0, .int .u8 0, .int .u8 0, .int .u8 0, .int .u8 0, .int .u8 0, .int .u8 0, .int .u8 0, .int .i64 0] 29)) wa.heap.size (aR 32) 0) := aa (by
             rw [nO]
             exact aD.new _ _ _)
            have gQ : Below wa.heap.size wa ((wa.alloc (.cells #[.int .u8 0, .int .u8 0, .int .u8 0, .int .u8 0, .int .u8 0, .int .u8 0, .int .u8 0, .int .u8 0, .int .u8 0, .int .u8 0, .int .u8 0, .int .u8 0, .int .u8 0, .int .u8 0, .int .u8 0, .int .u8 0, .int .u8 0, .int .u8 0, .int .u8 0, .int .u8 0, .int .u8 0, .int .u8 0, .int .u8 0, .int .u8 0, .int .u8 0, .int .u8 0, .int .u8 0, .int .u8 0, .int .u8 0, .int .u8 0, .int .u8 0, .int .u8 0, .int .i64 0] 29)).setRow wa.heap.size (ak h cb)) := ah (af wa _) (Nat.le_refl _)
            go_upto_region 17 with (((with_reducible show wpList _ _ _ (⟨none, Op.store _ (Operand.tmp 25) _, _, _, _, _⟩ :: _) _ _); refine wpList_store_row rfl 29 _ _ rfl wa.heap.size (ak h cb) rfl rfl _ _ H2.out (ai hl.out) (aH rfl hl.out) (ay _ _) ?_))
            have dW := aa (gU.out.below gQ)
            have kQ := aa (pX.out.below gQ)
            have kP := aa (pW.out.below gQ)
            have tF := aa ((gQ.block gb (Array.getElem?_eq_some_iff.1 yV.out).1).trans yV.out)
            obtain ⟨wq, hwq⟩ : ∃ u, (wa.alloc (.cells #[.int .u8 0, .int .u8 0, .int .u8 0, .int .u8 0, .int .u8 0, .int .u8 0, .int .u8 0, .int .u8 0, .int .u8 0, .int .u8 0, .int .u8 0, .int .u8 0, .int .u8 0, .int .u8 0, .int .u8 0, .int .u8 0, .int .u8 0, .int .u8 0, .int .u8 0, .int .u8 0, .int .u8 0, .int .u8 0, .int .u8 0, .int .u8 0, .int .u8 0, .int .u8 0, .int .u8 0, .int .u8 0, .int .u8 0, .int .u8 0, .int .u8 0, .int .u8 0, .int .i64 0] 29)).setRow wa.heap.size (ak h cb) = u := ⟨_, rfl⟩
            obtain ⟨yb, hyb⟩ : ∃ z, wa.heap.size = z := ⟨_, rfl⟩
            rw [hwq] at dW kQ kP tF ⊢
            rw [hyb] at ⊢
            clear hwq hyb gQ H2 gU pX pW yV
            obtain ⟨⟨g0, g1, g2⟩, g3, g4, g5⟩ := dW.out.g
            go_wp2_with fail
            clear g0 g1 g2 g3 g4 g5
            refine (bZ P Q G X B H low high fM nd JF _).mono ?_
            rintro e wb ⟨rfl, hbb⟩
            have iW := aa (dW.out.below hbb)
            have yR := aa (kQ.out.below hbb)
            have yQ := aa (kP.out.below hbb)
            have JH := aa ((hbb.block gb (Array.getElem?_eq_some_iff.1 tF.out).1).trans tF.out)
            clear hbb dW kQ kP tF
            have n1 : (nd == 0) = false := by simp [hn0]
            have n3 : decide (m < low) = false := by simp; omega
            have n4 : decide (high < m) = false := by simp; omega
            obtain ⟨⟨g0, g1, g2⟩, g3, g4, g5⟩ := iW.out.g
            go_wp2_with fail
            clear g0 g1 g2 g3 g4 g5
            refine (gD P Q G X B H m r low high wn s (by omega) hr h c _ hval rQ DV DW hml xJ iY.1 iY.2 fM V HV gb A1 L1 A2 L2 eD eB bN cB _ (aa (hv.out.below iW.out.b)) (aa (hd.out.below iW.out.b)) JH yR yQ).mono ?_
            rintro e wc ⟨rfl, hbc⟩
            go_wp2_with fail
            go_ret
            exact ⟨rfl, (iW.out.below hbc).b⟩
        | true =>
         obtain ⟨k, rfl, hk1, sF, hpw⟩ := fD hpb
         clear hpw
         obtain ⟨q1, q2⟩ := lH (n := k) (by omega)
         have hsh : wrap64 ((2 : Int) ^ k) = 2 ^ k := IntWalk.wrap64_in _ (by omega)
         have t3 : decide (m < (2 : Int) ^ k) = false := by
          have h9 : ¬ (m < (2 : Int) ^ k) := fun e => hgood ⟨hpb, by rwa [Int.toNat_natCast]⟩
          simpa using h9
         clear hgood hpb q1 q2
         obtain ⟨⟨g0, g1, g2⟩, g3, g4, g5⟩ := dG.out.g
         go_wp2_with ((with_reducible show wpList _ _ _ (⟨some 128, _, _, _, _, _⟩ :: _) _ _); refine az (by rfl) 29 _ rfl (w.heap.size + 1) rfl _ _ _ _ dG.out.d Tryz.underlying29 rfl (ai hl.out) ?_)
         clear g0 g1 g2 g3 g4 g5
         obtain ⟨nd, hnd⟩ : ∃ z, uP Q low high = z := ⟨_, rfl⟩
         by_cases hbt : nd = 0 ∨ m < low ∨ high < m
         ·
          refine (gK P Q G X B H m r low high s (by omega) hr h hl n_ c hc0 (by omega) hval hsm.1 hsm.2 iY.1 iY.2 fM (by rw [hnd]; exact hbt) _ (aa (hv.out.below dG.out.b))).mono ?_
          rintro e wa ⟨rfl, hba⟩
          have gU := aa (dG.out.below hba)
          clear hba dG
          have H2 : Hid (aD (wa.alloc (.cells #[.int .u8 0, .int .u8 0, .int .u8 0, .int .u8 0, .int .u8 0, .int .u8 0, .int .u8 0, .int .u8 0, .int .u8 0, .int .u8 0, .int .u8 0, .int .u8 0, .int .u8 0, .int .u8 0, .int .u8 0, .int .u8 0, .int .u8 0, .int .u8 0, .int .u8 0, .int .u8 0, .int .u8 0, .int .u8 0, .int .u8 0, .int .u8 0, .int .u8 0, .int .u8 0, .int .u8 0, .int .u8 0, .int .u8 0, .int .u8 0, .int .u8 0, .int .u8 0, .int .i64 0] 29)) wa.heap.size (aR 32) 0) := aa (by
           rw [nO]
           exact aD.new _ _ _)
          have gQ : Below wa.heap.size wa ((wa.alloc (.cells #[.int .u8 0, .int .u8 0, .int .u8 0, .int .u8 0, .int .u8 0, .int .u8 0, .int .u8 0, .int .u8 0, .int .u8 0, .int .u8 0, .int .u8 0, .int .u8 0, .int .u8 0, .int .u8 0, .int .u8 0, .int .u8 0, .int .u8 0, .int .u8 0, .int .u8 0, .int .u8 0, .int .u8 0, .int .u8 0, .int .u8 0, .int .u8 0, .int .u8 0, .int .u8 0, .int .u8 0, .int .u8 0, .int .u8 0, .int .u8 0, .int .u8 0, .int .u8 0, .int .i64 0] 29)).setRow wa.heap.size (ak (aR 32) 0)) := ah (af wa _) (Nat.le_refl _)
          go_upto_region 17 with (((with_reducible show wpList _ _ _ (⟨none, Op.store _ (Operand.tmp 25) _, _, _, _, _⟩ :: _) _ _); refine wpList_store_row rfl 29 _ _ rfl wa.heap.size (ak (aR 32) 0) rfl rfl _ _ H2.out (ai rfl) (aH rfl rfl) (ay _ _) ?_))
          have dW := aa (gU.out.below gQ)
          obtain ⟨wq, hwq⟩ : ∃ u, (wa.alloc (.cells #[.int .u8 0, .int .u8 0, .int .u8 0, .int .u8 0, .int .u8 0, .int .u8 0, .int .u8 0, .int .u8 0, .int .u8 0, .int .u8 0, .int .u8 0, .int .u8 0, .int .u8 0, .int .u8 0, .int .u8 0, .int .u8 0, .int .u8 0, .int .u8 0, .int .u8 0, .int .u8 0, .int .u8 0, .int .u8 0, .int .u8 0, .int .u8 0, .int .u8 0, .int .u8 0, .int .u8 0, .int .u8 0, .int .u8 0, .int .u8 0, .int .u8 0, .int .u8 0, .int .i64 0] 29)).setRow wa.heap.size (ak (aR 32) 0) = u := ⟨_, rfl⟩
          obtain ⟨yb, hyb⟩ : ∃ z, wa.heap.size = z := ⟨_, rfl⟩
          rw [hwq] at dW ⊢
          rw [hyb] at ⊢
          clear hwq hyb gQ H2 gU
          obtain ⟨⟨g0, g1, g2⟩, g3, g4, g5⟩ := dW.out.g
          go_wp2_with fail
          clear g0 g1 g2 g3 g4 g5
          refine (bZ P Q G X B H low high fM nd (aa hnd) _).mono ?_
          rintro e wb ⟨rfl, hbb⟩
          have iW := aa (dW.out.below hbb)
          clear hbb dW hnd
          by_cases n0 : nd = 0
          ·
           subst n0
           go_wp2_with fail
           go_ret
           exact ⟨rfl, iW.out.b⟩
          ·
           have n1 : (nd == 0) = false := by simp [n0]
           by_cases n2 : m < low
           ·
            have n3 : decide (m < low) = true := by simp [n2]
            go_wp2_with fail
            go_ret
            exact ⟨rfl, iW.out.b⟩
           ·
            have n3 : decide (m < low) = false := by simp; omega
            have n4 : decide (high < m) = true := by simp; omega
            go_wp2_with fail
            go_ret
            exact ⟨rfl, iW.out.b⟩
         ·
          obtain ⟨hn0, hml, xJ⟩ : nd ≠ 0 ∧ low ≤ m ∧ m ≤ high := by omega
          obtain ⟨bb, hbb⟩ : ∃ z, iy Q low high = z := ⟨_, rfl⟩
          cases bb with
          | false => exact absurd (by rw [← hnd, uP, hbb]; rfl) hn0
          | true =>
           obtain ⟨wn, hwn⟩ : ∃ z, tJ low high = z := ⟨_, rfl⟩
           obtain ⟨Hq, hwb⟩ : ∃ z, tK Q wn = z := ⟨_, rfl⟩
           cases Hq with
           | false => exact absurd (by rw [← hnd, uP, hbb, hwn, hwb]; rfl) hn0
           | true =>
            have rQ := aa hbb
            have DV := aa hwn
            have DW := aa hwb
            have JF := aa hnd
            clear hbb hwn hwb hnd hbt
            refine (iT P Q G X B H m r low high s (by omega) hr h hl n_ c hc0 (by omega) hval hsm.1 hsm.2 iY.1 iY.2 fM wn rQ DV DW hml xJ _ (aa (hv.out.below dG.out.b)) (aa (hd.out.below dG.out.b))).mono ?_
            rintro e wa ⟨gb, A1, L1, A2, L2, eD, eB, bN, cB, cb, rfl, hG, og, hR2, hba⟩
            have gU := aa (dG.out.below hba)
            have yV := aa hG
            have pX := aa og
            have pW := aa hR2
            clear hba dG hG og hR2
            have H2 : Hid (aD (wa.alloc (.cells #[.int .u8 0, .int .u8 0, .int .u8 0, .int .u8 0, .int .u8 0, .int .u8 0, .int .u8 0, .int .u8 0, .int .u8 0, .int .u8 0, .int .u8 0, .int .u8 0, .int .u8 0, .int .u8 0, .int .u8 0, .int .u8 0, .int .u8 0, .int .u8 0, .int .u8 0, .int .u8 0, .int .u8 0, .int .u8 0, .int .u8 0, .int .u8 0, .int .u8 0, .int .u8 0, .int .u8 0, .int .u8 0, .int .u8 0, .int .u8 0, .int .u8 0, .int .u8 0, .int .i64 0] 29)) wa.heap.size (aR 32) 0) := aa (by
             rw [nO]
             exact aD.new _ _ _)
            have gQ : Below wa.heap.size wa ((wa.alloc (.cells #[.int .u8 0, .int .u8 0, .int .u8 0, .int .u8 0, .int .u8 0, .int .u8 0, .int .u8 0, .int .u8 0, .int .u8 0, .int .u8 0, .int .u8 0, .int .u8 0, .int .u8 0, .int .u8 0, .int .u8 0, .int .u8 0, .int .u8 0, .int .u8 0, .int .u8 0, .int .u8 0, .int .u8 0, .int .u8 0, .int .u8 0, .int .u8 0, .int .u8 0, .int .u8 0, .int .u8 0, .int .u8 0, .int .u8 0, .int .u8 0, .int .u8 0, .int .u8 0, .int .i64 0] 29)).setRow wa.heap.size (ak h cb)) := ah (af wa _) (Nat.le_refl _)
            go_upto_region 17 with (((with_reducible show wpList _ _ _ (⟨none, Op.store _ (Operand.tmp 25) _, _, _, _, _⟩ :: _) _ _); refine wpList_store_row rfl 29 _ _ rfl wa.heap.size (ak h cb) rfl rfl _ _ H2.out (ai hl.out) (aH rfl hl.out) (ay _ _) ?_))
            have dW := aa (gU.out.below gQ)
            have kQ := aa (pX.out.below gQ)
            have kP := aa (pW.out.below gQ)
            have tF := aa ((gQ.block gb (Array.getElem?_eq_some_iff.1 yV.out).1).trans yV.out)
            obtain ⟨wq, hwq⟩ : ∃ u, (wa.alloc (.cells #[.int .u8 0, .int .u8 0, .int .u8 0, .int .u8 0, .int .u8 0, .int .u8 0, .int .u8 0, .int .u8 0, .int .u8 0, .int .u8 0, .int .u8 0, .int .u8 0, .int .u8 0, .int .u8 0, .int .u8 0, .int .u8 0, .int .u8 0, .int .u8 0, .int .u8 0, .int .u8 0, .int .u8 0, .int .u8 0, .int .u8 0, .int .u8 0, .int .u8 0, .int .u8 0, .int .u8 0, .int .u8 0, .int .u8 0, .int .u8 0, .int .u8 0, .int .u8 0, .int .i64 0] 29)).setRow wa.heap.size (ak h cb) = u := ⟨_, rfl⟩
            obtain ⟨yb, hyb⟩ : ∃ z, wa.heap.size = z := ⟨_, rfl⟩
            rw [hwq] at dW kQ kP tF ⊢
            rw [hyb] at ⊢
            clear hwq hyb gQ H2 gU pX pW yV
            obtain ⟨⟨g0, g1, g2⟩, g3, g4, g5⟩ := dW.out.g
            go_wp2_with fail
            clear g0 g1 g2 g3 g4 g5
            refine (bZ P Q G X B H low high fM nd JF _).mono ?_
            rintro e wb ⟨rfl, hbb⟩
            have iW := aa (dW.out.below hbb)
            have yR := aa (kQ.out.below hbb)
            have yQ := aa (kP.out.below hbb)
            have JH := aa ((hbb.block gb (Array.getElem?_eq_some_iff.1 tF.out).1).trans tF.out)
            clear hbb dW kQ kP tF
            have n1 : (nd == 0) = false := by simp [hn0]
            have n3 : decide (m < low) = false := by simp; omega
            have n4 : decide (high < m) = false := by simp; omega
            obtain ⟨⟨g0, g1, g2⟩, g3, g4, g5⟩ := iW.out.g
            go_wp2_with fail
            clear g0 g1 g2 g3 g4 g5
            refine (gD P Q G X B H m r low high wn s (by omega) hr h c _ hval rQ DV DW hml xJ iY.1 iY.2 fM V HV gb A1 L1 A2 L2 eD eB bN cB _ (aa (hv.out.below iW.out.b)) (aa (hd.out.below iW.out.b)) JH yR yQ).mono ?_
            rintro e wc ⟨rfl, hbc⟩
            go_wp2_with fail
            go_ret
            exact ⟨rfl, (iW.out.below hbc).b⟩
      ·
       have hc3 : ce = 2 := by
        unfold Cz at hce
        rw [if_pos hval.out] at hce
        split at hce <;> omega
       subst hc3
       go_wp2_with fail
       go_ret
       exact ⟨rfl, nN.out.b⟩
     ·
      have t2 : decide ((549755813888 : Int) < c) = true := by simp; omega
      go_wp2_with fail
      go_ret
      exact ⟨rfl, HI4.out.b⟩
 ·
  have t1 : decide ((100 : Int) < (s.size : Int)) = true := by simp; omega
  go_wp2_with fail
  go_ret
  exact ⟨rfl, HI1.out.b⟩
end Go.Proofs.YtgbfhcfhopadaaaGreatDoor