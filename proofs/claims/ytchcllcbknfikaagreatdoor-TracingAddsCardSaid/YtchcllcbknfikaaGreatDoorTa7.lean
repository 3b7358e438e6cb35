/- Contracts and lemmas: TlC, TlD, TlE, TlF, OpTl, OpPt, TlG. -/
import Derived.Laws.StructEq
import Derived.Deep.MidRow
import Derived.Test.YtchcllcbknfikaaGreatDoorTa6
set_option linter.unusedVariables false
set_option linter.unusedSimpArgs false
set_option maxRecDepth 100000
set_option maxHeartbeats 25600000
namespace Go.Proofs.YtchcllcbknfikaaGreatDoor
open Go.RowKit si
def Af (p : aV) : It := .lst [.lst ([p.ix, p.v].map .int), .lst (p.al.map .int), .int p.C, .lst (p.zs.map .int)]
def KD (E1 E2 : Int) (al : List Int) (C : Int) (zs : List Int) : It := .lst [.lst ([E1, E2].map .int), .lst (al.map .int), .int C, .lst (zs.map .int)]
def xk (o : az) : It := .lst [.int o.num, .byt (aX o.rs), KD o.E1 o.E2 o.al o.C o.zs, .lst (o.ps.map Af), .int o.key]
def i64 (x : Int) : Prop := -9223372036854775808 ≤ x ∧ x < 9223372036854775808
def ug (p : aV) : Prop := i64 p.ix ∧ i64 p.v ∧ i64 p.C ∧ (∀ x ∈ p.al, i64 x) ∧ ∀ x ∈ p.zs, i64 x
def dJ (o : az) : Prop := i64 o.num ∧ i64 o.E1 ∧ i64 o.E2 ∧ i64 o.C ∧ i64 o.key ∧ (∀ x ∈ o.al, i64 x) ∧ (∀ x ∈ o.zs, i64 x) ∧ ∀ p ∈ o.ps, ug p
theorem CJ {l : List Int} (h : ∀ x ∈ l, i64 x) (hl : l.length ≤ 1000) : fits 1 (.lst (l.map .int)) :=
 ⟨by rw [List.length_map]; exact hl, fun x hx => by obtain ⟨n, hn, rfl⟩ := List.mem_map.1 hx; exact h n hn⟩
theorem Ni {E1 E2 C : Int} {al zs : List Int} (h1 : i64 E1) (h2 : i64 E2) (h3 : i64 C) (h4 : ∀ x ∈ al, i64 x) (h5 : ∀ x ∈ zs, i64 x) (la : al.length ≤ 1000) (lz : zs.length ≤ 1000) : fits 2 (KD E1 E2 al C zs) := by
 refine ⟨by simp, fun x hx => ?_⟩
 simp only [List.mem_cons, List.not_mem_nil, or_false] at hx
 rcases hx with rfl | rfl | rfl | rfl
 · exact CJ (by intro x hx; simp at hx; rcases hx with rfl | rfl <;> assumption) (by simp)
 · exact CJ h4 la
 · exact h3
 · exact CJ h5 lz
theorem Qx (l : List Int) : (fG (l.map .int)).length = 9 * l.length := by
 induction l with
 | nil => rfl
 | cons a t ih =>
  rw [List.map_cons, show It.int a :: t.map .int = [It.int a] ++ t.map .int from rfl, vN, EF, List.length_append, ih, mK, List.length_cons]
  simp [fV]
  omega
theorem UK (l : List Int) : (enc (.lst (l.map .int))).length = 5 + 9 * l.length := by
 rw [fA]; simp [dY, Qx]; omega
theorem pM (a : It) (t : List It) : (fG (a :: t)).length = (enc a).length + (fG t).length := by
 rw [show a :: t = [a] ++ t from rfl, vN, EF, List.length_append]
theorem RL (E1 E2 C : Int) (al zs : List Int) : (enc (KD E1 E2 al C zs)).length = 47 + 9 * al.length + 9 * zs.length := by
 rw [KD, fA]
 simp only [List.length_cons, List.length_append, dY, pM, UK, mK, fV, List.length_nil, show (fG []).length = 0 from rfl]
 omega
theorem Qw {ps : List aV} (h : ∀ p ∈ ps, p.al.length ≤ 20 ∧ p.zs.length ≤ 20) : (fG (ps.map Af)).length ≤ 407 * ps.length := by
 induction ps with
 | nil => exact Nat.le_refl _
 | cons p t ih =>
  rw [List.map_cons, pM, List.length_cons]
  have h1 := ih fun q hq => h q (List.mem_cons_of_mem _ hq)
  have h2 := h p (List.mem_cons_self ..)
  have h3 : (enc (Af p)).length = 47 + 9 * p.al.length + 9 * p.zs.length := RL _ _ _ _ _
  omega
structure fH (o : az) : Prop where
 a : o.al.length ≤ 20
 z : o.zs.length ≤ 20
 n : o.ps.length ≤ 8
 p : ∀ p ∈ o.ps, p.al.length ≤ 20 ∧ p.zs.length ≤ 20
 r0 : 1 ≤ o.rs.size
 r1 : o.rs.size ≤ 200
theorem GI {o : az} (h : dJ o) (hs : fH o) : fits 4 (xk o) := by
 obtain ⟨h1, h2, h3, h4, h5, h6, h7, h8⟩ := h
 refine ⟨by simp, fun x hx => ?_⟩
 simp only [List.mem_cons, List.not_mem_nil, or_false] at hx
 rcases hx with rfl | rfl | rfl | rfl | rfl
 · exact h1
 · exact ⟨⟨by rw [bE]; exact hs.r0, by rw [bE]; have := hs.r1; omega⟩, ja _⟩
 · exact pI (Ni h2 h3 h4 h6 h7 (by have := hs.a; omega) (by have := hs.z; omega)) (by decide)
 ·
  refine ⟨by rw [List.length_map]; have := hs.n; omega, fun x hx => ?_⟩
  obtain ⟨p, hp, rfl⟩ := List.mem_map.1 hx
  obtain ⟨p1, p2, p3, p4, p5⟩ := h8 p hp
  obtain ⟨s1, s2⟩ := hs.p p hp
  exact Ni p1 p2 p3 p4 p5 (by omega) (by omega)
 · exact h5
theorem RI {o : az} (hs : fH o) : (enc (xk o)).length ≤ 4000 := by
 have h1 := Qw hs.p
 have h2 := hs.n
 have h3 := hs.a
 have h4 := hs.z
 have h5 := hs.r1
 rw [xk, fA]
 simp only [List.length_cons, List.length_append, dY, pM, RL, mK, iC, fA, fV, List.length_nil, show (fG []).length = 0 from rfl, bE]
 omega
theorem PW (L : Option Addr) (c : Nat) {w : World} : nV w (.lst []) ⟨3, 0, none, 0, 0, L, 0, c⟩ :=
 .lst [] _ rfl rfl rfl rfl (fun _ => default) (fun k hk => absurd hk (by simp)) (fun k hk => absurd hk (by simp))
theorem vH {w : World} {g n c : Nat} {cs : Array Value} {l : List It} (f : Nat → Ic) (h : w.heap[g]? = some (.cells cs 117)) (hl : l.length = n)
  (hc : ∀ k, k < n → cs[k * 4]? = some (.int .i64 (f k).kind) ∧ cs[k * 4 + 1]? = some (.int .i64 (f k).n) ∧ cs[k * 4 + 2]? = some (.slice (f k).B (f k).nb (f k).cb) ∧ cs[k * 4 + 3]? = some (.slice (f k).L (f k).nl (f k).cl))
  (hr : ∀ k, k < n → nV w (l.getD k default) (f k)) : nV w (.lst l) ⟨3, 0, none, 0, 0, some ⟨g, 0, none⟩, n, c⟩ :=
 .lst l _ rfl rfl rfl hl.symm f (fun k hk => by
  obtain ⟨h0, h1, h2, h3⟩ := hc k (by omega)
  exact ⟨g, 0, rfl, (au h _).trans (by rw [Nat.zero_add]; exact h0), (au h _).trans (by rw [Nat.zero_add]; exact h1), (au h _).trans (by rw [Nat.zero_add]; exact h2), (au h _).trans (by rw [Nat.zero_add]; exact h3)⟩) (fun k hk => hr k (by omega))
theorem qE.kept {lo : Nat} {w w' : World} {i : It} {c : Ic} (h : qE lo w i c) (hb : Below w.heap.size w w') : qE lo w' i c :=
 fun w2 hw => h w2 fun b h1 h2 => (hw b h1 (by have := hb.size; omega)).trans (hb.block b h2)
theorem qE.mono {lo lo' : Nat} {w : World} {i : It} {c : Ic} (h : qE lo w i c) (hl : lo' ≤ lo) : qE lo' w i c :=
 fun w2 hw => h w2 fun b h1 h2 => hw b (by omega) h2
theorem qE.setRow {lo g : Nat} {w : World} {i : It} {c : Ic} (h : qE lo w i c) (hg : g < lo) (cs : Array Value) : qE lo (w.setRow g cs) i c :=
 fun w2 hw => h w2 fun b h1 h2 => (hw b h1 (by simpa [World.setRow] using h2)).trans (setRow_other w g b cs (by omega))
theorem qE.setCell {lo g j : Nat} {w : World} {i : It} {c : Ic} {v : Value} (h : qE lo w i c) (hg : g < lo) : qE lo (w.setCell ⟨g, j, none⟩ v) i c :=
 fun w2 hw => h w2 fun b h1 h2 => (hw b h1 (by rw [World.size_setCell]; exact h2)).trans (Go.Deep.blk_setCell_other _ _ _ _ (show b ≠ g by omega))
theorem oz (lo : Nat) (w : World) (n : Int) : qE lo w (.int n) (aM n) := fun _ _ => .int _ _ rfl rfl rfl rfl
theorem kF {w w' : World} {b j : Nat} (h : w'.heap[b]? = w.heap[b]?) : w'.cell? ⟨b, j, none⟩ = w.cell? ⟨b, j, none⟩ := by simp [World.cell?, h]
theorem Ct {lo g o n c : Nat} {w : World} {l : List Int} (h : Sk .u8 w (some ⟨g, o, none⟩) l) (hg : lo ≤ g) (hn : l.length = n) : qE lo w (.byt l) (aI (some ⟨g, o, none⟩) n c) :=
 fun w' hw => jo (fun j hj => by
  obtain ⟨b1, o1, e, hc⟩ := h j hj
  cases e
  exact ⟨_, _, rfl, (kF (hw _ hg (World.block_lt_of_cell? _ _ hc))).trans hc⟩) hn
theorem sI {lo g n c : Nat} {w : World} {cs : Array Value} {l : List It} (f : Nat → Ic) (h : w.heap[g]? = some (.cells cs 117)) (hg : lo ≤ g) (hl : l.length = n)
  (hc : ∀ k, k < n → cs[k * 4]? = some (.int .i64 (f k).kind) ∧ cs[k * 4 + 1]? = some (.int .i64 (f k).n) ∧ cs[k * 4 + 2]? = some (.slice (f k).B (f k).nb (f k).cb) ∧ cs[k * 4 + 3]? = some (.slice (f k).L (f k).nl (f k).cl))
  (hr : ∀ k, k < n → qE lo w (l.getD k default) (f k)) : qE lo w (.lst l) ⟨3, 0, none, 0, 0, some ⟨g, 0, none⟩, n, c⟩ :=
 fun w' hw => vH f ((hw g hg (Array.getElem?_eq_some_iff.1 h).1).trans h) hl hc fun k hk => hr k hk w' hw
theorem PV (lo : Nat) (w : World) (L : Option Addr) (c : Nat) : qE lo w (.lst []) ⟨3, 0, none, 0, 0, L, 0, c⟩ := fun _ _ => PW L c
theorem sH (n : Int) (w : World) :
  Calls Tryz.prog 169 #[.int .i64 n] w fun e w' => e = .returned (aM n).val ∧ Below w.heap.size w w' := by
 have eG : Hid ((w.alloc (.cells #[.int .i64 0, .int .i64 0, .slice none 0 0, .slice none 0 0] 117)).heap[w.heap.size]? = some (.cells #[.int .i64 0, .int .i64 0, .slice none 0 0, .slice none 0 0] 117 (0, 0))) := aa (heap_alloc_new _ _)
 go_in
 go_wp2_with ((with_reducible show wpList _ _ _ (⟨none, _, _, _, _, _⟩ :: _) _ _); refine wpList_store_row rfl 117 _ _ rfl w.heap.size (Ic.cs (aM n)) rfl rfl _ _ eG.out (cK _) rfl (jy _) ?_)
 have hrw := setRow_heap _ _ _ (Ic.cs (aM n)) _ _ eG.out
 exact bodyPost_ret (v := (aM n).val) (aD (p := 2) (ty := 117) rfl _ _ ⟨w.heap.size, 0, none⟩ _ rfl (run_loadVar_row _ _ _ _ _ _ _ hrw Tryz.underlying117 rfl (cK _))) rfl ⟨rfl, ai (af _ _) (Nat.le_refl _)⟩
theorem yB (A : Option Addr) (n c : Nat) (w : World) :
  Calls Tryz.prog 142 #[.slice A n c] w fun e w' => e = .returned (aI A n c).val ∧ Below w.heap.size w w' := by
 have eG : Hid ((w.alloc (.cells #[.int .i64 0, .int .i64 0, .slice none 0 0, .slice none 0 0] 117)).heap[w.heap.size]? = some (.cells #[.int .i64 0, .int .i64 0, .slice none 0 0, .slice none 0 0] 117 (0, 0))) := aa (heap_alloc_new _ _)
 go_in
 go_wp2_with ((with_reducible show wpList _ _ _ (⟨none, _, _, _, _, _⟩ :: _) _ _); refine wpList_store_row rfl 117 _ _ rfl w.heap.size (Ic.cs (aI A n c)) rfl rfl _ _ eG.out (cK _) rfl (jy _) ?_)
 have hrw := setRow_heap _ _ _ (Ic.cs (aI A n c)) _ _ eG.out
 exact bodyPost_ret (v := (aI A n c).val) (aD (p := 2) (ty := 117) rfl _ _ ⟨w.heap.size, 0, none⟩ _ rfl (run_loadVar_row _ _ _ _ _ _ _ hrw Tryz.underlying117 rfl (cK _))) rfl ⟨rfl, ai (af _ _) (Nat.le_refl _)⟩
theorem vG (L : Option Addr) (n c : Nat) (w : World) :
  Calls Tryz.prog 141 #[.slice L n c] w fun e w' => e = .returned (Ic.mk 3 0 none 0 0 L n c).val ∧ Below w.heap.size w w' := by
 have eG : Hid ((w.alloc (.cells #[.int .i64 0, .int .i64 0, .slice none 0 0, .slice none 0 0] 117)).heap[w.heap.size]? = some (.cells #[.int .i64 0, .int .i64 0, .slice none 0 0, .slice none 0 0] 117 (0, 0))) := aa (heap_alloc_new _ _)
 go_in
 go_wp2_with ((with_reducible show wpList _ _ _ (⟨none, _, _, _, _, _⟩ :: _) _ _); refine wpList_store_row rfl 117 _ _ rfl w.heap.size (Ic.cs (Ic.mk 3 0 none 0 0 L n c)) rfl rfl _ _ eG.out (cK _) rfl (jy _) ?_)
 have hrw := setRow_heap _ _ _ (Ic.cs (Ic.mk 3 0 none 0 0 L n c)) _ _ eG.out
 exact bodyPost_ret (v := (Ic.mk 3 0 none 0 0 L n c).val) (aD (p := 2) (ty := 117) rfl _ _ ⟨w.heap.size, 0, none⟩ _ rfl (run_loadVar_row _ _ _ _ _ _ _ hrw Tryz.underlying117 rfl (cK _))) rfl ⟨rfl, ai (af _ _) (Nat.le_refl _)⟩
theorem Bt (E1 E2 : Int) (A : Option Addr) (na ca : Nat) (al : List Int) (C : Int) (Z : Option Addr) (nz cz : Nat) (zs : List Int) (hna : Hid (al.length = na)) (hnz : Hid (zs.length = nz)) (hb1 : na ≤ 1000) (hb2 : nz ≤ 1000) (w : World) (hA : Hid (Sl w A al)) (hZ : Hid (Sl w Z zs)) :
  Calls Tryz.prog 170 #[J6 E1 E2 A na ca C Z nz cz] w (nO (KD E1 E2 al C zs) w) := by
 obtain ⟨w0, HW, aj, kC⟩ := st2 (Nk E1 E2 A na ca C Z nz cz) AB (.cells #[.int .i64 0, .int .i64 0, .slice none 0 0, .slice none 0 0] 117) sO w
 have kA := mkS aj hA
 have kZ := mkS aj hZ
 have nT := Bg (w0 := w0) (o := .cells #[.int .i64 0, .int .i64 0, .slice none 0 0, .slice none 0 0] 117) (w.heap.size + 1) (by rw [← HW.out]; exact heap_alloc2_new _ _ _)
 have ah := bP w0
 clear hA hZ
 go_in
 go_wp2_with fail
 rw [HW.out]
 have zc := kC.out _ ah
 have jO : Hid (w0.heap.size = w.heap.size + 2) := aa (by rw [← HW.out]; simp)
 go_upto_region 1 with (fail)
 clear zc
 have hO := kC
 have nQ := bF (aa ah.out) (Below.refl _ _).drew
 refine wU (fun u => Below w0.heap.size w0 u) [20] nQ (fun hHeld => ?_)
 obtain ⟨wD, nK⟩ : ∃ u, w0.drew = u := ⟨_, rfl⟩
 rw [nK] at nQ hHeld ⊢
 have zX : Hid (w0.heap.size ≤ wD.heap.size) := aa (by rw [← nK]; exact Nat.le_refl _)
 clear nK
 refine aU 0 1 2 3 ?_
 refine aU 6 7 8 10 ?_
 refine aU 11 12 13 14 ?_
 refine aL 15 ?_
 refine aL 16 ?_
 have FB := nQ
 obtain ⟨u1, hw, HQ, -, -, -⟩ := qZ (.cells #[.int .i64 (E1), .int .i64 (E2)] 3) sO wD
 have nP := aa hw
 clear hw
 refine bY 4 fun K hK => ?_
 go_simp
 rw [nP.out]
 have aS := bF FB HQ.out
 refine hK.out _ _ aS (fun hHeld => ?_)
 clear hK K hHeld
 have FE : Hid (Dt u1 (wD.heap.size) (E1) (E2)) := by rw [← nP.out]; exact (aa (Dt.new wD (E1) (E2)))
 obtain ⟨gE, hg⟩ : ∃ x, wD.heap.size = x := ⟨_, rfl⟩
 rw [hg] at FE ⊢
 clear hg
 have FB := aS
 clear aS nP HQ
 try simp only [qq, Ic.val, Ic.cs, aM, aI]
 refine bY 5 fun K hK => ?_
 go_simp
 refine (ku (some ⟨gE, 0, none⟩) [E1, E2] 2 2 (aa rfl) (by omega) _ (aa FE.out.sl)).mono ?_
 rintro e u2 ⟨cE, rfl, hit, hq⟩
 have aS := bF FB hq
 refine hK.out _ _ aS (fun hHeld => ?_)
 clear hK K hHeld
 have FE := aa (FE.out.below hq)
 have HE := (aa (hit.mono (by have := FB.out.size; omega)))
 have FB := aS
 clear aS
 try simp only [qq, Ic.val, Ic.cs, aM, aI]
 refine bY 9 fun K hK => ?_
 go_simp
 refine (ku A al na ca hna (by omega) _ (kA.out _ (aa FB.out))).mono ?_
 rintro e u3 ⟨cA, rfl, hit, hq⟩
 have aS := bF FB hq
 refine hK.out _ _ aS (fun hHeld => ?_)
 clear hK K hHeld
 have FE := aa (FE.out.below hq)
 have HE := aa (HE.out.kept hq)
 have HA := (aa (hit.mono (by have := FB.out.size; omega)))
 have FB := aS
 clear aS
 try simp only [qq, Ic.val, Ic.cs, aM, aI]
 refine bY 17 fun K hK => ?_
 go_simp
 refine (ku Z zs nz cz hnz (by omega) _ (kZ.out _ (aa FB.out))).mono ?_
 rintro e u4 ⟨cZ, rfl, hit, hq⟩
 have aS := bF FB hq
 refine hK.out _ _ aS (fun hHeld => ?_)
 clear hK K hHeld
 have FE := aa (FE.out.below hq)
 have HE := aa (HE.out.kept hq)
 have HA := aa (HA.out.kept hq)
 have HZ := (aa (hit.mono (by have := FB.out.size; omega)))
 have FB := aS
 clear aS
 try simp only [qq, Ic.val, Ic.cs, aM, aI]
 obtain ⟨u, hw, HQ, -, -, -⟩ := qZ (.cells #[.int .i64 cE.kind, .int .i64 cE.n, .slice cE.B cE.nb cE.cb, .slice cE.L cE.nl cE.cl, .int .i64 cA.kind, .int .i64 cA.n, .slice cA.B cA.nb cA.cb, .slice cA.L cA.nl cA.cl, .int .i64 1, .int .i64 C, .slice none 0 0, .slice none 0 0, .int .i64 cZ.kind, .int .i64 cZ.n, .slice cZ.B cZ.nb cZ.cb, .slice cZ.L cZ.nl cZ.cl] 117) sO u4
 have nP := aa hw
 clear hw
 refine bY 18 fun K hK => ?_
 go_simp
 rw [nP.out]
 have aS := bF FB HQ.out
 refine hK.out _ _ aS (fun hHeld => ?_)
 clear hK K hHeld
 have FE := aa (FE.out.below HQ.out)
 have HE := aa (HE.out.kept HQ.out)
 have HA := aa (HA.out.kept HQ.out)
 have HZ := aa (HZ.out.kept HQ.out)
 have FL : Hid (u.heap[(u4.heap.size)]? = some (.cells #[.int .i64 cE.kind, .int .i64 cE.n, .slice cE.B cE.nb cE.cb, .slice cE.L cE.nl cE.cl, .int .i64 cA.kind, .int .i64 cA.n, .slice cA.B cA.nb cA.cb, .slice cA.L cA.nl cA.cl, .int .i64 1, .int .i64 C, .slice none 0 0, .slice none 0 0, .int .i64 cZ.kind, .int .i64 cZ.n, .slice cZ.B cZ.nb cZ.cb, .slice cZ.L cZ.nl cZ.cl] 117)) := by rw [← nP.out]; exact (aa (heap_alloc_new u4 _))
 have lZ : Hid (w0.heap.size ≤ (u4.heap.size)) := (aa (by have := FB.out.size; omega))
 obtain ⟨gL, hg⟩ : ∃ x, u4.heap.size = x := ⟨_, rfl⟩
 rw [hg] at FL lZ ⊢
 clear hg
 have FB := aS
 clear aS nP HQ
 try simp only [qq, Ic.val, Ic.cs, aM, aI]
 have hHeld := FB
 have hT := trivial
 have ha0 := trivial
 have um := FB
 refine bQ 19 ?_
 have pU := nT.out _ (aa FB.out)
 refine mR 20 fun K hK => ?_
 rw [show (if Region.wanted _ _ = true then _ else _ : Prop) = _ from if_pos rfl]
 refine wp_store_row 117 _ _ rfl (w.heap.size + 1) (Ic.cs ⟨3, 0, none, 0, 0, some ⟨gL, 0, none⟩, 4, 4⟩) rfl rfl 117 _ pU.out (cK _) rfl (jy _) ?_
 refine hK.out _ _ ?_
 clear hK K
 try simp only [qq]
 refine gH ?_
 have hit : qE w0.heap.size u (KD E1 E2 al C zs) ⟨3, 0, none, 0, 0, some ⟨gL, 0, none⟩, 4, 4⟩ := sI (fun k => match k with | 0 => cE | 1 => cA | 2 => aM C | _ => cZ) FL.out lZ.out rfl (fun k hk => by
   rcases (show k = 0 ∨ k = 1 ∨ k = 2 ∨ k = 3 by omega) with rfl | rfl | rfl | rfl <;> exact ⟨rfl, rfl, rfl, rfl⟩) (fun k hk => by
   rcases (show k = 0 ∨ k = 1 ∨ k = 2 ∨ k = 3 by omega) with rfl | rfl | rfl | rfl
   · exact HE.out
   · exact HA.out
   · exact oz _ _ _
   · exact HZ.out)
 have hit2 := (hit.setRow (g := w.heap.size + 1) (by have := jO.out; omega) (Ic.cs ⟨3, 0, none, 0, 0, some ⟨gL, 0, none⟩, 4, 4⟩)).mono (lo' := w.heap.size) (by have := jO.out; omega)
 have bV := ai (ag aj.out FB.out) (cs := Ic.cs ⟨3, 0, none, 0, 0, some ⟨gL, 0, none⟩, 4, 4⟩) (Nat.le_add_right w.heap.size 1)
 have hrw := setRow_heap _ _ _ (Ic.cs ⟨3, 0, none, 0, 0, some ⟨gL, 0, none⟩, 4, 4⟩) _ _ pU.out
 go_wp2
 exact bodyPost_ret (v := (Ic.mk 3 0 none 0 0 (some ⟨gL, 0, none⟩) 4 4).val) (aD (p := 2) (ty := 117) rfl _ _ ⟨w.heap.size + 1, 0, none⟩ _ rfl (run_loadVar_row _ _ _ _ _ _ _ hrw Tryz.underlying117 rfl (cK _))) rfl ⟨_, rfl, hit2, bV⟩
def Fs (g : Option Nat) (lo : Nat) (w : World) (i : It) (c : Ic) : Prop := ∀ w' : World, (∀ b, lo ≤ b → b < w.heap.size → g ≠ some b → w'.heap[b]? = w.heap[b]?) → nV w' i c
theorem qE.g {lo lo' : Nat} {g : Option Nat} {w : World} {i : It} {c : Ic} (h : qE lo' w i c) (hl : lo ≤ lo') (hg : ∀ b, g = some b → b < lo') : Fs g lo w i c :=
 fun w' hw => h w' fun b h1 h2 => hw b (by omega) h2 (fun e => by have := hg b e; omega)
theorem Fs.s {lo : Nat} {g : Option Nat} {w : World} {i : It} {c : Ic} (h : Fs g lo w i c) : qE lo w i c := fun w' hw => h w' fun b h1 h2 _ => hw b h1 h2
theorem Fs.kept {lo : Nat} {g : Option Nat} {w w' : World} {i : It} {c : Ic} (h : Fs g lo w i c) (hb : Below w.heap.size w w') : Fs g lo w' i c :=
 fun w2 hw => h w2 fun b h1 h2 h3 => (hw b h1 (by have := hb.size; omega) h3).trans (hb.block b h2)
theorem Fs.grown {lo : Nat} {g g' : Option Nat} {w w1 : World} {i : It} {c : Ic} (h : Fs g lo w i c) (hgr : w.grownBy w1 g) (hz : w.heap.size ≤ w1.heap.size) (hg : ∀ b, g' = some b → g = some b ∨ w.heap.size ≤ b) : Fs g' lo w1 i c :=
 fun w2 hw => h w2 fun b h1 h2 h3 => (hw b h1 (by omega) (fun e => by rcases hg b e with e2 | e2; exact h3 e2; omega)).trans (hgr.block b h2 (fun e => h3 e.symm))
theorem Fs.setCell {lo a j : Nat} {g : Option Nat} {w : World} {i : It} {c : Ic} {v : Value} (h : Fs g lo w i c) (ha : a < lo) : Fs g lo (w.setCell ⟨a, j, none⟩ v) i c :=
 fun w2 hw => h w2 fun b h1 h2 h3 => (hw b h1 (by rw [World.size_setCell]; exact h2) h3).trans (Go.Deep.blk_setCell_other _ _ _ _ (show b ≠ a by omega))
theorem IG {w : World} {base lo n : Nat} {v : Value} {cs : List Ic} {l : List It} (h : dO w base v cs) (hc : cs.length = n) (hl : l.length = n) (hlo : lo ≤ base) (hr : ∀ k, k < n → qE lo w (l.getD k default) (cs.getD k default)) :
  ∃ L cl, v = .slice L n cl ∧ qE lo w (.lst l) ⟨3, 0, none, 0, 0, L, n, cl⟩ := by
 by_cases h0 : 0 < n
 ·
  obtain ⟨g, cap, e, _⟩ := h.four (by omega)
  rw [hc] at e
  refine ⟨_, _, e, fun w' hw => ?_⟩
  obtain ⟨g', cap', e', hr'⟩ := rP (zu h fun b h1 h2 => hw b (by omega) h2) hc hl h0 fun k hk => hr k hk w' hw
  rw [e] at e'
  simp only [Value.slice.injEq, Option.some.injEq, Addr.mk.injEq] at e'
  obtain ⟨⟨rfl, -⟩, -, rfl⟩ := e'
  exact hr'
 ·
  obtain rfl : n = 0 := by omega
  obtain rfl : l = [] := List.eq_nil_of_length_eq_zero hl
  obtain ⟨L, cl, hv⟩ := h.len
  rw [hc] at hv
  exact ⟨L, cl, hv, PV _ _ _ _⟩
theorem zI {ps : List aV} {k : Nat} (h : k < ps.length) : ps.getD k aH ∈ ps := by
 rw [List.getD_eq_getElem?_getD, List.getElem?_eq_getElem h]; exact List.getElem_mem _
theorem Mv (o : az) (hs : fH o) (w : World) (ho : Hid (dW w o)) :
  Calls Tryz.prog 143 #[x_ o] w (nO (xk o) w) := by
 obtain ⟨w0, HW, aj, kC⟩ := st2 (lY o) ZH (.cells #[.int .i64 0, .int .i64 0, .slice none 0 0, .slice none 0 0] 117) sO w
 have kO := fq (fun u => dW u o) aj ho (·.below)
 have nT := Bg (w0 := w0) (o := .cells #[.int .i64 0, .int .i64 0, .slice none 0 0, .slice none 0 0] 117) (w.heap.size + 1) (by rw [← HW.out]; exact heap_alloc2_new _ _ _)
 have ah := bP w0
 clear ho
 go_in
 go_wp2_with fail
 rw [HW.out]
 have zc := kC.out _ ah
 have jO : Hid (w0.heap.size = w.heap.size + 2) := aa (by rw [← HW.out]; simp)
 go_wp2_with fail
 refine (vG none 0 0 _).mono ?_
 rintro e w1 ⟨rfl, hb0⟩
 rw [show (Ic.mk 3 0 none 0 0 none 0 0).val = .agg #[.int .i64 3, .int .i64 0, .slice none 0 0, .slice none 0 0] from rfl]
 have ax := bF ah hb0
 clear zc hb0
 have V3 := ax
 have hq0 := af w1 (.cells #[.int .i64 3, .int .i64 0, .slice none 0 0, .slice none 0 0] 117)
 have aK := bF ax hq0
 clear hq0
 have zc := kC.out _ aK
 go_wp2
 clear zc
 obtain ⟨W, hW⟩ : ∃ x, w1.alloc (.cells #[.int .i64 3, .int .i64 0, .slice none 0 0, .slice none 0 0] 117) = x := ⟨_, rfl⟩
 rw [hW] at aK
 have bT := aK
 obtain ⟨B, hB⟩ : ∃ x, w1.heap.size = x := ⟨_, rfl⟩
 have xW : Hid (W.heap.size = B + 1 ∧ w0.heap.size ≤ B) := aa ⟨by rw [← hW, ← hB]; simp, by rw [← hB]; exact V3.out.size⟩
 have hbk : W.heap[B]? = some (.cells #[.int .i64 3, .int .i64 0, .slice none 0 0, .slice none 0 0] 117) := by rw [← hW, ← hB]; exact heap_alloc_new _ _
 have pQ : Hid (Own W ⟨B, 3, none⟩ (.slice none 0 0)) := aa ⟨au hbk 3, av hbk 3⟩
 have HX0 : Hid (Own W ⟨B, 0, none⟩ (.int .i64 3) ∧ Own W ⟨B, 1, none⟩ (.int .i64 0) ∧ Own W ⟨B, 2, none⟩ (.slice none 0 0)) := aa ⟨⟨au hbk 0, av hbk 0⟩, ⟨au hbk 1, av hbk 1⟩, ⟨au hbk 2, av hbk 2⟩⟩
 rw [hW, hB]
 clear hW hbk V3
 obtain ⟨i0, hi, hz0, hz1, hz2⟩ := info_parts jl
 obtain ⟨⟨WH, Rl⟩, ok8⟩ : (o.ps.length = o.np ∧ o.np ≤ o.cp) ∧ o.ps.length ≤ 8 := ⟨((kO.out _ bT).out).2.2.1, hs.n⟩
 go_loopw [10] (fun i u => ∃ (k : Nat) (v : Value) (cs : List Ic), k ≤ o.np ∧ i = .int .i64 k ∧ Hid (cs.length = k) ∧ Hid (Own u ⟨B, 3, none⟩ v) ∧ Hid (Own u ⟨B, 0, none⟩ (.int .i64 3) ∧ Own u ⟨B, 1, none⟩ (.int .i64 0) ∧ Own u ⟨B, 2, none⟩ (.slice none 0 0)) ∧ Hid (dO u (B + 1) v cs) ∧ Hid (∀ j, j < k → Fs v.ownBlock (B + 1) u (Af (o.ps.getD j aH)) (cs.getD j default)) ∧ Hid (Below B W u)) (fun i _ => o.np - (intOf i).toNat)
 case atStart => exact ⟨0, _, [], by omega, rfl, aa rfl, pQ, HX0, aa (rM _ _), aa (fun j h => absurd h (by omega)), aa (Below.refl _ _)⟩
 case round =>
  obtain ⟨k, v, cs, hk, rfl, qH, HV, oI, HO, HG, aF⟩ := hrel
  have iK : Hid (Below w0.heap.size w0 wr) := aa (bT.out.trans (aF.out.mono xW.out.2))
  by_cases hlt : k < o.np
  ·
   have hkl : k < o.ps.length := by rw [WH]; exact hlt
   obtain ⟨b, f, hA, j0, j1, j2, j3, j4, j5⟩ := (kO.out _ iK).out.2.2.2.2.2 k hkl
   have Ak := aa hA
   have hps := hs.p _ (zI hkl)
   obtain ⟨p, hp⟩ : ∃ p, o.ps.getD k aH = p := ⟨_, rfl⟩
   have mY := aa hp
   rw [hp] at j0 j1 j2 j3 j4 j5 hps
   obtain ⟨x1, x2, x3, x4⟩ := j5
   have HNA := aa x1
   have HNZ := aa x2
   have RX := aa x3
   have lu := aa x4
   obtain ⟨ML, MK⟩ := hps
   have XW : p.na ≤ 20 := by rw [← x1]; exact ML
   have XV : p.nz ≤ 20 := by rw [← x2]; exact MK
   obtain ⟨v3, FJ⟩ := HV.out
   clear hp hA hkl x1 x2 x3 x4 ML MK
   rw [Ak.out]
   have dm := bP wr
   have tQ := qO (w := wr) (fun u => Sl u p.A p.al) RX.out (·.below)
   have tO := qO (w := wr) (fun u => Sl u p.Z p.zs) lu.out (·.below)
   have zc := kC.out _ iK
   have kX := aa (show ∀ u : World, Hid (Below wr.heap.size wr u) → u.cell? ⟨B, 3, none⟩ = some v from fun u h => cell_below HV.out.1 h.out)
   obtain ⟨w3, hw, R3, YD, -, kS⟩ := qZ (oh p) Ai wr
   have aN := jY iK R3
   have eT := jY dm R3
   have mP := bP w3
   clear R3
   have tJ := kC.out _ aN
   have Z8 := kX.out _ eT
   have oJ := kS.out _ mP
   go_upto_region 5 with (fail)
   clear zc tJ Z8 oJ hw
   have zc := kC.out _ aN
   have uQ := kX.out _ eT
   have ng := kS.out _ mP
   clear j0 j1 j2 j3 j4 v3 FJ
   clear zc uQ ng
   have hO := aa (fun (u : World) (h : Hid (Below w0.heap.size w0 u ∧ Below wr.heap.size wr u ∧ Below w3.heap.size w3 u)) => And.intro (kC.out u (aa h.out.1)) (And.intro (kX.out u (aa h.out.2.1)) (kS.out u (aa h.out.2.2))))
   have nQ := bb3 (aa ⟨aN.out, eT.out, mP.out⟩) (Below.refl _ _).drew
   refine wU (fun u => Below w0.heap.size w0 u ∧ Below wr.heap.size wr u ∧ Below w3.heap.size w3 u) [23, 24, 25] nQ (fun hHeld => ?_)
   obtain ⟨wD, nK⟩ : ∃ u, w3.drew = u := ⟨_, rfl⟩
   rw [nK] at nQ hHeld ⊢
   have zX : Hid (w3.heap.size ≤ wD.heap.size) := aa (by rw [← nK]; exact Nat.le_refl _)
   clear nK
   refine aU 0 1 2 3 ?_
   refine aU 4 5 8 9 ?_
   refine aU 10 12 13 14 ?_
   refine aL 16 ?_
   refine aL 17 ?_
   refine aL 18 ?_
   have FB := nQ
   obtain ⟨u1, hw, HQ, -, -, -⟩ := qZ (.cells #[.int .i64 (p.ix), .int .i64 (p.v)] 3) sO wD
   have nP := aa hw
   clear hw
   refine bY 6 fun K hK => ?_
   go_simp
   rw [nP.out]
   have aS := bb3 FB HQ.out
   refine hK.out _ _ aS (fun hHeld => ?_)
   clear hK K hHeld
   have FE : Hid (Dt u1 (wD.heap.size) (p.ix) (p.v)) := by rw [← nP.out]; exact (aa (Dt.new wD (p.ix) (p.v)))
   obtain ⟨gE, hg⟩ : ∃ x, wD.heap.size = x := ⟨_, rfl⟩
   rw [hg] at FE ⊢
   clear hg
   have FB := aS
   clear aS nP HQ
   try simp only [qq, Ic.val, Ic.cs, aM, aI]
   refine bY 7 fun K hK => ?_
   go_simp
   refine (ku (some ⟨gE, 0, none⟩) [p.ix, p.v] 2 2 (aa rfl) (by omega) _ (aa FE.out.sl)).mono ?_
   rintro e u2 ⟨cE, rfl, hit, hq⟩
   have aS := bb3 FB hq
   refine hK.out _ _ aS (fun hHeld => ?_)
   clear hK K hHeld
   have FE := aa (FE.out.below hq)
   have HE := (aa (hit.mono (by have := FB.out.2.2.size; omega)))
   have FB := aS
   clear aS
   try simp only [qq, Ic.val, Ic.cs, aM, aI]
   refine bY 11 fun K hK => ?_
   go_simp
   refine (ku p.A p.al p.na p.ca HNA (by omega) _ (tQ.out _ (aa FB.out.2.1))).mono ?_
   rintro e u3 ⟨cA, rfl, hit, hq⟩
   have aS := bb3 FB hq
   refine hK.out _ _ aS (fun hHeld => ?_)
   clear hK K hHeld
   have FE := aa (FE.out.below hq)
   have HE := aa (HE.out.kept hq)
   have HA := (aa (hit.mono (by have := FB.out.2.2.size; omega)))
   have FB := aS
   clear aS
   try simp only [qq, Ic.val, Ic.cs, aM, aI]
   refine bY 15 fun K hK => ?_
   go_simp
   refine (sH p.C _).mono ?_
   rintro e u4 ⟨rfl, hq⟩
   have aS := bb3 FB hq
   refine hK.out _ _ aS (fun hHeld => ?_)
   clear hK K hHeld
   have FE := aa (FE.out.below hq)
   have HE := aa (HE.out.kept hq)
   have HA := aa (HA.out.kept hq)
   have FB := aS
   clear aS
   try simp only [qq, Ic.val, Ic.cs, aM, aI]
   refine bY 19 fun K hK => ?_
   go_simp
   refine (ku p.Z p.zs p.nz p.cz HNZ (by omega) _ (tO.out _ (aa FB.out.2.1))).mono ?_
   rintro e u5 ⟨cZ, rfl, hit, hq⟩
   have aS := bb3 FB hq
   refine hK.out _ _ aS (fun hHeld => ?_)
   clear hK K hHeld
   have FE := aa (FE.out.below hq)
   have HE := aa (HE.out.kept hq)
   have HA := aa (HA.out.kept hq)
   have HZ := (aa (hit.mono (by have := FB.out.2.2.size; omega)))
   have FB := aS
   clear aS
   try simp only [qq, Ic.val, Ic.cs, aM, aI]
   obtain ⟨u6, hw, HQ, -, -, -⟩ := qZ (.cells #[.int .i64 cE.kind, .int .i64 cE.n, .slice cE.B cE.nb cE.cb, .slice cE.L cE.nl cE.cl, .int .i64 cA.kind, .int .i64 cA.n, .slice cA.B cA.nb cA.cb, .slice cA.L cA.nl cA.cl, .int .i64 1, .int .i64 p.C, .slice none 0 0, .slice none 0 0, .int .i64 cZ.kind, .int .i64 cZ.n, .slice cZ.B cZ.nb cZ.cb, .slice cZ.L cZ.nl cZ.cl] 117) sO u5
   have nP := aa hw
   clear hw
   refine bY 20 fun K hK => ?_
   go_simp
   rw [nP.out]
   have aS := bb3 FB HQ.out
   refine hK.out _ _ aS (fun hHeld => ?_)
   clear hK K hHeld
   have FE := aa (FE.out.below HQ.out)
   have HE := aa (HE.out.kept HQ.out)
   have HA := aa (HA.out.kept HQ.out)
   have HZ := aa (HZ.out.kept HQ.out)
   have FL : Hid (u6.heap[(u5.heap.size)]? = some (.cells #[.int .i64 cE.kind, .int .i64 cE.n, .slice cE.B cE.nb cE.cb, .slice cE.L cE.nl cE.cl, .int .i64 cA.kind, .int .i64 cA.n, .slice cA.B cA.nb cA.cb, .slice cA.L cA.nl cA.cl, .int .i64 1, .int .i64 p.C, .slice none 0 0, .slice none 0 0, .int .i64 cZ.kind, .int .i64 cZ.n, .slice cZ.B cZ.nb cZ.cb, .slice cZ.L cZ.nl cZ.cl] 117)) := by rw [← nP.out]; exact (aa (heap_alloc_new u5 _))
   have lZ : Hid (w3.heap.size ≤ (u5.heap.size)) := (aa (by have := FB.out.2.2.size; omega))
   obtain ⟨gL, hg⟩ : ∃ x, u5.heap.size = x := ⟨_, rfl⟩
   rw [hg] at FL lZ ⊢
   clear hg
   have FB := aS
   clear aS nP HQ
   try simp only [qq, Ic.val, Ic.cs, aM, aI]
   refine bY 21 fun K hK => ?_
   go_simp
   refine (vG (some ⟨gL, 0, none⟩) 4 4 _).mono ?_
   rintro e u7 ⟨rfl, hq⟩
   have aS := bb3 FB hq
   refine hK.out _ _ aS (fun hHeld => ?_)
   clear hK K hHeld
   have FE := aa (FE.out.below hq)
   have HE := aa (HE.out.kept hq)
   have HA := aa (HA.out.kept hq)
   have HZ := aa (HZ.out.kept hq)
   have FL := aa (bG FL.out hq)
   have lZ := lZ
   have FB := aS
   clear aS
   try simp only [qq, Ic.val, Ic.cs, aM, aI]
   obtain ⟨u, hw, HQ, -, -, -⟩ := qZ (.cells #[.int .i64 3, .int .i64 0, .slice none 0 0, .slice (some ⟨gL, 0, none⟩) 4 4] 117) sO u7
   have nP := aa hw
   clear hw
   refine bY 22 fun K hK => ?_
   go_simp
   rw [nP.out]
   have aS := bb3 FB HQ.out
   refine hK.out _ _ aS (fun hHeld => ?_)
   clear hK K hHeld
   have FE := aa (FE.out.below HQ.out)
   have HE := aa (HE.out.kept HQ.out)
   have HA := aa (HA.out.kept HQ.out)
   have HZ := aa (HZ.out.kept HQ.out)
   have FL := aa (bG FL.out HQ.out)
   have lZ := lZ
   have FO : Hid (u.heap[(u7.heap.size)]? = some (.cells #[.int .i64 3, .int .i64 0, .slice none 0 0, .slice (some ⟨gL, 0, none⟩) 4 4] 117)) := by rw [← nP.out]; exact (aa (heap_alloc_new u7 _))
   obtain ⟨gO, hg⟩ : ∃ x, u7.heap.size = x := ⟨_, rfl⟩
   rw [hg] at FO ⊢
   clear hg
   have FB := aS
   clear aS nP HQ
   try simp only [qq, Ic.val, Ic.cs, aM, aI]
   have hHeld := FB
   have hT := trivial
   have ha0 := trivial
   have um := aa FB.out.1
   have R5 := aa FB.out.2.1
   have Y_ := aa FB.out.2.2
   have hit : qE w3.heap.size u (Af p) (Ic.mk 3 0 none 0 0 (some ⟨gL, 0, none⟩) 4 4) := sI (fun k => match k with | 0 => cE | 1 => cA | 2 => aM p.C | _ => cZ) FL.out lZ.out rfl (fun k hk => by
     rcases (show k = 0 ∨ k = 1 ∨ k = 2 ∨ k = 3 by omega) with rfl | rfl | rfl | rfl <;> exact ⟨rfl, rfl, rfl, rfl⟩) (fun k hk => by
     rcases (show k = 0 ∨ k = 1 ∨ k = 2 ∨ k = 3 by omega) with rfl | rfl | rfl | rfl
     · exact HE.out
     · exact HA.out
     · exact oz _ _ _
     · exact HZ.out)
   have hown : u.ownsRow (B + 1) 117 4 v k (cs.flatMap aT) := by
    have h := HO.out.keep FB.out.2.1
    unfold dO at h
    rwa [qH.out] at h
   have hbz := FB.out.1.size
   have hWr := aF.out.size
   have hno : v.ownBlock ≠ some B := HO.out.no (by omega)
   have hvq := HV.out.below FB.out.2.1
   have hsb := xW.out
   have aeK := FB.out.2.1.size
   have aeN := FB.out.2.2.size
   have aeM := YD.out
   refine mR 23 fun K hK => ?_
   refine step_append_lies _ (by rfl) _ _ _ (by rfl) (B + 1) 117 i0 _ 4 64 Tryz.underlying115 hi hz0 hz1 hz2 rfl (by omega) v k (cs.flatMap aT) (by rfl) hown ⟨gO, 0, none⟩ 1 1 [.int .i64 3, .int .i64 0, .slice none 0 0, .slice (some ⟨gL, 0, none⟩) 4 4] (by rfl) (by rfl) (World.news_of_block (cs := #[.int .i64 3, .int .i64 0, .slice none 0 0, .slice (some ⟨gL, 0, none⟩) 4 4]) (t := 117) (fr := (0, 0)) FO.out) (by simp [Value.oneCell']) (by omega) (by unfold maxLen; omega) (by omega) (by omega) u.heap.size rfl ?_
   intro gg cap wz hown1 hgrow hgg hlt2
   have He := aO hvq hgrow hno
   have U4 := He
   obtain ⟨p2, f2⟩ := U4
   refine hK.out _ _ ?_
   clear hK K
   try simp only [qq]
   refine mR 24 fun K hK => ?_
   go_simp
   refine hK.out _ _ ?_
   clear hK K
   try simp only [qq]
   refine mR 25 fun K hK => ?_
   go_simp
   refine hK.out _ _ ?_
   clear hK K
   try simp only [qq]
   refine gH ?_
   clear hHeld hT ha0
   have hgz : u.heap.size ≤ wz.heap.size := hgrow.size
   have yO : Hid (dO (wz.setCell ⟨B, 3, none⟩ (.slice (some ⟨gg, 0, none⟩) (k + 1) cap)) (B + 1) (.slice (some ⟨gg, 0, none⟩) (k + 1) cap) (cs ++ [(Ic.mk 3 0 none 0 0 (some ⟨gL, 0, none⟩) 4 4)])) := aa ((dO.app qH.out.symm (by simpa [aT] using hown1)).set (by omega))
   have uG : Hid (Own (wz.setCell ⟨B, 3, none⟩ (.slice (some ⟨gg, 0, none⟩) (k + 1) cap)) ⟨B, 3, none⟩ (.slice (some ⟨gg, 0, none⟩) (k + 1) cap)) := aa (bu He)
   have QM : Hid (Own (wz.setCell ⟨B, 3, none⟩ (.slice (some ⟨gg, 0, none⟩) (k + 1) cap)) ⟨B, 0, none⟩ (.int .i64 3) ∧ Own (wz.setCell ⟨B, 3, none⟩ (.slice (some ⟨gg, 0, none⟩) (k + 1) cap)) ⟨B, 1, none⟩ (.int .i64 0) ∧ Own (wz.setCell ⟨B, 3, none⟩ (.slice (some ⟨gg, 0, none⟩) (k + 1) cap)) ⟨B, 2, none⟩ (.slice none 0 0)) := aa ⟨ak (aO (oI.out.1.below FB.out.2.1) hgrow hno) (by simp), ak (aO (oI.out.2.1.below FB.out.2.1) hgrow hno) (by simp), ak (aO (oI.out.2.2.below FB.out.2.1) hgrow hno) (by simp)⟩
   have Cy : ∀ b, ((.slice (some ⟨gg, 0, none⟩) (k + 1) cap) : Value).ownBlock = some b → v.ownBlock = some b ∨ u.heap.size ≤ b := fun b e => by
    cases e
    rcases hgg with e | e
    · exact Or.inl e
    · exact Or.inr (show u.heap.size ≤ gg by omega)
   have vK : ∀ b, v.ownBlock = some b → b < wr.heap.size := fun b e => (World.ownsRow.lt HO.out b e).2
   have Q5 : Hid (∀ j, j < k + 1 → Fs ((.slice (some ⟨gg, 0, none⟩) (k + 1) cap) : Value).ownBlock (B + 1) (wz.setCell ⟨B, 3, none⟩ (.slice (some ⟨gg, 0, none⟩) (k + 1) cap)) (Af (o.ps.getD j aH)) ((cs ++ [(Ic.mk 3 0 none 0 0 (some ⟨gL, 0, none⟩) 4 4)]).getD j default)) := aa (fun j hj => by
    by_cases e : j = k
    ·
     subst e
     rw [mY.out, show (cs ++ [((Ic.mk 3 0 none 0 0 (some ⟨gL, 0, none⟩) 4 4) : Ic)]).getD j default = (Ic.mk 3 0 none 0 0 (some ⟨gL, 0, none⟩) 4 4) by rw [List.getD_eq_getElem?_getD, List.getElem?_append_right (by rw [qH.out]; exact Nat.le_refl _), qH.out, Nat.sub_self]; rfl]
     exact ((hit.g (lo := B + 1) (by omega) (fun b e => by have := vK b e; omega)).grown hgrow hgz Cy).setCell (by omega)
    ·
     rw [show (cs ++ [((Ic.mk 3 0 none 0 0 (some ⟨gL, 0, none⟩) 4 4) : Ic)]).getD j default = cs.getD j default by rw [List.getD_eq_getElem?_getD, List.getElem?_append_left (by rw [qH.out]; omega), ← List.getD_eq_getElem?_getD]]
     exact (((HG.out j (by omega)).kept FB.out.2.1).grown hgrow hgz Cy).setCell (by omega))
   have kL : Hid (Below B W (wz.setCell ⟨B, 3, none⟩ (.slice (some ⟨gg, 0, none⟩) (k + 1) cap))) := aa (((aF.out.trans (FB.out.2.1.mono (by omega))).grown hgrow (by omega) (fun j hj => by have := (World.ownsRow.lt HO.out j hj).1; omega)).setCell (Nat.le_refl _) _)
   have VC : Hid ((cs ++ [((Ic.mk 3 0 none 0 0 (some ⟨gL, 0, none⟩) 4 4) : Ic)]).length = k + 1) := aa (by rw [List.length_append, qH.out]; rfl)
   clear hown hvq hown1 hgrow hgg hlt2 He p2 f2 Cy vK hit
   go_wp2
   go_roundw
   case rel => exact ⟨k + 1, _, _, by omega, by go_num, VC, uG, QM, yO, Q5, kL⟩
   case measure => simp [intOf]; omega
  ·
   have hke : k = o.np := by omega
   obtain ⟨L5, KF, hv5, MX⟩ := IG (l := o.ps.map Af) (lo := B + 1) HO.out qH.out (by rw [List.length_map, WH, hke]) (Nat.le_refl _) (fun j hj => by
    rw [show (o.ps.map Af).getD j default = Af (o.ps.getD j aH) by rw [List.getD_eq_getElem?_getD, List.getElem?_map, List.getD_eq_getElem?_getD, List.getElem?_eq_getElem (show j < o.ps.length by omega)]; rfl]
    exact (HG.out j hj).s)
   subst hv5
   have Vt := aa MX
   obtain ⟨⟨a3, _⟩, ⟨a0, _⟩, ⟨a1, _⟩, ⟨a2, _⟩⟩ := (⟨HV.out, oI.out⟩ : _ ∧ _ ∧ _ ∧ _)
   have Q7 : Hid (wr.cell? ⟨B, 0, none⟩ = some (.int .i64 3) ∧ wr.cell? ⟨B, 1, none⟩ = some (.int .i64 0) ∧ wr.cell? ⟨B, 2, none⟩ = some (.slice none 0 0) ∧ wr.cell? ⟨B, 3, none⟩ = some (.slice L5 k KF)) := aa ⟨a0, a1, a2, a3⟩
   have VV := aa hke
   clear MX a0 a1 a2 a3 HO HG HV oI hke
   have dm := bP wr
   have kX5 := aa (show ∀ u : World, Hid (Below wr.heap.size wr u) → u.cell? ⟨B, 0, none⟩ = some (.int .i64 3) ∧ u.cell? ⟨B, 1, none⟩ = some (.int .i64 0) ∧ u.cell? ⟨B, 2, none⟩ = some (.slice none 0 0) ∧ u.cell? ⟨B, 3, none⟩ = some (.slice L5 k KF) from fun u h => ⟨cell_below Q7.out.1 h.out, cell_below Q7.out.2.1 h.out, cell_below Q7.out.2.2.1 h.out, cell_below Q7.out.2.2.2 h.out⟩)
   have hcv := fun w => run_bytes_of_string (P := Tryz.prog) w 9 114 5 o.rs Tryz.underlying9 Tryz.underlying114 Tryz.underlying5
   have kA := aa (show ∀ u : World, Hid (Below wr.heap.size wr u) → Hid (Sl u o.A o.al) from fun u h => aa ((kO.out _ iK).out.2.2.2.1.below h.out))
   have kZ := aa (show ∀ u : World, Hid (Below wr.heap.size wr u) → Hid (Sl u o.Z o.zs) from fun u h => aa ((kO.out _ iK).out.2.2.2.2.1.below h.out))
   obtain ⟨q1, q2⟩ : Hid (o.al.length = o.na) ∧ Hid (o.zs.length = o.nz) := ⟨aa (kO.out _ iK).out.1, aa (kO.out _ iK).out.2.1⟩
   have XW : o.na ≤ 20 := by rw [← q1.out]; exact hs.a
   have XV : o.nz ≤ 20 := by rw [← q2.out]; exact hs.z
   have zc := kC.out _ iK
   have Z9 := kX5.out _ dm
   go_upto_region 7 with (fail)
   clear zc Z9
   have hO := aa (fun (u : World) (h : Hid (Below w0.heap.size w0 u ∧ Below wr.heap.size wr u)) => And.intro (kC.out u (aa h.out.1)) (kX5.out u (aa h.out.2)))
   have nQ := bb2 (aa ⟨iK.out, dm.out⟩) (Below.refl _ _).drew
   refine wU (fun u => Below w0.heap.size w0 u ∧ Below wr.heap.size wr u) [16] nQ (fun hHeld => ?_)
   obtain ⟨wD, nK⟩ : ∃ u, wr.drew = u := ⟨_, rfl⟩
   rw [nK] at nQ hHeld ⊢
   have zX : Hid (wr.heap.size ≤ wD.heap.size) := aa (by rw [← nK]; exact Nat.le_refl _)
   clear nK
   refine aU 0 1 3 4 ?_
   refine aU 7 8 10 11 ?_
   refine aL 12 ?_
   refine Zn fun a0 ha0 => ?_
   clear hHeld
   refine O3 [2, 5, 6, 9, 13, 14, 15] [[], [], [0, 1], [0, 1, 2], [0, 1, 2, 3], [0, 1, 2, 3, 4], [0, 1, 2, 3, 4, 5]] [[2, 3, 4, 5, 6], [2, 3, 4, 5, 6], [3, 4, 5, 6], [4, 5, 6], [5, 6], [6], []] 1 #[true, true, true, true, true, true, true, true, true, true, true, true, true, true, true, true, false] (fun bs a u => ∃ (wu ym sG vE fT fQ eO : Bool) (gC : Nat) (cC : Nat) (cE : Ic) (gL : Nat), bs = [wu, ym, sG, vE, fT, fQ, eO] ∧ a = (((((((a0.put (some 42) (cond wu (.agg #[.int .i64 1, .int .i64 (o.num), .slice none 0 0, .slice none 0 0]) undef)).put (some 45) (cond ym (.slice (some ⟨gC, 0, none⟩) o.rs.size cC) undef)).put (some 46) (cond sG (.agg #[.int .i64 2, .int .i64 (0), .slice (some ⟨gC, 0, none⟩) o.rs.size cC, .slice none 0 0]) undef)).put (some 49) (cond vE (.agg #[.int .i64 cE.kind, .int .i64 cE.n, .slice cE.B cE.nb cE.cb, .slice cE.L cE.nl cE.cl]) undef)).put (some 53) (cond fT (.agg #[.int .i64 1, .int .i64 (o.key), .slice none 0 0, .slice none 0 0]) undef)).put (some 54) (cond fQ (.slice (some ⟨gL, 0, none⟩) 5 5) undef)).put (some 55) (cond eO (.agg #[.int .i64 3, .int .i64 (0), .slice none 0 0, .slice (some ⟨gL, 0, none⟩) 5 5]) undef)) ∧ Hid (Below w0.heap.size w0 u ∧ Below wr.heap.size wr u) ∧ (ym = true → Hid (Sk .u8 u (some ⟨gC, 0, none⟩) (aX o.rs))) ∧ (ym = true → Hid (w0.heap.size ≤ gC)) ∧ (vE = true → Hid (qE w0.heap.size u (KD o.E1 o.E2 o.al o.C o.zs) cE)) ∧ (fQ = true → Hid (u.heap[gL]? = some (.cells #[.int .i64 1, .int .i64 o.num, .slice none 0 0, .slice none 0 0, .int .i64 2, .int .i64 0, .slice (some ⟨gC, 0, none⟩) o.rs.size cC, .slice none 0 0, .int .i64 cE.kind, .int .i64 cE.n, .slice cE.B cE.nb cE.cb, .slice cE.L cE.nl cE.cl, .int .i64 3, .int .i64 0, .slice none 0 0, .slice L5 k KF, .int .i64 1, .int .i64 o.key, .slice none 0 0, .slice none 0 0] 117))) ∧ (fQ = true → Hid (w0.heap.size ≤ gL))) ⟨false, false, false, false, false, false, false, 0, 0, (Ic.mk 0 0 none 0 0 none 0 0), 0, rfl, by rw [ha0]; simp only [qq], nQ, nofun, nofun, nofun, nofun, nofun⟩ ?_ ⟨?_, ?_, ?_, ?_, ?_, ?_, ?_, trivial⟩
   ·
    rintro bs a u hbs ⟨wu, ym, sG, vE, fT, fQ, eO, gC, cC, cE, gL, rfl, rfl, FB, rz, iL, nR, oW, gz⟩
    obtain ⟨rfl, rfl, rfl, rfl, rfl, rfl, rfl⟩ : wu = true ∧ ym = true ∧ sG = true ∧ vE = true ∧ fT = true ∧ fQ = true ∧ eO = true := by simpa using hbs
    have FC := rz rfl
    have Am := iL rfl
    have HE := nR rfl
    have FL := oW rfl
    have lZ := gz rfl
    clear rz iL nR oW gz
    have hHeld := FB
    have hT := trivial
    rw [ha0]
    simp only [qq]
    have um := aa FB.out.1
    have R5 := aa FB.out.2
    have pU := nT.out _ (aa FB.out.1)
    refine mR 16 fun K hK => ?_
    rw [show (if Region.wanted _ _ = true then _ else _ : Prop) = _ from if_pos rfl]
    refine wp_store_row 117 _ _ rfl (w.heap.size + 1) (Ic.cs ⟨3, 0, none, 0, 0, some ⟨gL, 0, none⟩, 5, 5⟩) rfl rfl 117 _ pU.out (cK _) rfl (jy _) ?_
    refine hK.out _ _ ?_
    clear hK K
    try simp only [qq]
    refine gH ?_
    have hit : qE w0.heap.size u (xk o) ⟨3, 0, none, 0, 0, some ⟨gL, 0, none⟩, 5, 5⟩ := sI (fun k9 => match k9 with | 0 => aM o.num | 1 => aI (some ⟨gC, 0, none⟩) o.rs.size cC | 2 => cE | 3 => ⟨3, 0, none, 0, 0, L5, k, KF⟩ | _ => aM o.key) FL.out lZ.out rfl (fun k9 hk => by
      rcases (show k9 = 0 ∨ k9 = 1 ∨ k9 = 2 ∨ k9 = 3 ∨ k9 = 4 by omega) with rfl | rfl | rfl | rfl | rfl <;> exact ⟨rfl, rfl, rfl, rfl⟩) (fun k9 hk => by
      rcases (show k9 = 0 ∨ k9 = 1 ∨ k9 = 2 ∨ k9 = 3 ∨ k9 = 4 by omega) with rfl | rfl | rfl | rfl | rfl
      · exact oz _ _ _
      · exact Ct FC.out Am.out (bE _)
      · exact HE.out
      · exact (Vt.out.kept FB.out.2).mono (by have := xW.out; omega)
      · exact oz _ _ _)
    have hit2 := (hit.setRow (g := w.heap.size + 1) (by have := jO.out; omega) (Ic.cs ⟨3, 0, none, 0, 0, some ⟨gL, 0, none⟩, 5, 5⟩)).mono (lo' := w.heap.size) (by have := jO.out; omega)
    have bV := ai (ag aj.out FB.out.1) (cs := Ic.cs ⟨3, 0, none, 0, 0, some ⟨gL, 0, none⟩, 5, 5⟩) (Nat.le_add_right w.heap.size 1)
    have hrw := setRow_heap _ _ _ (Ic.cs ⟨3, 0, none, 0, 0, some ⟨gL, 0, none⟩, 5, 5⟩) _ _ pU.out
    go_wp2
    exact bodyPost_ret (v := (Ic.mk 3 0 none 0 0 (some ⟨gL, 0, none⟩) 5 5).val) (aD (p := 2) (ty := 117) rfl _ _ ⟨w.heap.size + 1, 0, none⟩ _ rfl (run_loadVar_row _ _ _ _ _ _ _ hrw Tryz.underlying117 rfl (cK _))) rfl ⟨_, rfl, hit2, bV⟩
   ·
    rintro bs a u ⟨wu, ym, sG, vE, fT, fQ, eO, gC, cC, cE, gL, rfl, rfl, FB, rz, iL, nR, oW, gz⟩ hr
    simp [jv, and_assoc] at hr
    obtain ⟨rfl, rfl, rfl, rfl, rfl, rfl⟩ := hr
    refine ⟨_, rfl, fun K hK => ?_⟩
    rw [ha0]
    simp only [qq]
    go_simp
    refine (sH o.num _).mono ?_
    rintro e wB ⟨rfl, hq⟩
    have aS := bb2 FB hq
    refine hK.out _ _ aS ⟨true, ym, false, false, false, false, false, gC, cC, cE, gL, rfl, ?_, aS, fun e => aa ((rz e).out.below hq), fun e => (iL e), nofun, nofun, nofun⟩
    rw [ha0]
    simp only [qq]
    try rfl
   ·
    rintro bs a u ⟨wu, ym, sG, vE, fT, fQ, eO, gC, cC, cE, gL, rfl, rfl, FB, rz, iL, nR, oW, gz⟩ hr
    simp [jv, and_assoc] at hr
    obtain ⟨rfl, rfl, rfl, rfl, rfl, rfl⟩ := hr
    refine ⟨_, rfl, fun K hK => ?_⟩
    rw [ha0]
    simp only [qq]
    go_simp
    have aS := bb2 FB ((af u (.cells (bytesRow o.rs (grownCap u o.rs.size 0 5)) 5 ((bytesRow o.rs (grownCap u o.rs.size 0 5)).size, (bytesRow o.rs (grownCap u o.rs.size 0 5)).size + 1))).drew)
    refine hK.out _ _ aS ⟨wu, true, false, false, false, false, false, u.heap.size, (grownCap u o.rs.size 0 5), cE, gL, rfl, ?_, aS, fun _ => (aa ((mh (heap_alloc_new u _)).below ((Below.refl _ _).drew))), fun _ => (aa (by have := FB.out.1.size; omega)), nofun, nofun, nofun⟩
    rw [ha0]
    simp only [qq]
    try rfl
   ·
    rintro bs a u ⟨wu, ym, sG, vE, fT, fQ, eO, gC, cC, cE, gL, rfl, rfl, FB, rz, iL, nR, oW, gz⟩ hr
    simp [jv, and_assoc] at hr
    obtain ⟨rfl, rfl, rfl, rfl, rfl, rfl, rfl⟩ := hr
    have FC := rz rfl
    have Am := iL rfl
    refine ⟨_, rfl, fun K hK => ?_⟩
    rw [ha0]
    simp only [qq]
    go_simp
    refine (yB (some ⟨gC, 0, none⟩) o.rs.size cC _).mono ?_
    rintro e wB ⟨rfl, hq⟩
    have aS := bb2 FB hq
    refine hK.out _ _ aS ⟨true, true, true, false, false, false, false, gC, cC, cE, gL, rfl, ?_, aS, fun _ => aa (FC.out.below hq), fun _ => Am, nofun, nofun, nofun⟩
    rw [ha0]
    simp only [qq]
    try rfl
   ·
    rintro bs a u ⟨wu, ym, sG, vE, fT, fQ, eO, gC, cC, cE, gL, rfl, rfl, FB, rz, iL, nR, oW, gz⟩ hr
    simp [jv, and_assoc] at hr
    obtain ⟨rfl, rfl, rfl, rfl, rfl, rfl, rfl⟩ := hr
    have FC := rz rfl
    have Am := iL rfl
    refine ⟨_, rfl, fun K hK => ?_⟩
    rw [ha0]
    simp only [qq]
    go_simp
    refine (Bt o.E1 o.E2 o.A o.na o.ca o.al o.C o.Z o.nz o.cz o.zs q1 q2 (by omega) (by omega) _ (kA.out _ (aa FB.out.2)) (kZ.out _ (aa FB.out.2))).mono ?_
    rintro e wB ⟨cB, rfl, hit, hq⟩
    have aS := bb2 FB hq
    refine hK.out _ _ aS ⟨true, true, true, true, false, false, false, gC, cC, cB, gL, rfl, ?_, aS, fun _ => aa (FC.out.below hq), fun _ => Am, fun _ => (aa (hit.mono (by have := FB.out.1.size; omega))), nofun, nofun⟩
    rw [ha0]
    simp only [qq]
    try rfl
   ·
    rintro bs a u ⟨wu, ym, sG, vE, fT, fQ, eO, gC, cC, cE, gL, rfl, rfl, FB, rz, iL, nR, oW, gz⟩ hr
    simp [jv, and_assoc] at hr
    obtain ⟨rfl, rfl, rfl, rfl, rfl, rfl, rfl⟩ := hr
    have FC := rz rfl
    have Am := iL rfl
    have HE := nR rfl
    refine ⟨_, rfl, fun K hK => ?_⟩
    rw [ha0]
    simp only [qq]
    go_simp
    refine (sH o.key _).mono ?_
    rintro e wB ⟨rfl, hq⟩
    have aS := bb2 FB hq
    refine hK.out _ _ aS ⟨true, true, true, true, true, false, false, gC, cC, cE, gL, rfl, ?_, aS, fun _ => aa (FC.out.below hq), fun _ => Am, fun _ => aa (HE.out.kept hq), nofun, nofun⟩
    rw [ha0]
    simp only [qq]
    try rfl
   ·
    rintro bs a u ⟨wu, ym, sG, vE, fT, fQ, eO, gC, cC, cE, gL, rfl, rfl, FB, rz, iL, nR, oW, gz⟩ hr
    simp [jv, and_assoc] at hr
    obtain ⟨rfl, rfl, rfl, rfl, rfl, rfl, rfl⟩ := hr
    have FC := rz rfl
    have Am := iL rfl
    have HE := nR rfl
    refine ⟨_, rfl, fun K hK => ?_⟩
    rw [ha0]
    simp only [qq]
    go_simp
    have aS := bb2 FB (af u (.cells #[.int .i64 1, .int .i64 o.num, .slice none 0 0, .slice none 0 0, .int .i64 2, .int .i64 0, .slice (some ⟨gC, 0, none⟩) o.rs.size cC, .slice none 0 0, .int .i64 cE.kind, .int .i64 cE.n, .slice cE.B cE.nb cE.cb, .slice cE.L cE.nl cE.cl, .int .i64 3, .int .i64 0, .slice none 0 0, .slice L5 k KF, .int .i64 1, .int .i64 o.key, .slice none 0 0, .slice none 0 0] 117))
    refine hK.out _ _ aS ⟨true, true, true, true, true, true, false, gC, cC, cE, u.heap.size, rfl, ?_, aS, fun _ => aa (FC.out.below (af u (.cells #[.int .i64 1, .int .i64 o.num, .slice none 0 0, .slice none 0 0, .int .i64 2, .int .i64 0, .slice (some ⟨gC, 0, none⟩) o.rs.size cC, .slice none 0 0, .int .i64 cE.kind, .int .i64 cE.n, .slice cE.B cE.nb cE.cb, .slice cE.L cE.nl cE.cl, .int .i64 3, .int .i64 0, .slice none 0 0, .slice L5 k KF, .int .i64 1, .int .i64 o.key, .slice none 0 0, .slice none 0 0] 117))), fun _ => Am, fun _ => aa (HE.out.kept (af u (.cells #[.int .i64 1, .int .i64 o.num, .slice none 0 0, .slice none 0 0, .int .i64 2, .int .i64 0, .slice (some ⟨gC, 0, none⟩) o.rs.size cC, .slice none 0 0, .int .i64 cE.kind, .int .i64 cE.n, .slice cE.B cE.nb cE.cb, .slice cE.L cE.nl cE.cl, .int .i64 3, .int .i64 0, .slice none 0 0, .slice L5 k KF, .int .i64 1, .int .i64 o.key, .slice none 0 0, .slice none 0 0] 117))), fun _ => (aa (heap_alloc_new u _)), fun _ => (aa (by have := FB.out.1.size; omega))⟩
    rw [ha0]
    simp only [qq]
    try rfl
   ·
    rintro bs a u ⟨wu, ym, sG, vE, fT, fQ, eO, gC, cC, cE, gL, rfl, rfl, FB, rz, iL, nR, oW, gz⟩ hr
    simp [jv, and_assoc] at hr
    obtain ⟨rfl, rfl, rfl, rfl, rfl, rfl, rfl⟩ := hr
    have FC := rz rfl
    have Am := iL rfl
    have HE := nR rfl
    have FL := oW rfl
    have lZ := gz rfl
    refine ⟨_, rfl, fun K hK => ?_⟩
    rw [ha0]
    simp only [qq]
    go_simp
    refine (vG (some ⟨gL, 0, none⟩) 5 5 _).mono ?_
    rintro e wB ⟨rfl, hq⟩
    have aS := bb2 FB hq
    refine hK.out _ _ aS ⟨true, true, true, true, true, true, true, gC, cC, cE, gL, rfl, ?_, aS, fun _ => aa (FC.out.below hq), fun _ => Am, fun _ => aa (HE.out.kept hq), fun _ => aa (bG FL.out hq), fun _ => lZ⟩
    rw [ha0]
    simp only [qq]
    try rfl
def uU : ByteArray := ⟨#[115, 112, 101, 99, 105, 101, 47, 116, 114, 97, 105, 108]⟩
def Bj (h : List Int) (o : az) : It := .lst [.byt h, xk o]
def JO (h : List Int) (o : az) : List Int := tagged (aX uU) (enc (Bj h o))
theorem Co (h : List Int) (o : az) : (JO h o).length = 32 := dF _ _
theorem WL (h : List Int) (o : az) : aC (JO h o) = true := iU _
theorem Nh {h : List Int} {o : az} (hl : h.length = 32) (hb : aC h = true) (hi : dJ o) (hs : fH o) : fits 8 (Bj h o) := by
 refine ⟨by simp, fun x hx => ?_⟩
 simp only [List.mem_cons, List.not_mem_nil, or_false] at hx
 rcases hx with rfl | rfl
 · exact ⟨⟨by omega, by omega⟩, hb⟩
 · exact pI (GI hi hs) (by decide)
theorem RJ {h : List Int} {o : az} (hl : h.length = 32) (hs : fH o) : (enc (Bj h o)).length ≤ 16384 := by
 have h1 := RI hs
 rw [Bj, fA]
 simp only [List.length_cons, List.length_append, dY, pM, iC, List.length_nil, show (fG []).length = 0 from rfl, hl]
 omega
theorem DJ (tg : ByteArray) (ht1 : 1 ≤ tg.size) (ht2 : tg.size ≤ 100) (i : It) (c : Ic) (jQ : Hid (fits 8 i)) (HLEN : Hid ((enc i).length ≤ 16384)) (w : World) (hv : Hid (bz w)) (hi : Hid (nV w i c)) :
  Calls Tryz.prog 140 #[.string tg, .agg #[.int .i64 c.kind, .int .i64 c.n, .slice c.B c.nb c.cb, .slice c.L c.nl c.cl]] w (Rt w (.agg (arr .u8 (tagged (aX tg) (enc i))))) := by
 obtain ⟨RR, hRR⟩ : ∃ R, tagged (aX tg) (enc i) = R := ⟨_, rfl⟩
 rw [hRR]
 have Og : Kp (tagged (aX tg) (enc i) = RR) := ⟨hRR⟩
 have fI : Hid (RR.length = 32) := aa (by rw [← hRR]; exact dF _ _)
 clear hRR
 obtain ⟨W, hW⟩ : ∃ W, (w.alloc (.cells #[.int .i64 c.kind, .int .i64 c.n, .slice c.B c.nb c.cb, .slice c.L c.nl c.cl] 117)).alloc (.cells z32 41) = W := ⟨_, rfl⟩
 have bT : Hid (Below w.heap.size w W) := aa (by rw [← hW]; exact aJ (Below.refl _ _))
 have Vy : Hid (W.heap[w.heap.size]? = some (.cells #[.int .i64 c.kind, .int .i64 c.n, .slice c.B c.nb c.cb, .slice c.L c.nl c.cl] 117)) := aa (by rw [← hW]; exact heap_alloc2_old _ _ _)
 have eG : Hid (bH .u8 41 W (w.heap.size + 1) (dz 32)) := aa (by rw [← hW, jd]; exact heap_alloc2_new _ _ _)
 have HV := aa (hv.out.below bT.out)
 have HI := aa (hi.out.kept bT.out)
 have HW := aa hW
 have c0 := au Vy.out 0
 have c1 := au Vy.out 1
 have c2 := au Vy.out 2
 have c3 := au Vy.out 3
 clear hW hv hi
 go_in
 go_upto_region 1 with (fail)
 rw [HW.out]
 go_wp2_with fail
 refine (uE i c _ jQ.out HI.out HLEN.out).mono ?_
 rintro e w4 ⟨v4, rfl, Av, hb4⟩
 obtain ⟨E, hE⟩ : ∃ E, enc i = E := ⟨_, rfl⟩
 have Kr : Hid (aC E = true) := aa (by rw [← hE]; exact kz jQ.out)
 have wH : Hid (0 < E.length ∧ E.length ≤ 16384) := aa (by rw [← hE]; exact ⟨oD _, HLEN.out⟩)
 rw [hE] at Av
 obtain ⟨g4, cap4, e4, hg4, -, -, rT⟩ := Av.cells wH.out.1
 obtain ⟨n4, MS⟩ : ∃ n, E.length = n := ⟨_, rfl⟩
 rw [MS] at e4 wH
 subst e4
 have YQ := aa MS
 have yN := aa rT
 have kL := aa hb4
 have Hz : Kp (enc i = E) := ⟨hE⟩
 clear hE rT Av hb4 MS c0 c1 c2 c3
 obtain ⟨he0, he1⟩ := wH.out
 go_wp2_with fail
 refine (qa tg ht1 ht2 g4 0 cap4 E n4 YQ he0 (by omega) Kr _ yN (aa (HV.out.below kL.out))).mono ?_
 rintro e w5 ⟨rfl, hb5⟩
 have jZ := aa (ag kL.out hb5)
 rw [← Hz.1, Og.1, show mq RR = .tuple #[.agg (arr .u8 RR), .int .i64 0] from rfl]
 clear hb5 yN kL
 have uH : Hid (bH .u8 41 w5 (w.heap.size + 1) (dz 32)) := aa (eG.out.below jZ.out)
 have HA5 : Hid (bH .u8 41 (w5.alloc (.cells z32 41)) w5.heap.size (dz 32)) := aa (by rw [jd]; exact bH.new _ _)
 have HA6 : Hid (bH .u8 41 ((w5.alloc (.cells z32 41)).setRow w5.heap.size (arr .u8 RR)) w5.heap.size RR) := aa HA5.out.setRow
 have Oh : Hid (bH .u8 41 ((w5.alloc (.cells z32 41)).setRow w5.heap.size (arr .u8 RR)) (w.heap.size + 1) (dz 32)) := aa ((uH.out.old _).setRow_ne (by have := uH.out.lt; omega))
 go_wp2_with (first
  | ((with_reducible show wpList _ _ _ (⟨none, Op.store _ (Operand.tmp 7) _, _, _, _, _⟩ :: _) _ _); refine wpList_store_row rfl 41 _ _ rfl w5.heap.size (arr .u8 RR) rfl rfl _ _ HA5.out (ay fI.out) (eB (l := dz 32) rfl fI.out) (dh _) ?_)
  | ((with_reducible show wpList _ _ _ (⟨some 20, _, _, _, _, _⟩ :: _) _ _); refine wpList_load_row rfl 41 _ rfl w5.heap.size rfl _ _ _ _ HA6.out Tryz.underlying41 rfl (ay fI.out) ?_)
  | ((with_reducible show wpList _ _ _ (⟨none, Op.store _ (Operand.tmp 4) _, _, _, _, _⟩ :: _) _ _); refine wpList_store_row rfl 41 _ _ rfl (w.heap.size + 1) (arr .u8 RR) rfl rfl _ _ Oh.out (ay fI.out) (eB (l := dz 32) rfl fI.out) (dh _) ?_))
 have HRR := Oh.out.setRow (l' := RR)
 have fM := ai (ai (ag bT.out (ag jZ.out (af w5 (.cells z32 41)))) (b := w5.heap.size) (by have := (ag bT.out jZ.out).size; omega) (cs := arr .u8 RR)) (b := w.heap.size + 1) (Nat.le_succ _) (cs := arr .u8 RR)
 exact bodyPost_ret (v := .agg (arr .u8 RR)) (aD (p := 4) (ty := 41) rfl _ _ ⟨w.heap.size + 1, 0, none⟩ _ rfl (run_loadVar_row _ _ _ _ _ _ _ HRR Tryz.underlying41 rfl (ay fI.out))) rfl ⟨rfl, fM⟩
theorem Mi (h : List Int) (hl : Hid (h.length = 32)) (hb : Hid (aC h = true)) (o : az) (hi : Hid (dJ o)) (hs : fH o) (w : World) (hv : Hid (bz w)) (ho : Hid (dW w o)) :
  Calls Tryz.prog 88 #[.agg (arr .u8 h), x_ o] w (Rt w (.agg (arr .u8 (JO h o)))) := by
 obtain ⟨RR, hRR⟩ : ∃ R, tagged (aX uU) (enc (Bj h o)) = R := ⟨_, rfl⟩
 rw [show JO h o = tagged (aX uU) (enc (Bj h o)) from rfl, hRR]
 have HRR : Kp (tagged (aX uU) (enc (Bj h o)) = RR) := ⟨hRR⟩
 have fI : Hid (RR.length = 32) := aa (by rw [← hRR]; exact dF _ _)
 have jQ : Hid (fits 8 (Bj h o)) := aa (Nh hl.out hb.out hi.out hs)
 have HLEN : Hid ((enc (Bj h o)).length ≤ 16384) := aa (RJ hl.out hs)
 clear hRR
 obtain ⟨w0, HW, aj, kC⟩ := sW (.cells (arr .u8 h) 41) bp0 (lY o) ZH (.cells z32 41) sO w
 have kO := fq (fun u => dW u o) aj ho (·.below)
 have kD := o6 aj hv
 have WS := aa (show ∀ u : World, Hid (Below w0.heap.size w0 u) → Hid (bH .u8 41 u w.heap.size h) from fun u h9 => aa (bH.below (by rw [← HW.out]; exact ((bH.new w h).old _).old _) h9.out))
 have nT := aa (show ∀ u : World, Hid (Below w0.heap.size w0 u) → Hid (bH .u8 41 u (w.heap.size + 2) (dz 32)) from fun u h9 => aa (bH.below (by rw [← HW.out, jd]; exact iq _ _ _ _) h9.out))
 have ah := bP w0
 clear ho hv
 go_in
 go_upto_region 1 with (fail)
 rw [HW.out]
 have zc := kC.out _ ah
 have jO : Hid (w0.heap.size = w.heap.size + 3) := aa (by rw [← HW.out]; simp)
 clear zc
 have hO := kC
 have nQ := bF (aa ah.out) (Below.refl _ _).drew
 refine wU (fun u => Below w0.heap.size w0 u) [7] nQ (fun hHeld => ?_)
 obtain ⟨wD, nK⟩ : ∃ u, w0.drew = u := ⟨_, rfl⟩
 rw [nK] at nQ hHeld ⊢
 have zX : Hid (w0.heap.size ≤ wD.heap.size) := aa (by rw [← nK]; exact Nat.le_refl _)
 clear nK
 refine aL 0 ?_
 refine aL 2 ?_
 have FB := nQ
 refine bY 1 fun K hK => ?_
 go_simp
 refine (yB (some ⟨w.heap.size, 0, none⟩) 32 32 _).mono ?_
 rintro e u1 ⟨rfl, hq⟩
 have aS := bF FB hq
 refine hK.out _ _ aS (fun hHeld => ?_)
 clear hK K hHeld
 have FB := aS
 clear aS
 try simp only [qq, Ic.val, Ic.cs, aM, aI]
 refine bY 3 fun K hK => ?_
 go_simp
 refine (Mv o hs _ (kO.out _ (aa FB.out))).mono ?_
 rintro e u2 ⟨cO, rfl, hit, hq⟩
 have aS := bF FB hq
 refine hK.out _ _ aS (fun hHeld => ?_)
 clear hK K hHeld
 have HO := (aa (hit.mono (by have := FB.out.size; omega)))
 have FB := aS
 clear aS
 try simp only [qq, Ic.val, Ic.cs, aM, aI]
 obtain ⟨u3, hw, HQ, -, -, -⟩ := qZ (.cells #[.int .i64 2, .int .i64 0, .slice (some ⟨w.heap.size, 0, none⟩) 32 32, .slice none 0 0, .int .i64 cO.kind, .int .i64 cO.n, .slice cO.B cO.nb cO.cb, .slice cO.L cO.nl cO.cl] 117) sO u2
 have nP := aa hw
 clear hw
 refine bY 4 fun K hK => ?_
 go_simp
 rw [nP.out]
 have aS := bF FB HQ.out
 refine hK.out _ _ aS (fun hHeld => ?_)
 clear hK K hHeld
 have HO := aa (HO.out.kept HQ.out)
 have FL : Hid (u3.heap[(u2.heap.size)]? = some (.cells #[.int .i64 2, .int .i64 0, .slice (some ⟨w.heap.size, 0, none⟩) 32 32, .slice none 0 0, .int .i64 cO.kind, .int .i64 cO.n, .slice cO.B cO.nb cO.cb, .slice cO.L cO.nl cO.cl] 117)) := by rw [← nP.out]; exact (aa (heap_alloc_new u2 _))
 have lZ : Hid (w0.heap.size ≤ (u2.heap.size)) := (aa (by have := FB.out.size; omega))
 obtain ⟨gL, hg⟩ : ∃ x, u2.heap.size = x := ⟨_, rfl⟩
 rw [hg] at FL lZ ⊢
 clear hg
 have FB := aS
 clear aS nP HQ
 try simp only [qq, Ic.val, Ic.cs, aM, aI]
 refine bY 5 fun K hK => ?_
 go_simp
 refine (vG (some ⟨gL, 0, none⟩) 2 2 _).mono ?_
 rintro e u4 ⟨rfl, hq⟩
 have aS := bF FB hq
 refine hK.out _ _ aS (fun hHeld => ?_)
 clear hK K hHeld
 have HO := aa (HO.out.kept hq)
 have FL := aa (bG FL.out hq)
 have lZ := lZ
 have FB := aS
 clear aS
 try simp only [qq, Ic.val, Ic.cs, aM, aI]
 refine bY 6 fun K hK => ?_
 go_simp
 have hit : nV u4 (Bj h o) (Ic.mk 3 0 none 0 0 (some ⟨gL, 0, none⟩) 2 2) := vH (fun k => match k with | 0 => aI (some ⟨w.heap.size, 0, none⟩) 32 32 | _ => cO) FL.out rfl (fun k hk => by
   rcases (show k = 0 ∨ k = 1 by omega) with rfl | rfl <;> exact ⟨rfl, rfl, rfl, rfl⟩) (fun k hk => by
   rcases (show k = 0 ∨ k = 1 by omega) with rfl | rfl
   · exact jo (WS.out _ (aa FB.out)).out.sk hl.out
   · exact HO.out.it)
 refine (DJ uU (by decide) (by decide) (Bj h o) (Ic.mk 3 0 none 0 0 (some ⟨gL, 0, none⟩) 2 2) jQ HLEN _ (kD.out _ (aa FB.out)) (aa hit)).mono ?_
 rintro e u ⟨rfl, hq⟩
 clear hit
 rw [HRR.1]
 have aS := bF FB hq
 refine hK.out _ _ aS (fun hHeld => ?_)
 clear hK K hHeld
 have HO := aa (HO.out.kept hq)
 have FL := aa (bG FL.out hq)
 have lZ := lZ
 have FB := aS
 clear aS
 try simp only [qq, Ic.val, Ic.cs, aM, aI]
 have hHeld := FB
 have hT := trivial
 have ha0 := trivial
 have um := FB
 have pU := nT.out _ (aa FB.out)
 refine mR 7 fun K hK => ?_
 rw [show (if Region.wanted _ _ = true then _ else _ : Prop) = _ from if_pos rfl]
 refine wp_store_row 41 _ _ rfl (w.heap.size + 2) (arr .u8 RR) rfl rfl 41 _ pU.out (ay fI.out) (eB (l := dz 32) rfl fI.out) (dh _) ?_
 refine hK.out _ _ ?_
 clear hK K
 try simp only [qq]
 refine gH ?_
 have bV := ai (ag aj.out FB.out) (cs := arr .u8 RR) (Nat.le_add_right w.heap.size 2)
 have hrw := pU.out.setRow (l' := RR)
 go_wp2
 exact bodyPost_ret (v := .agg (arr .u8 RR)) (aD (p := 4) (ty := 41) rfl _ _ ⟨w.heap.size + 2, 0, none⟩ _ rfl (run_loadVar_row _ _ _ _ _ _ _ hrw Tryz.underlying41 rfl (ay fI.out))) rfl ⟨rfl, bV⟩
def hsL (hs : List (List Int)) (k : Nat) : List Int := hs.getD k []
def Hs (w : World) (K : Option Addr) (hs : List (List Int)) : Prop := ∀ k, k < hs.length → ∃ b o, K = some ⟨b, o, none⟩ ∧ (hsL hs k).length = 32 ∧ w.rangeAt b (o + k * 32) ((hsL hs k).map (Value.int .u8))
theorem eD {w w' : World} {b o : Nat} {cs : List Value} (h : w.rangeAt b o cs) (hb : Below w.heap.size w w') : w'.rangeAt b o cs := fun j v hj => cell_below (h j v hj) hb
theorem Hs.below {w w' : World} {K : Option Addr} {hs : List (List Int)} (h : Hs w K hs) (hb : Below w.heap.size w w') : Hs w' K hs := fun k hk => by
 obtain ⟨b, o, h1, h2, h3⟩ := h k hk
 exact ⟨b, o, h1, h2, eD h3 hb⟩
abbrev gI (O : Option Addr) (n c : Nat) (K : Option Addr) (m d : Nat) : Value := .agg #[.slice O n c, .slice K m d]
abbrev jh (O : Option Addr) (n c : Nat) (K : Option Addr) (m d : Nat) : Obj := .cells #[.slice O n c, .slice K m d] 52
def bL (os : List az) (k : Nat) : az := os.getD k dI
def hbL (os : List az) : Nat → List Int
 | 0 => dz 32
 | k + 1 => if (bL os k).key = 0 then hbL os k else JO (hbL os k) (bL os k)
def xP (os : List az) : Nat → Nat
 | 0 => 0
 | k + 1 => xP os k + (if (bL os k).key = 0 then 0 else 1)
def BM (os : List az) (hs : List (List Int)) (n k : Nat) : Bool := wV (bL os k) && ((bL os k).num == (k : Int)) && ((bL os k).key != 0 || decide (k + 1 = n)) && ((bL os k).key == 0 || (decide (k < hs.length) && (hsL hs k == hbL os (k + 1))))
def yA (os : List az) (hs : List (List Int)) (n : Nat) : Nat → Bool
 | 0 => true
 | k + 1 => yA os hs n k && BM os hs n k
def fP (os : List az) (hs : List (List Int)) : Bool := decide (os.length ≤ 100) && (yA os hs os.length os.length && (xP os os.length == hs.length))
theorem mI (os : List az) : ∀ k, (hbL os k).length = 32
 | 0 => by simp [hbL, dz]
 | k + 1 => by
  rw [hbL]; split
  · exact mI os k
  · exact Co _ _
theorem V5 (n : Nat) : aC (dz n) = true := by
 simp [aC, dz]
theorem vM (os : List az) : ∀ k, aC (hbL os k) = true
 | 0 => V5 32
 | k + 1 => by
  rw [hbL]; split
  · exact vM os k
  · exact WL _ _
theorem yZ {os : List az} {hs : List (List Int)} {n k : Nat} (h : yA os hs n k = false) : ∀ j, k ≤ j → yA os hs n j = false
  | 0, hm => by obtain rfl : k = 0 := by omega
                exact h
  | j + 1, hm => by
    by_cases e : k = j + 1
    · rw [← e]; exact h
    · rw [yA, yZ h j (by omega)]; rfl
theorem kM {os : List az} {hs : List (List Int)} {n k : Nat} (hn : os.length = n) (hk : k < n) (h : BM os hs n k = false) : fP os hs = false := by
 have h1 : yA os hs n n = false := yZ (k := k + 1) (by rw [yA, h, Bool.and_false]) n (by omega)
 rw [fP, hn, h1, Bool.false_and, Bool.and_false]
theorem gP {os : List az} {hs : List (List Int)} {n : Nat} : ∀ {k : Nat}, yA os hs n k = true → ∀ j, j < k → BM os hs n j = true
 | 0, _, j, hj => absurd hj (by omega)
 | k + 1, h, j, hj => by
  simp only [yA, Bool.and_eq_true] at h
  by_cases e : j = k
  · subst e; exact h.2
  · exact gP h.1 j (by omega)
theorem eP {os : List az} {hs : List (List Int)} {n k : Nat} (h : BM os hs n k = true) : wV (bL os k) = true ∧ (bL os k).num = (k : Int) ∧ ((bL os k).key = 0 → k + 1 = n) ∧ ((bL os k).key ≠ 0 → k < hs.length ∧ hsL hs k = hbL os (k + 1)) := by
 simp only [BM, Bool.and_eq_true, Bool.or_eq_true, beq_iff_eq, bne_iff_ne, decide_eq_true_eq] at h
 obtain ⟨⟨⟨h1, h2⟩, h3⟩, h4⟩ := h
 exact ⟨h1, h2, fun e => h3.resolve_left (fun h => h e), fun e => h4.resolve_left e⟩
theorem IX {os : List az} {hs : List (List Int)} {n : Nat} : ∀ {k : Nat}, yA os hs n k = true → k < n → xP os k = k
 | 0, _, _ => rfl
 | k + 1, h, hk => by
  have h1 := eP (gP h k (by omega))
  have h2 : (bL os k).key ≠ 0 := fun e => by have := h1.2.2.1 e; omega
  simp only [yA, Bool.and_eq_true] at h
  rw [xP, if_neg h2, IX h.1 (by omega)]
theorem rD {ps : List aV} : ∀ {n : Nat}, jJ ps n = true → ∀ k, k < n → sZ ps k = true
 | 0, _, k, hk => absurd hk (by omega)
 | n + 1, h, k, hk => by
  simp only [jJ, Bool.and_eq_true] at h
  by_cases e : k = n
  · subst e; exact h.2
  · exact rD h.1 k (by omega)
theorem jm {w : World} {o : az} (h : wV o = true) (hk : dW w o) : fH o := by
 simp only [wV, Jr, uO, Bool.and_eq_true, decide_eq_true_eq] at h
 obtain ⟨-, -, ⟨r0, r1⟩, ⟨a, z⟩, np, -, hp⟩ := h
 obtain ⟨k1, k2, ⟨k3, -⟩, -, -, k6⟩ := hk
 refine ⟨by omega, by omega, by omega, fun p hpm => ?_, r0, r1⟩
 obtain ⟨j, hj, rfl⟩ := List.getElem_of_mem hpm
 have h1 := rD hp j (by omega)
 obtain ⟨b, f, -, -, -, -, -, -, l1, l2, -, -⟩ := k6 j hj
 have e : o.ps.getD j aH = o.ps[j] := by rw [List.getD_eq_getElem?_getD, List.getElem?_eq_getElem hj]; rfl
 rw [e] at l1 l2
 simp only [sZ, uO, Bool.and_eq_true, decide_eq_true_eq, e] at h1
 omega
section
variable {P : Program} (w : World)
theorem uf : ∀ (xs ys : List Int), xs.length = ys.length → ((List.range xs.length).all fun i => xs.getD i 0 == ys.getD i 0) = (xs == ys)
 | [], [], _ => rfl
 | x :: xs, y :: ys, h => by
  have ih := uf xs ys (by simpa using h)
  rw [List.length_cons, List.range_succ_eq_map, List.all_cons, List.all_map]
  simp only [List.getD_cons_zero, Function.comp_def, List.getD_cons_succ, ih]
  simp [List.cons_beq_cons]
 | [], _ :: _, h => by simp at h
 | _ :: _, [], h => by simp at h
theorem EU {K : IntKind} {l : List Int} {i : Nat} (h : i < l.length) : (arr K l)[i]? = some (.int K (l.getD i 0)) := by
 simp [arr, List.getD, List.getElem?_eq_getElem h]
theorem o_ (d : Nat) (t e : TypeId) (n : Nat) (ht : P.underlying t = some (.array n e)) (he : P.underlying e = some (.int .u8)) (hsz : ∀ w, (sizeOf e).run P w = .ok 1 w)
  (xs ys : List Int) (hx : xs.length = n) (hy : ys.length = n) :
  (Op.equalIn (d + 2) t (.agg (arr .u8 xs)) (.agg (arr .u8 ys))).run P w = .ok (xs == ys) w := by
 rw [← uf xs ys (hx.trans hy.symm), hx, List.range_eq_range', Op.equalIn]
 simp only [Sem.run_bind, run_underlying ht, Result.andThen_ok, hsz, Std.Legacy.Range.forIn_eq_forIn_range', Std.Legacy.Range.size, Nat.sub_zero, Nat.add_sub_cancel, Nat.div_one]
 have hl : ∀ i ∈ List.range' 0 n 1, i < n := fun i hi => by simpa using (List.mem_range'_1.1 hi).2
 generalize List.range' 0 n 1 = l at hl ⊢
 induction l with
 | nil => simp
 | cons i l ih =>
  have hi : i < n := hl i (by simp)
  have px : (Go.part e (arr .u8 xs) (i * 1)).run P w = .ok (.int .u8 (xs.getD i 0)) w := by
   have h1 := EU (K := .u8) (l := xs) (i := i) (by omega)
   simp [Go.part, isAgg, run_underlying he, h1]
  have py : (Go.part e (arr .u8 ys) (i * 1)).run P w = .ok (.int .u8 (ys.getD i 0)) w := by
   have h1 := EU (K := .u8) (l := ys) (i := i) (by omega)
   simp [Go.part, isAgg, run_underlying he, h1]
  have pe : (Op.equalIn (d + 1) e (.int .u8 (xs.getD i 0)) (.int .u8 (ys.getD i 0))).run P w = .ok (xs.getD i 0 == ys.getD i 0) w := run_equalIn_int w d e .u8 .u8 _ _ he
  simp only [List.forIn_cons, Sem.run_bind, px, py, pe, Result.andThen_ok, List.all_cons]
  cases hb : (xs.getD i 0 == ys.getD i 0)
  · simp
  ·
   simp only [Bool.not_true, Bool.false_eq_true, if_false, Sem.run_pure, Result.andThen_ok, Bool.true_and]
   exact ih fun j hj => hl j (by simp [hj])
theorem j_ {S : World → Prop} {o : Oper} {a : Act} (ty : TypeId) (x : Operand) (ho : o.op = .load ty x)
  (b f : Nat) (hx : a.eval x = .pointer (some ⟨b, f, none⟩)) (cs : List Value) (d : TypeDesc) (hS : ∀ w, S w → w.rangeAt b f cs)
  (hu : P.underlying ty = some d) (hd : d.isRow = true) (hi : (P.info? ty).map (·.size) = some cs.length) :
  ∀ w, S w → (execOp a.eval o).run P w = .ok (.value (.agg cs.toArray)) w := fun w hw => by
 unfold execOp
 simp only [ho, hx, Instr.loadAt, Instr.sureAddr, Sem.run_bind, Sem.run_pure, Result.andThen_ok, run_loadVar_mid w b f ty cs d (hS w hw) hu hd hi]
end
theorem Rh (w : World) : (sizeOf 5).run Tryz.prog w = .ok 1 w := by kernel_rfl
theorem Ee : Tryz.prog.eqGuardType Tryz.prog.depth 41 = false := by kernel_rfl
theorem h_ {S : World → Prop} {o : Oper} {a : Act} (x y : Operand) (t : TypeId) (ho : o.op = .binOp .neq 41 x y t)
  (h h' : List Int) (hl : h.length = 32) (hl' : h'.length = 32) (hx : a.eval x = .agg (arr .u8 h)) (hy : a.eval y = .agg (arr .u8 h')) (r : Bool) (hr : (!(h == h')) = r) :
  ∀ w, S w → (execOp a.eval o).run Tryz.prog w = .ok (.value (.bool r)) w := fun w _ => by
 unfold execOp
 simp only [ho, hx, hy, Sem.run_bind, run_eqGuard_agg (P := Tryz.prog) w .neq 41 x y _ _ Ee, run_neq_struct, o_ (P := Tryz.prog) w 9998 41 5 32 (by kernel_rfl) (by kernel_rfl) Rh h h' hl hl', hr, Result.andThen_ok]
 rfl
theorem lS {l : List Int} (h : l.length = 32) : (Tryz.prog.info? 41).map (·.size) = some (l.map (Value.int .u8)).length := Rp.trans (congrArg some (by rw [List.length_map, h]))
theorem Sq (O : Option Addr) (n c : Nat) (K : Option Addr) (m d : Nat) (h : ¬ n ≤ 100) (hb1 : n ≤ 1000000) (w : World) :
  Calls Tryz.prog 66 #[gI O n c K m d] w (Rt w (.bool false)) := by
 have dn : decide ((100 : Int) < (n : Int)) = true := by simp; omega
 obtain ⟨w0, HW, aj, kC⟩ := st1 (jh O n c K m d) qA w
 have ah := bP w0
 go_in
 go_upto_region 1 with (fail)
 rw [HW.out]
 have zc := kC.out _ ah
 go_wp2
 go_ret
 exact ⟨rfl, gy aj ah⟩
theorem Sn (O : Option Addr) (os : List az) (n c : Nat) (K : Option Addr) (hs : List (List Int)) (m d : Nat) (hn : Hid (os.length = n)) (hm : Hid (hs.length = m)) (hI : ∀ k, k < n → dJ (bL os k)) (hb1 : n ≤ 1000000) (hb2 : m ≤ 1000000) (UC : n ≤ 100) (r : Bool) (hr : Kp (fP os hs = r)) (w : World) (hv : Hid (bz w)) (hO : Hid (Os w O os)) (hK : Hid (Hs w K hs)) :
  Calls Tryz.prog 66 #[gI O n c K m d] w (Rt w (.bool r)) := by
 have dn : decide ((100 : Int) < (n : Int)) = false := by simp; omega
 obtain ⟨w0, HW, aj, kC⟩ := st1 (jh O n c K m d) qA w
 have kD := o6 aj hv
 have Dm := fq (fun u => Os u O os) aj hO (·.below)
 have IE := fq (fun u => Hs u K hs) aj hK (·.below)
 have ah := bP w0
 clear hv hO hK
 go_in
 go_upto_region 1 with (fail)
 rw [HW.out]
 have zc := kC.out _ ah
 have V3 := ah
 have hq0 := af w0 (.cells z32 41)
 have ax := bF ah hq0
 clear hq0
 have tJ := kC.out _ ax
 go_wp2
 clear zc tJ
 obtain ⟨W, hW⟩ : ∃ x, w0.alloc (.cells z32 41) = x := ⟨_, rfl⟩
 rw [hW] at ax
 have bT := ax
 obtain ⟨B, hB⟩ : ∃ x, w0.heap.size = x := ⟨_, rfl⟩
 have xW : Hid (W.heap.size = B + 1 ∧ w0.heap.size ≤ B) := aa ⟨by rw [← hW, ← hB]; simp, by rw [← hB]; exact Nat.le_refl _⟩
 have HK0 : Hid (bH .u8 41 W B (dz 32)) := aa (by rw [← hW, ← hB, jd]; exact bH.new _ _)
 rw [hW, hB]
 have OC := aa hW
 have Hf := aa hB
 clear hW hB V3
 go_loopw [4, 14] (fun ce i u => ∃ (k : Nat) (h : List Int), k ≤ n ∧ i = .int .i64 k ∧ ce = .int .i64 (xP os k) ∧ Hid (yA os hs n k = true) ∧ Kp (hbL os k = h) ∧ Hid (bH .u8 41 u B h) ∧ Hid (Below B W u)) (fun _ i _ => n - (intOf i).toNat)
 case atStart => exact ⟨0, dz 32, by omega, rfl, rfl, aa rfl, ⟨rfl⟩, HK0, aa (Below.refl _ _)⟩
 case round =>
  obtain ⟨k, h, hk, rfl, rfl, HST, AP, Rc, aF⟩ := hrel
  have iK : Hid (Below w0.heap.size w0 wr) := aa (bT.out.trans (aF.out.mono xW.out.2))
  have HL : Hid (h.length = 32) := aa (by rw [← AP.1]; exact mI _ _)
  have HBY : Hid (aC h = true) := aa (by rw [← AP.1]; exact vM _ _)
  by_cases hlt : k < n
  ·
   have hkl : k < os.length := by rw [hn.out]; exact hlt
   obtain ⟨b, f, hA, h9, hok⟩ := (Dm.out _ iK).out k hkl
   subst hA
   have hoi := hI k hlt
   have hcl : xP os k = k := IX HST.out hlt
   rw [hcl]
   obtain ⟨o, ho⟩ : ∃ o, os.getD k dI = o := ⟨_, rfl⟩
   have mY : Hid (bL os k = o) := aa ho
   rw [ho] at h9 hok
   have MO : dJ o := by rw [← ho]; exact hoi
   have Km := aa MO
   have lW := aa hok
   obtain ⟨j0, j1, j2, j3, j4, j5, j6, j7, j8⟩ := h9
   have dw : IntKind.i64.wrap ((n : Int) - 1) = (n : Int) - 1 := IntWalk.i64_in _ (by omega)
   have XN : wrap64 ((n : Int) - 1) = (n : Int) - 1 := IntWalk.wrap64_in _ (by omega)
   have qH := aa hcl
   clear ho hoi MO hok hkl hcl
   have d_ := bP wr
   have WR := qO (w := wr) (fun u => dW u o) lW.out (·.below)
   have TS := qO (w := wr) (fun u => bH .u8 41 u B h) Rc.out (·.below)
   have zc := kC.out _ iK
   obtain ⟨w2, hw, oU, C8, -, kS⟩ := qZ (lY o) Ah wr
   have aK := jY iK oU
   have dm := jY d_ oU
   have bB := bP w2
   clear oU
   have tJ := kC.out _ aK
   have oJ := kS.out _ bB
   go_wp2_with fail
   clear zc tJ oJ hw
   have zc := kC.out _ aK
   have ng := kS.out _ bB
   clear j0 j1 j2 j3 j4 j5 j6 j7 j8
   obtain ⟨ob, mW⟩ : ∃ x, wV o = x := ⟨_, rfl⟩
   have Ht := aa mW
   clear mW
   go_wp2_with fail
   clear zc ng
   refine Nw aK dm bB (JJ o ob Ht _ (WR.out _ dm)) fun w3 aN eT gG => ?_
   have zc := kC.out _ aN
   have ng := kS.out _ gG
   cases ob with
   | true =>
    have mW := Ht.out
    by_cases iw : o.num = (k : Int)
    ·
     have Fq : (o.num != (k : Int)) = false := by simpa using iw
     by_cases hkey : o.key = 0
     ·
      have dk1 : (o.key == 0) = true := by simpa using hkey
      by_cases hlast : k + 1 = n
      ·
       have dl1 : decide ((k : Int) < (n : Int) - 1) = false := by simp; omega
       have HS2 : Hid (yA os hs n (k + 1) = true) := aa (by rw [yA, HST.out, BM, mY.out]; simp [mW, hkey, iw, hlast])
       have Om : Kp (hbL os (k + 1) = h) := ⟨by rw [hbL, mY.out, if_pos hkey]; exact AP.1⟩
       have VA : Hid (xP os (k + 1) = k) := aa (by simp [xP, mY.out, hkey, qH.out])
       clear mW hkey iw hlast
       have Ze : Hid (Below B W w3) := aa (aF.out.trans (eT.out.mono (by have := aF.out.size; have := xW.out.1; omega)))
       have HKn : Hid (bH .u8 41 w3 B h) := (TS.out _ eT)
       go_wp2
       go_roundw
       case rel => exact ⟨k + 1, h, by omega, by go_num, by rw [VA.out], HS2, Om, HKn, Ze⟩
       case measure => simp [intOf]; omega
      ·
       have dl1 : decide ((k : Int) < (n : Int) - 1) = true := by simp; omega
       have Uk : k + 1 ≠ n := hlast
       obtain rfl : r = false := hr.1.symm.trans (kM hn.out hlt (by rw [BM, mY.out]; simp [mW, hkey, Uk]))
       clear mW hkey iw hlast Uk
       go_wp2
       go_ret
       exact ⟨rfl, gy aj aN⟩
     ·
      have dk1 : (o.key == 0) = false := by simpa using hkey
      obtain ⟨RR, hRR⟩ : ∃ x, JO h o = x := ⟨_, rfl⟩
      have HRR : Kp (JO h o = RR) := ⟨hRR⟩
      have fI : Hid (RR.length = 32) := aa (by rw [← hRR]; exact Co _ _)
      have Om : Kp (hbL os (k + 1) = RR) := ⟨by rw [hbL, mY.out, if_neg hkey, AP.1]; exact hRR⟩
      have Vr := aa hkey
      have Vk := aa iw
      clear mW hkey iw hRR
      have AQ := (TS.out _ eT)
      go_wp2_with ((with_reducible show wpList _ _ _ (⟨some 44, _, _, _, _, _⟩ :: _) _ _); refine wpList_load_row rfl 41 _ rfl B rfl _ _ _ _ AQ.out Tryz.underlying41 rfl (ay HL.out) ?_)
      refine (Mi h HL HBY o Km (jm Ht.out lW.out) _ (kD.out _ aN) (WR.out _ eT)).mono ?_
      rintro e w4 ⟨rfl, hb0⟩
      rw [HRR.1]
      have dQ := bF aN hb0
      have lC := bF eT hb0
      have mQ := bF gG hb0
      clear zc ng hb0
      have zc := kC.out _ dQ
      have ng := kS.out _ mQ
      have Ab := (TS.out _ lC)
      obtain ⟨wz, hwz⟩ : ∃ x, w4.setRow B (arr .u8 RR) = x := ⟨_, rfl⟩
      have uJ : Hid (Below B W wz) := aa (by rw [← hwz]; exact ai (aF.out.trans (lC.out.mono (by have := aF.out.size; have := xW.out.1; omega))) (Nat.le_refl _))
      have z_ : Hid (Below w0.heap.size w0 wz) := aa (bT.out.trans (uJ.out.mono xW.out.2))
      have H8 : Hid (bH .u8 41 wz B RR) := aa (by rw [← hwz]; exact Ab.out.setRow)
      go_upto_region 12 with ((with_reducible show wpList _ _ _ (⟨none, _, _, _, _, _⟩ :: _) _ _); refine wpList_store_row rfl 41 _ _ rfl B (arr .u8 RR) rfl rfl _ _ Ab.out (ay fI.out) (eB HL.out fI.out) (dh _) ?_)
      clear zc ng
      rw [hwz]
      clear hwz AQ Ab
      by_cases hkm : m ≤ k
      ·
       have mW := Ht.out
       have hkey := Vr.out
       have iw := Vk.out
       have XQ : decide ((m : Int) ≤ (k : Int)) = true := by simp; omega
       obtain rfl : r = false := hr.1.symm.trans (kM hn.out hlt (by rw [BM, mY.out]; simp [mW, hkey, iw, hm.out]; omega))
       clear mW hkey iw
       have jR := bP wz
       have hO := aa (fun (u : World) (h : Hid (Below w0.heap.size w0 u ∧ Below wz.heap.size wz u)) => kC.out u (aa h.out.1))
       refine wU (fun u => Below w0.heap.size w0 u ∧ Below wz.heap.size wz u) [] (bb2 (aa ⟨z_.out, jR.out⟩) ((Below.refl _ _).drew)) (fun hHeld => ?_)
       refine aU 0 1 2 3 ?_
       refine aL 4 ?_
       refine aL 5 ?_
       refine ek 6 7 8 9 ?_
       refine jD 10 ?_
       refine jD 11 ?_
       refine jD 12 ?_
       refine aL 13 ?_
       refine gH ?_
       clear hO
       have jB := (aa hHeld.out.1)
       have kJ := (aa hHeld.out.2)
       clear hHeld
       have zc := kC.out _ jB
       have Al : Hid (Below B W wz.drew) := aa (uJ.out.trans (kJ.out.mono (by have := uJ.out.size; have := xW.out.1; omega)))
       go_wp2
       go_ret
       exact ⟨rfl, gy aj jB⟩
      ·
       cases hrq : (hsL hs k == JO h o) with
       | true =>
        have mW := Ht.out
        have hkey := Vr.out
        have iw := Vk.out
        have XQ : decide ((m : Int) ≤ (k : Int)) = false := by simp; omega
        have Ul : k < m := by omega
        obtain ⟨b2, f2, hA2, hl2, hrg2⟩ := (IE.out _ z_).out k (by rw [hm.out]; omega)
        subst hA2
        obtain ⟨Cx, hhk⟩ : ∃ x, hsL hs k = x := ⟨_, rfl⟩
        rw [hhk] at hl2 hrg2
        have HL2 := aa hl2
        have Vu := aa hrg2
        have Vv := aa hhk
        rw [hhk, HRR.1] at hrq
        have hbq : (!(Cx == RR)) = false := by rw [hrq]; rfl
        clear hl2 hrg2 hhk
        have HS2 : Hid (yA os hs n (k + 1) = true) := aa (by rw [yA, HST.out, BM, mY.out, Om.1, Vv.out]; simp [mW, hm.out, hrq, hkey, iw]; omega)
        have VA : Hid (xP os (k + 1) = k + 1) := aa (by simp [xP, mY.out, hkey, qH.out])
        clear mW hkey iw hrq
        have jR := bP wz
        have hO := aa (fun (u : World) (h : Hid (Below w0.heap.size w0 u ∧ Below wz.heap.size wz u)) => kC.out u (aa h.out.1))
        refine wU (fun u => Below w0.heap.size w0 u ∧ Below wz.heap.size wz u) [] (bb2 (aa ⟨z_.out, jR.out⟩) ((Below.refl _ _).drew)) (fun hHeld => ?_)
        refine aU 0 1 2 3 ?_
        refine aU 4 5 6 7 ?_
        refine aL 8 ?_
        refine aL 9 ?_
        refine Ad 10 (.agg (arr .u8 Cx)) rfl (j_ 41 _ rfl b2 (f2 + k * 32) rfl (Cx.map (Value.int .u8)) _ (fun _ hq => eD Vu.out hq.out.2) Tryz.underlying41 rfl (lS HL2.out)) ?_
        refine Ad 11 (.agg (arr .u8 RR)) rfl (fZ 41 _ rfl B rfl _ _ _ _ (fun _ hq => H8.out.below hq.out.2) Tryz.underlying41 rfl (ay fI.out)) ?_
        refine Ad 12 (.bool false) rfl (h_ _ _ _ rfl Cx RR HL2.out fI.out rfl rfl _ hbq) ?_
        refine aL 13 ?_
        refine gH ?_
        clear hO
        have jB := (aa hHeld.out.1)
        have kJ := (aa hHeld.out.2)
        clear hHeld
        have zc := kC.out _ jB
        have Al : Hid (Below B W wz.drew) := aa (uJ.out.trans (kJ.out.mono (by have := uJ.out.size; have := xW.out.1; omega)))
        have Vs : Hid (bH .u8 41 wz.drew B RR) := aa (H8.out.below kJ.out)
        go_wp2
        go_roundw
        case rel => exact ⟨k + 1, RR, by omega, by go_num, by rw [VA.out]; go_num, HS2, Om, Vs, Al⟩
        case measure => simp [intOf]; omega
       | false =>
        have mW := Ht.out
        have hkey := Vr.out
        have iw := Vk.out
        have XQ : decide ((m : Int) ≤ (k : Int)) = false := by simp; omega
        have Ul : k < m := by omega
        obtain ⟨b2, f2, hA2, hl2, hrg2⟩ := (IE.out _ z_).out k (by rw [hm.out]; omega)
        subst hA2
        obtain ⟨Cx, hhk⟩ : ∃ x, hsL hs k = x := ⟨_, rfl⟩
        rw [hhk] at hl2 hrg2
        have HL2 := aa hl2
        have Vu := aa hrg2
        have Vv := aa hhk
        rw [hhk, HRR.1] at hrq
        have hbq : (!(Cx == RR)) = true := by rw [hrq]; rfl
        clear hl2 hrg2 hhk
        obtain rfl : r = false := hr.1.symm.trans (kM hn.out hlt (by rw [BM, mY.out]; simp [mW, hkey, iw, hm.out, Vv.out, Om.1, hrq]))
        clear mW hkey iw hrq
        have jR := bP wz
        have hO := aa (fun (u : World) (h : Hid (Below w0.heap.size w0 u ∧ Below wz.heap.size wz u)) => kC.out u (aa h.out.1))
        refine wU (fun u => Below w0.heap.size w0 u ∧ Below wz.heap.size wz u) [] (bb2 (aa ⟨z_.out, jR.out⟩) ((Below.refl _ _).drew)) (fun hHeld => ?_)
        refine aU 0 1 2 3 ?_
        refine aU 4 5 6 7 ?_
        refine aL 8 ?_
        refine aL 9 ?_
        refine Ad 10 (.agg (arr .u8 Cx)) rfl (j_ 41 _ rfl b2 (f2 + k * 32) rfl (Cx.map (Value.int .u8)) _ (fun _ hq => eD Vu.out hq.out.2) Tryz.underlying41 rfl (lS HL2.out)) ?_
        refine Ad 11 (.agg (arr .u8 RR)) rfl (fZ 41 _ rfl B rfl _ _ _ _ (fun _ hq => H8.out.below hq.out.2) Tryz.underlying41 rfl (ay fI.out)) ?_
        refine Ad 12 (.bool true) rfl (h_ _ _ _ rfl Cx RR HL2.out fI.out rfl rfl _ hbq) ?_
        refine aL 13 ?_
        refine gH ?_
        clear hO
        have jB := (aa hHeld.out.1)
        have kJ := (aa hHeld.out.2)
        clear hHeld
        have zc := kC.out _ jB
        have Al : Hid (Below B W wz.drew) := aa (uJ.out.trans (kJ.out.mono (by have := uJ.out.size; have := xW.out.1; omega)))
        go_wp2
        go_ret
        exact ⟨rfl, gy aj jB⟩
    ·
     have Fq : (o.num != (k : Int)) = true := by simpa using iw
     obtain rfl : r = false := hr.1.symm.trans (kM hn.out hlt (by rw [BM, mY.out]; simp [mW, iw]))
     clear mW iw
     go_wp2
     go_ret
     exact ⟨rfl, gy aj aN⟩
   | false =>
    have mW := Ht.out
    obtain rfl : r = false := hr.1.symm.trans (kM hn.out hlt (by rw [BM, mY.out]; simp [mW]))
    clear mW
    go_wp2
    go_ret
    exact ⟨rfl, gy aj aN⟩
  ·
   obtain rfl : k = n := by omega
   have hre : ((((xP os k : Nat) : Int)) == ((m : Nat) : Int)) = r := by
    rw [← hr.1, fP, hn.out, HST.out, hm.out, decide_eq_true UC]; simp only [Bool.true_and]
    rw [Bool.eq_iff_iff]; simp; omega
   have MJ : ((((m : Nat) : Int)) == ((xP os k : Nat) : Int)) = r := by rw [← hre, BEq.comm]
   obtain ⟨q, hq⟩ : ∃ q, xP os k = q := ⟨_, rfl⟩
   rw [hq] at hre MJ ⊢
   clear hq
   have zc := kC.out _ iK
   have bV := ag aj.out iK.out
   go_wp2
   go_ret
   exact ⟨by first | rfl | rw [hre] | rw [MJ], bV⟩
theorem jg (O : Option Addr) (os : List az) (n c : Nat) (K : Option Addr) (hs : List (List Int)) (m d : Nat) (hn : Hid (os.length = n)) (hm : Hid (hs.length = m)) (hI : ∀ k, k < n → dJ (bL os k)) (hb1 : n ≤ 1000000) (hb2 : m ≤ 1000000) (r : Bool) (hr : Kp (fP os hs = r)) (w : World) (hv : Hid (bz w)) (hO : Hid (Os w O os)) (hK : Hid (Hs w K hs)) :
  Calls Tryz.prog 66 #[gI O n c K m d] w (Rt w (.bool r)) := by
 by_cases h : n ≤ 100
 · exact Sn O os n c K hs m d hn hm hI hb1 hb2 h r hr w hv hO hK
 ·
  obtain rfl : r = false := hr.1.symm.trans (by rw [fP, hn.out, decide_eq_false h]; rfl)
  exact Sq O n c K m d h hb1 w
end Go.Proofs.YtchcllcbknfikaaGreatDoor
namespace Go.Proofs.YtchcllcbknfikaaGreatDoor
open Go.ChangeShapes Go.WideShapes Go.ChangeAt Go.RowKit si
theorem EO : Tryz.prog.cellsOf 104 = 9 := by kernel_rfl
theorem NC : Tryz.prog.cellsOf 52 = 2 := by kernel_rfl
theorem NF : Tryz.prog.cellsOf 9 = 1 := by kernel_rfl
theorem NG : Tryz.prog.cellsOf 102 = 1 := by kernel_rfl
theorem NH : Tryz.prog.cellsOf 49 = 1 := by kernel_rfl
theorem NI : Tryz.prog.cellsOf 50 = 1 := by kernel_rfl
section
variable {H : Type} {enc : TypeId × Value → H} {w : World} {base : Nat} {held : Bool}
theorem rR {x : Int} (h : (Lit.int .i64 x).wf = true) : i64 x := by
 simp [Lit.wf, IntKind.min, IntKind.max, IntKind.signed, IntKind.bits] at h
 unfold i64; omega
theorem Be {n : Nat} {cs : List Value} {x : DataW H × List MemPlace} (h : DataW.trod enc Tryz.prog w base (fun _ => true) held n 24 cs = some x) :
  ∃ R : Row, cs = [R.val] ∧ zT w R ∧ ∀ x ∈ R.xs, i64 x := by
 rcases open_ints Tryz.underlying24 Tryz.underlying3 lU h with ⟨rfl, _⟩ | ⟨a, len, cap, zs, rfl, _, hlc, _, hz, _, hcell, hw⟩
 · exact ⟨di, rfl, ⟨rfl, fun k hk => absurd hk (by simp)⟩, fun x hx => absurd hx (by simp)⟩
 ·
  simp at hz
  refine ⟨⟨some a, len, cap, zs.take len⟩, rfl, ⟨by show (zs.take len).length = len; rw [List.length_take]; omega, fun k hk => ?_⟩, fun x hx => rR (hw x (List.mem_of_mem_take hx))⟩
  dsimp only at hk ⊢
  rw [List.length_take] at hk
  obtain ⟨b, off, rfl, hc⟩ := ints_at hcell (by omega)
  refine ⟨b, off, rfl, ?_⟩
  rw [hc k (by omega), List.getD_eq_getElem?_getD, List.getD_eq_getElem?_getD, List.getElem?_take_of_lt (by omega)]
theorem qN {n : Nat} {cs : List Value} {x : DataW H × List MemPlace} (h : DataW.trod enc Tryz.prog w base (fun _ => true) held n 54 cs = some x) :
  ∃ (A : Option Addr) (na ca : Nat) (al : List Int) (C : Int) (Z : Option Addr) (nz cz : Nat) (zs : List Int), cs = [.slice A na ca, .int .i64 C, .slice Z nz cz] ∧ al.length = na ∧ zs.length = nz ∧ Sl w A al ∧ Sl w Z zs ∧ (∀ x ∈ al, i64 x) ∧ (∀ x ∈ zs, i64 x) ∧ i64 C := by
 obtain ⟨xs, m, rfl, _, hl, hxl, hf⟩ := DataW.trod_struct Tryz.underlying54 h
 rw [zP] at hl
 match cs, hl with
 | [c0, c1, c2], _ =>
  have f0 : DataW.trod enc Tryz.prog w base (fun _ => true) held m 24 (([c0, c1, c2].drop 0).take (Tryz.prog.cellsOf 24)) = xs[0]? := hf 0 _ rfl
  have f1 : DataW.trod enc Tryz.prog w base (fun _ => true) held m 3 (([c0, c1, c2].drop 1).take (Tryz.prog.cellsOf 3)) = xs[1]? := hf 1 _ rfl
  have f2 : DataW.trod enc Tryz.prog w base (fun _ => true) held m 24 (([c0, c1, c2].drop 2).take (Tryz.prog.cellsOf 24)) = xs[2]? := hf 2 _ rfl
  rw [EN] at f0 f2
  rw [lU] at f1
  have hl3 : xs.length = 3 := hxl
  match xs, hl3 with
  | [x0, x1, x2], _ =>
   obtain ⟨RA, hA, oA, bA⟩ := Be f0
   obtain ⟨C, hC, _, wC⟩ := DataW.trod_int Tryz.underlying3 f1
   obtain ⟨RZ, hZ, oZ, bZ⟩ := Be f2
   simp at hA hC hZ
   subst hA; subst hC; subst hZ
   exact ⟨RA.p, RA.n, RA.c, RA.xs, C, RZ.p, RZ.n, RZ.c, RZ.xs, rfl, oA.1, oZ.1, oA.2, oZ.2, bA, bZ, rR wC⟩
theorem pE {n : Nat} {cs : List Value} {x : DataW H × List MemPlace} (h : DataW.trod enc Tryz.prog w base (fun _ => true) held n 56 cs = some x) :
  ∃ p : aV, cs = [.int .i64 p.ix, .int .i64 p.v, .slice p.A p.na p.ca, .int .i64 p.C, .slice p.Z p.nz p.cz] ∧ vV w p ∧ ug p := by
 obtain ⟨xs, m, rfl, _, hl, hxl, hf⟩ := DataW.trod_struct Tryz.underlying56 h
 rw [BC] at hl
 match cs, hl with
 | [c0, c1, c2, c3, c4], _ =>
  have f0 : DataW.trod enc Tryz.prog w base (fun _ => true) held m 3 (([c0, c1, c2, c3, c4].drop 0).take (Tryz.prog.cellsOf 3)) = xs[0]? := hf 0 _ rfl
  have f1 : DataW.trod enc Tryz.prog w base (fun _ => true) held m 3 (([c0, c1, c2, c3, c4].drop 1).take (Tryz.prog.cellsOf 3)) = xs[1]? := hf 1 _ rfl
  have f2 : DataW.trod enc Tryz.prog w base (fun _ => true) held m 54 (([c0, c1, c2, c3, c4].drop 2).take (Tryz.prog.cellsOf 54)) = xs[2]? := hf 2 _ rfl
  rw [lU] at f0 f1
  rw [zP] at f2
  have hl3 : xs.length = 3 := hxl
  match xs, hl3 with
  | [x0, x1, x2], _ =>
   obtain ⟨E1, hE1, _, w1⟩ := DataW.trod_int Tryz.underlying3 f0
   obtain ⟨E2, hE2, _, w2⟩ := DataW.trod_int Tryz.underlying3 f1
   obtain ⟨A, na, ca, al, C, Z, nz, cz, zs, hP, h1, h2, h3, h4, h5, h6, h7⟩ := qN f2
   simp at hE1 hE2 hP
   obtain ⟨rfl, rfl, rfl⟩ := hP
   subst hE1; subst hE2
   exact ⟨⟨E1, E2, A, na, ca, al, C, Z, nz, cz, zs⟩, rfl, ⟨h1, h2, h3, h4⟩, rR w1, rR w2, h7, h5, h6⟩
theorem wY {n : Nat} {cs : List Value} {x : DataW H × List MemPlace} (h : DataW.trod enc Tryz.prog w base (fun _ => true) held n 102 cs = some x) :
  ∃ (L : Option Addr) (n c : Nat) (l : List aV), cs = [.slice L n c] ∧ l.length = n ∧ n ≤ c ∧ Pa w L l ∧ ∀ p ∈ l, ug p := by
 rcases Go.Deep.open_slice Tryz.underlying102 h with ⟨h0, _⟩ | ⟨a', len, cap, m, n', D, Pl, h0, _, hlc, _, hm, _, hx⟩
 · exact ⟨none, 0, 0, [], h0, rfl, Nat.le_refl _, fun k hk => absurd hk (by simp), fun p hp => absurd hp (by simp)⟩
 ·
  simp at hm
  haveI : Inhabited aV := ⟨aH⟩
  obtain ⟨f, hf⟩ := Go.Deep.choose_lt (α := aV) (n := len) (p := fun i p => (∀ r, r < 5 → w.cell? ((a'.add (i * 5)).add r) = (paC p)[r]?) ∧ vV w p ∧ ug p) (fun i hi => by
   obtain ⟨cs', h1, h2⟩ := hx i (by omega)
   rw [BC] at h1
   obtain ⟨_, hlen, hcell⟩ := World.cells?_some h1
   obtain ⟨p, hp, hok, hr⟩ := pE h2
   exact ⟨p, fun r hr => by rw [hcell r hr, hp]; rfl, hok, hr⟩)
  have e : ∀ k, k < len → ((List.range len).map f).getD k aH = f k := fun k hk => by
   rw [List.getD_eq_getElem?_getD, List.getElem?_eq_getElem (by simpa using hk)]
   simp
  refine ⟨some a', len, cap, (List.range len).map f, h0, by simp, hlc, fun k hk => ?_, fun p hp => by
   obtain ⟨k, hk, rfl⟩ := List.mem_map.1 hp
   exact (hf k (by simpa using hk)).2.2⟩
  have hk' : k < len := by simpa using hk
  rw [e k hk']
  obtain ⟨h1, h2, h3⟩ := hf k hk'
  obtain ⟨b, off, spot⟩ := a'
  have hspot : spot = none := by
   have := World.cell?_spot ((hf 0 (by omega)).1 0 (by omega))
   rw [Nat.zero_mul] at this
   have h9 : (((⟨b, off, spot⟩ : Addr).add 0).add 0) = ⟨b, off, spot⟩ := by unfold Addr.add; simp
   rw [h9] at this
   exact this
  subst hspot
  have key : ∀ r, r < 5 → w.cell? ⟨b, off + k * 5 + r, none⟩ = (paC (f k))[r]? := fun r hr => by
   have := h1 r hr
   rw [sS _ _ _ _ rfl, sS _ _ _ _ rfl] at this
   exact this
  exact ⟨b, off, rfl, key 0 (by omega), key 1 (by omega), key 2 (by omega), key 3 (by omega), key 4 (by omega), h2⟩
abbrev Tz (o : az) : List Value := [.int .i64 o.num, .string o.rs, .int .i64 o.E1, .int .i64 o.E2, .slice o.A o.na o.ca, .int .i64 o.C, .slice o.Z o.nz o.cz, .slice o.L o.np o.cp, .int .i64 o.key]
theorem wZ {n : Nat} {cs : List Value} {x : DataW H × List MemPlace} (h : DataW.trod enc Tryz.prog w base (fun _ => true) held n 104 cs = some x) :
  ∃ o : az, cs = Tz o ∧ dW w o ∧ dJ o := by
 obtain ⟨xs, m, rfl, _, hl, hxl, hf⟩ := DataW.trod_struct Tryz.underlying104 h
 rw [EO] at hl
 match cs, hl with
 | [c0, c1, c2, c3, c4, c5, c6, c7, c8], _ =>
  have f0 : DataW.trod enc Tryz.prog w base (fun _ => true) held m 3 (([c0, c1, c2, c3, c4, c5, c6, c7, c8].drop 0).take (Tryz.prog.cellsOf 3)) = xs[0]? := hf 0 _ rfl
  have f1 : DataW.trod enc Tryz.prog w base (fun _ => true) held m 9 (([c0, c1, c2, c3, c4, c5, c6, c7, c8].drop 1).take (Tryz.prog.cellsOf 9)) = xs[1]? := hf 1 _ rfl
  have f2 : DataW.trod enc Tryz.prog w base (fun _ => true) held m 99 (([c0, c1, c2, c3, c4, c5, c6, c7, c8].drop 2).take (Tryz.prog.cellsOf 99)) = xs[2]? := hf 2 _ rfl
  have f3 : DataW.trod enc Tryz.prog w base (fun _ => true) held m 102 (([c0, c1, c2, c3, c4, c5, c6, c7, c8].drop 7).take (Tryz.prog.cellsOf 102)) = xs[3]? := hf 3 _ rfl
  have f4 : DataW.trod enc Tryz.prog w base (fun _ => true) held m 3 (([c0, c1, c2, c3, c4, c5, c6, c7, c8].drop 8).take (Tryz.prog.cellsOf 3)) = xs[4]? := hf 4 _ rfl
  rw [lU] at f0 f4
  rw [NF] at f1
  rw [NJ] at f2
  rw [NG] at f3
  have hl5 : xs.length = 5 := hxl
  match xs, hl5 with
  | [x0, x1, x2, x3, x4], _ =>
   obtain ⟨N, hN, _, wN⟩ := DataW.trod_int Tryz.underlying3 f0
   obtain ⟨s, hs, _, _⟩ := DataW.trod_string Tryz.underlying9 f1
   obtain ⟨ys, m2, _, _, _, hyl, hg⟩ := DataW.trod_struct Tryz.underlying99 f2
   have g0 : DataW.trod enc Tryz.prog w base (fun _ => true) held m2 3 (([c2, c3, c4, c5, c6].drop 0).take (Tryz.prog.cellsOf 3)) = ys[0]? := hg 0 _ rfl
   have g1 : DataW.trod enc Tryz.prog w base (fun _ => true) held m2 3 (([c2, c3, c4, c5, c6].drop 1).take (Tryz.prog.cellsOf 3)) = ys[1]? := hg 1 _ rfl
   have g2 : DataW.trod enc Tryz.prog w base (fun _ => true) held m2 54 (([c2, c3, c4, c5, c6].drop 2).take (Tryz.prog.cellsOf 54)) = ys[2]? := hg 2 _ rfl
   rw [lU] at g0 g1
   rw [zP] at g2
   have hl3 : ys.length = 3 := hyl
   match ys, hl3 with
   | [y0, y1, y2], _ =>
    obtain ⟨E1, hE1, _, w1⟩ := DataW.trod_int Tryz.underlying3 g0
    obtain ⟨E2, hE2, _, w2⟩ := DataW.trod_int Tryz.underlying3 g1
    obtain ⟨A, na, ca, al, C, Z, nz, cz, zs, hP, h1, h2, h3, h4, h5, h6, h7⟩ := qN g2
    obtain ⟨L, np, cp, ps, hL, k1, k2, k3, k4⟩ := wY f3
    obtain ⟨K, hK, _, wK⟩ := DataW.trod_int Tryz.underlying3 f4
    simp at hN hs hE1 hE2 hP hL hK
    obtain ⟨rfl, rfl, rfl⟩ := hP
    subst hN; subst hs; subst hE1; subst hE2; subst hL; subst hK
    exact ⟨⟨N, s, E1, E2, A, na, ca, al, C, Z, nz, cz, zs, L, np, cp, ps, K⟩, rfl, ⟨h1, h2, ⟨k1, k2⟩, h3, h4, k3⟩, rR wN, rR w1, rR w2, h7, rR wK, h5, h6, k4⟩
theorem vC {n : Nat} {cs : List Value} {x : DataW H × List MemPlace} (h : DataW.trod enc Tryz.prog w base (fun _ => true) held n 49 cs = some x) :
  ∃ (O : Option Addr) (n c : Nat) (os : List az), cs = [.slice O n c] ∧ os.length = n ∧ Os w O os ∧ ∀ k, k < n → dJ (bL os k) := by
 rcases Go.Deep.open_slice Tryz.underlying49 h with ⟨h0, _⟩ | ⟨a', len, cap, m, n', D, Pl, h0, _, hlc, _, hm, _, hx⟩
 · exact ⟨none, 0, 0, [], h0, rfl, fun k hk => absurd hk (by simp), fun k hk => absurd hk (by omega)⟩
 ·
  simp at hm
  haveI : Inhabited az := ⟨dI⟩
  obtain ⟨f, hf⟩ := Go.Deep.choose_lt (α := az) (n := len) (p := fun i o => (∀ r, r < 9 → w.cell? ((a'.add (i * 9)).add r) = (Tz o)[r]?) ∧ dW w o ∧ dJ o) (fun i hi => by
   obtain ⟨cs', h1, h2⟩ := hx i (by omega)
   rw [EO] at h1
   obtain ⟨_, hlen, hcell⟩ := World.cells?_some h1
   obtain ⟨o, ho, hok, hr⟩ := wZ h2
   exact ⟨o, fun r hr => by rw [hcell r hr, ho], hok, hr⟩)
  have e : ∀ k, k < len → ((List.range len).map f).getD k dI = f k := fun k hk => by
   rw [List.getD_eq_getElem?_getD, List.getElem?_eq_getElem (by simpa using hk)]
   simp
  refine ⟨some a', len, cap, (List.range len).map f, h0, by simp, fun k hk => ?_, fun k hk => by rw [bL, e k hk]; exact (hf k hk).2.2⟩
  have hk' : k < len := by simpa using hk
  rw [e k hk']
  obtain ⟨h1, h2, h3⟩ := hf k hk'
  obtain ⟨b, off, spot⟩ := a'
  have hspot : spot = none := by
   have := World.cell?_spot ((hf 0 (by omega)).1 0 (by omega))
   rw [Nat.zero_mul] at this
   have h9 : (((⟨b, off, spot⟩ : Addr).add 0).add 0) = ⟨b, off, spot⟩ := by unfold Addr.add; simp
   rw [h9] at this
   exact this
  subst hspot
  have key : ∀ r, r < 9 → w.cell? ⟨b, off + k * 9 + r, none⟩ = (Tz (f k))[r]? := fun r hr => by
   have := h1 r hr
   rw [sS _ _ _ _ rfl, sS _ _ _ _ rfl] at this
   exact this
  exact ⟨b, off, rfl, ⟨key 0 (by omega), key 1 (by omega), key 2 (by omega), key 3 (by omega), key 4 (by omega), key 5 (by omega), key 6 (by omega), key 7 (by omega), key 8 (by omega)⟩, h2⟩
theorem yj {n : Nat} {cs : List Value} {x : DataW H × List MemPlace} (h : DataW.trod enc Tryz.prog w base (fun _ => true) held n 41 cs = some x) :
  ∃ l : List Int, cs = l.map (Value.int .u8) ∧ l.length = 32 ∧ aC l = true := by
 obtain ⟨ys, m', _, _, hcl, hyl, hfy⟩ := DataW.trod_array Tryz.underlying41 h
 rw [BD] at hcl
 obtain ⟨hh, h1, h2, h3⟩ := EL (cl := cs) 32 (fun i hi => by
  have fi := hfy i hi
  rw [IZ, Nat.mul_one, List.getElem?_eq_getElem (by rw [hyl]; exact hi)] at fi
  obtain ⟨z, hz, _, wz⟩ := DataW.trod_int Tryz.underlying5 fi
  refine ⟨z, hz, ?_⟩
  simp [Lit.wf, IntKind.min, IntKind.max, IntKind.signed, IntKind.bits] at wz
  omega)
 exact ⟨hh, by rw [← h2, List.take_of_length_le (by rw [hcl]; exact Nat.le_refl _)], h1, h3⟩
theorem vD {n : Nat} {cs : List Value} {x : DataW H × List MemPlace} (h : DataW.trod enc Tryz.prog w base (fun _ => true) held n 50 cs = some x) :
  ∃ (K : Option Addr) (n c : Nat) (hs : List (List Int)), cs = [.slice K n c] ∧ hs.length = n ∧ Hs w K hs := by
 rcases Go.Deep.open_slice Tryz.underlying50 h with ⟨h0, _⟩ | ⟨a', len, cap, m, n', D, Pl, h0, _, hlc, _, hm, _, hx⟩
 · exact ⟨none, 0, 0, [], h0, rfl, fun k hk => absurd hk (by simp)⟩
 ·
  simp at hm
  obtain ⟨f, hf⟩ := Go.Deep.choose_lt (α := List Int) (n := len) (p := fun i l => (∀ r, r < 32 → w.cell? ((a'.add (i * 32)).add r) = (l.map (Value.int .u8))[r]?) ∧ l.length = 32) (fun i hi => by
   obtain ⟨cs', h1, h2⟩ := hx i (by omega)
   rw [BD] at h1
   obtain ⟨_, hlen, hcell⟩ := World.cells?_some h1
   obtain ⟨o, ho, hok, _⟩ := yj h2
   exact ⟨o, fun r hr => by rw [hcell r hr, ho], hok⟩)
  have e : ∀ k, k < len → hsL ((List.range len).map f) k = f k := fun k hk => by
   rw [hsL, List.getD_eq_getElem?_getD, List.getElem?_eq_getElem (by simpa using hk)]
   simp
  refine ⟨some a', len, cap, (List.range len).map f, h0, by simp, fun k hk => ?_⟩
  have hk' : k < len := by simpa using hk
  rw [e k hk']
  obtain ⟨h1, h2⟩ := hf k hk'
  obtain ⟨b, off, spot⟩ := a'
  have hspot : spot = none := by
   have h8 := (hf 0 (by omega)).1 0 (by omega)
   rw [List.getElem?_eq_getElem (by rw [List.length_map, (hf 0 (by omega)).2]; decide)] at h8
   have := World.cell?_spot h8
   rw [Nat.zero_mul] at this
   have h9 : (((⟨b, off, spot⟩ : Addr).add 0).add 0) = ⟨b, off, spot⟩ := by unfold Addr.add; simp
   rw [h9] at this
   exact this
  subst hspot
  refine ⟨b, off, rfl, h2, fun j v hj => ?_⟩
  have hj2 : j < 32 := by have := (List.getElem?_eq_some_iff.1 hj).1; rw [List.length_map, h2] at this; exact this
  have := h1 j hj2
  rw [sS _ _ _ _ rfl, sS _ _ _ _ rfl] at this
  rw [this]; exact hj
theorem LZ {r : Reach} {b0 : Nat} {v : Value} {d : DataW H} {ps : List MemPlace} (hval : Value.okWide Tryz.prog w r b0 52 v) (hd : DataW.Trod enc Tryz.prog w base (fun _ => true) held 52 v d ps) :
  ∃ (O : Option Addr) (n c : Nat) (os : List az) (K : Option Addr) (m d : Nat) (hs : List (List Int)), v = .agg #[.slice O n c, .slice K m d] ∧ os.length = n ∧ hs.length = m ∧ Os w O os ∧ Hs w K hs ∧ ∀ k, k < n → dJ (bL os k) := by
 obtain ⟨cs, rfl, hsz⟩ := okWide_struct Tryz.underlying52 hval
 obtain ⟨n, h⟩ := hd
 obtain ⟨xs, m, rfl, _, hl, hxl, hf⟩ := DataW.trod_struct Tryz.underlying52 h
 rw [NC] at hl
 obtain ⟨cl⟩ := cs
 simp only [Value.cells] at hl hf
 match cl, hl with
 | [c0, c1], _ =>
  have f0 : DataW.trod enc Tryz.prog w base (fun _ => true) held m 49 (([c0, c1].drop 0).take (Tryz.prog.cellsOf 49)) = xs[0]? := hf 0 _ rfl
  have f1 : DataW.trod enc Tryz.prog w base (fun _ => true) held m 50 (([c0, c1].drop 1).take (Tryz.prog.cellsOf 50)) = xs[1]? := hf 1 _ rfl
  rw [NH] at f0
  rw [NI] at f1
  have hl2 : xs.length = 2 := hxl
  match xs, hl2 with
  | [x0, x1], _ =>
   obtain ⟨O, n, c, os, hO, h1, h2, h3⟩ := vC f0
   obtain ⟨K, m, d, hs, hK, k1, k2⟩ := vD f1
   simp at hO hK
   subst hO; subst hK
   exact ⟨O, n, c, os, K, m, d, hs, rfl, h1, k1, h2, k2, h3⟩
end
section
variable {H : Type} {enc : TypeId × Value → H} {w : World} {base : Nat} {held : Bool}
theorem F8 {r : Reach} {b0 : Nat} {v : Value} {d : DataW H} {ps : List MemPlace} (hval : Value.okWide Tryz.prog w r b0 56 v) (hd : DataW.Trod enc Tryz.prog w base (fun _ => true) held 56 v d ps) :
  ∃ p : aV, v = Ae p ∧ vV w p ∧ ug p := by
 obtain ⟨cs, rfl, hsz⟩ := okWide_struct Tryz.underlying56 hval
 obtain ⟨n, h⟩ := hd
 obtain ⟨cl⟩ := cs
 obtain ⟨p, he, h1, h2⟩ := pE h
 simp only [Value.cells] at he
 subst he
 exact ⟨p, rfl, h1, h2⟩
end
end Go.Proofs.YtchcllcbknfikaaGreatDoor
namespace Go.Proofs.YtchcllcbknfikaaGreatDoor
open Go.RowKit si
theorem mU (A : Option Addr) (l : List Int) (n c : Nat) (hn : Hid (l.length = n)) (hbig : n ≤ 1000000) (w : World) (hs : Hid (Sl w A l)) :
  Calls Tryz.prog 176 #[.slice A n c] w (nO (.lst (l.map .int)) w) := by
 obtain ⟨i0, hi, hz0, hz1, hz2⟩ := info_parts jl
 obtain ⟨W, hW⟩ : ∃ W, (w.alloc (.cells #[.int .i64 0, .int .i64 0, .slice none 0 0, .slice none 0 0] 117)).alloc (.cells #[.int .i64 3, .int .i64 0, .slice none 0 0, .slice none 0 0] 117) = W := ⟨_, rfl⟩
 have bT : Hid (Below w.heap.size w W) := aa (by rw [← hW]; exact aJ (Below.refl _ _))
 have lu : Hid (W.heap.size = w.heap.size + 2) := aa (by rw [← hW]; simp)
 have hF : Four W (w.heap.size + 1) 0 ⟨3, 0, none, 0, 0, none, 0, 0⟩ := by
  rw [← hW]
  have h := heap_alloc2_new w (.cells #[.int .i64 0, .int .i64 0, .slice none 0 0, .slice none 0 0] 117) (.cells #[.int .i64 3, .int .i64 0, .slice none 0 0, .slice none 0 0] 117)
  exact ⟨au h 0, au h 1, au h 2, au h 3⟩
 have hf0 : ∀ j, W.frozen? ⟨w.heap.size + 1, j, none⟩ = false := by
  rw [← hW]
  exact fun j => av (heap_alloc2_new _ _ _) j
 have HG : Hid ((Four W w.heap.size 0 ⟨0, 0, none, 0, 0, none, 0, 0⟩) ∧ ∀ j, W.frozen? ⟨w.heap.size, j, none⟩ = false) := aa (by
  rw [← hW]
  have h := heap_alloc2_old w (.cells #[.int .i64 0, .int .i64 0, .slice none 0 0, .slice none 0 0] 117) (.cells #[.int .i64 3, .int .i64 0, .slice none 0 0, .slice none 0 0] 117)
  exact ⟨⟨au h 0, au h 1, au h 2, au h 3⟩, fun j => av h j⟩)
 have Kq : Hid (W.heap[w.heap.size]? = some (.cells #[.int .i64 0, .int .i64 0, .slice none 0 0, .slice none 0 0] 117 (0, 0))) := aa (by rw [← hW]; exact heap_alloc2_old w _ _)
 have HS := aa hs.out
 have HW := aa hW
 have HX : Hid (Own W ⟨w.heap.size + 1, 0, none⟩ (.int .i64 3) ∧ Own W ⟨w.heap.size + 1, 1, none⟩ (.int .i64 0) ∧ Own W ⟨w.heap.size + 1, 2, none⟩ (.slice none 0 0)) := aa ⟨⟨hF.1, hf0 0⟩, ⟨hF.2.1, hf0 1⟩, ⟨hF.2.2.1, hf0 2⟩⟩
 have HL : Hid (Own W ⟨w.heap.size + 1, 3, none⟩ (.slice none 0 0)) := aa ⟨hF.2.2.2, hf0 3⟩
 clear hW hs hF hf0
 go_in
 go_wp2
 rw [HW.out]
 go_loopw [4] (fun i u => ∃ (k : Nat) (v : Value), k ≤ n ∧ i = .int .i64 k ∧ Hid (Own u ⟨w.heap.size + 1, 3, none⟩ v) ∧ Hid (dO u (w.heap.size + 2) v ((l.take k).map aM)) ∧ Hid (Own u ⟨w.heap.size + 1, 0, none⟩ (.int .i64 3) ∧ Own u ⟨w.heap.size + 1, 1, none⟩ (.int .i64 0) ∧ Own u ⟨w.heap.size + 1, 2, none⟩ (.slice none 0 0)) ∧ Hid (Below (w.heap.size + 1) W u)) (fun i _ => n - (intOf i).toNat)
 case atStart => exact ⟨0, _, by omega, rfl, HL, aa (rM _ _), HX, aa (Below.refl _ _)⟩
 case round =>
  obtain ⟨k, v, hk, rfl, HV, HO, oI, aF⟩ := hrel
  by_cases hlt : k < n
  ·
   have hkl : k < l.length := by rw [hn.out]; exact hlt
   obtain ⟨b, o, hA, hc⟩ := (HS.out.below (bT.out.trans (aF.out.mono (Nat.le_succ _)))) k hkl
   subst hA
   have yx := aa (uD hkl)
   obtain ⟨x, hx⟩ : ∃ x, l.getD k 0 = x := ⟨_, rfl⟩
   rw [hx] at hc yx
   have ry : Hid (((l.take k).map aM).length = k) := aa (by rw [List.length_map, List.length_take]; omega)
   have hown : wr.ownsRow (w.heap.size + 2) 117 4 v k (((l.take k).map aM).flatMap aT) := by have h := HO.out; unfold dO at h; rwa [ry.out] at h
   have hbs : w.heap.size + 2 ≤ wr.heap.size := by have := aF.out.size; have := lu.out; omega
   have hno : v.ownBlock ≠ some (w.heap.size + 1) := HO.out.no (by omega)
   obtain ⟨v3, FJ⟩ := HV.out
   have hS := aa (show ∀ u1 : World, Hid (Below wr.drew.heap.size wr.drew u1) → (u1.cell? ⟨w.heap.size + 1, 3, none⟩ = some v ∧ u1.cell? ⟨b, o + k, none⟩ = some (.int .i64 x) ∧ Hid (Below wr.drew.heap.size wr.drew u1)) from fun u1 h1 => ⟨cell_below (w := wr.drew) v3 h1.out, cell_below (w := wr.drew) hc h1.out, h1⟩)
   have HOWN := aa hown
   clear hx hkl hown v3 FJ hc
   go_wp2
   refine bJ (S := fun w' => w'.cell? ⟨w.heap.size + 1, 3, none⟩ = some v ∧ w'.cell? ⟨b, o + k, none⟩ = some (.int .i64 x) ∧ Hid (Below wr.drew.heap.size wr.drew w')) (E := [8, 9, 10]) (by kernel_rfl) (hS.out _ (aa (Below.refl _ _))) (fun hHeld => ?_)
   refine bQ 0 ?_
   refine bQ 1 ?_
   refine bQ 2 ?_
   refine bQ 3 ?_
   refine bQ 4 ?_
   refine bQ 5 ?_
   refine bQ 6 ?_
   refine bY 7 fun K hK => ?_
   go_simp
   refine hK.out _ _ ?_ (fun hHeld => ?_)
   · exact hS.out _ (aa (af _ _))
   clear hK K
   try simp only [qq]
   refine mR 8 fun K hK => ?_
   refine step_append_lies _ (by rfl) _ _ _ (by rfl) (w.heap.size + 2) 117 i0 _ 4 64 Tryz.underlying115 hi hz0 hz1 hz2 rfl (by omega) v k (((l.take k).map aM).flatMap aT) (by rfl) ((HOWN.out.alloc _).drew)
    ⟨wr.heap.size, 0, none⟩ 1 1 [.int .i64 1, .int .i64 x, .slice none 0 0, .slice none 0 0] (by rfl) (by rfl) (World.news_of_block (cs := #[.int .i64 1, .int .i64 x, .slice none 0 0, .slice none 0 0]) (t := 117) (fr := (0, 0)) (heap_alloc_new wr _)) (by simp [Value.oneCell'])
    (by omega) (by unfold maxLen; omega) (by omega) (by simp; omega) (wr.heap.size + 1) (by simp) ?_; intro gg cap wz hown1 hgrow hat hlt2
   have He := aO (w := (wr.alloc (.cells #[.int .i64 1, .int .i64 x, .slice none 0 0, .slice none 0 0] 117)).drew) (HV.out.below (af wr (.cells #[.int .i64 1, .int .i64 x, .slice none 0 0, .slice none 0 0] 117)).drew) hgrow hno
   have U4 := He
   obtain ⟨p2, f2⟩ := U4
   refine hK.out _ _ ?_
   clear hK K
   try simp only [qq]
   refine mR 9 fun K hK => ?_
   go_simp
   refine hK.out _ _ ?_
   clear hK K
   try simp only [qq]
   refine mR 10 fun K hK => ?_
   go_simp
   refine hK.out _ _ ?_
   clear hK K
   try simp only [qq]
   refine gH ?_
   have HB2 : Hid (Below (w.heap.size + 1) W wz) := aa (((aF.out.alloc (by omega) (.cells #[.int .i64 1, .int .i64 x, .slice none 0 0, .slice none 0 0] 117)).drew).grown hgrow (by simp; omega) (fun j hj => by have := (World.ownsRow.lt HOWN.out j hj).1; omega))
   have uj : Hid (dO wz (w.heap.size + 2) (.slice (some ⟨gg, 0, none⟩) (k + 1) cap) ((l.take (k + 1)).map aM)) := aa (by
    rw [yx.out]
    exact dO.app ry.out.symm hown1)
   have hd := (Below.refl wr.heap.size wr)
   have a0 := aO (w := (wr.alloc (.cells #[.int .i64 1, .int .i64 x, .slice none 0 0, .slice none 0 0] 117)).drew) (oI.out.1.below (af wr (.cells #[.int .i64 1, .int .i64 x, .slice none 0 0, .slice none 0 0] 117)).drew) hgrow hno
   have a1 := aO (w := (wr.alloc (.cells #[.int .i64 1, .int .i64 x, .slice none 0 0, .slice none 0 0] 117)).drew) (oI.out.2.1.below (af wr (.cells #[.int .i64 1, .int .i64 x, .slice none 0 0, .slice none 0 0] 117)).drew) hgrow hno
   have a2 := aO (w := (wr.alloc (.cells #[.int .i64 1, .int .i64 x, .slice none 0 0, .slice none 0 0] 117)).drew) (oI.out.2.2.below (af wr (.cells #[.int .i64 1, .int .i64 x, .slice none 0 0, .slice none 0 0] 117)).drew) hgrow hno
   have uG : Hid (Own (wz.setCell ⟨w.heap.size + 1, 3, none⟩ (.slice (some ⟨gg, 0, none⟩) (k + 1) cap)) ⟨w.heap.size + 1, 3, none⟩ (.slice (some ⟨gg, 0, none⟩) (k + 1) cap)) := aa (bu He)
   have yO : Hid (dO (wz.setCell ⟨w.heap.size + 1, 3, none⟩ (.slice (some ⟨gg, 0, none⟩) (k + 1) cap)) (w.heap.size + 2) (.slice (some ⟨gg, 0, none⟩) (k + 1) cap) ((l.take (k + 1)).map aM)) := aa (uj.out.set (by omega))
   have QM : Hid (Own (wz.setCell ⟨w.heap.size + 1, 3, none⟩ (.slice (some ⟨gg, 0, none⟩) (k + 1) cap)) ⟨w.heap.size + 1, 0, none⟩ (.int .i64 3) ∧ Own (wz.setCell ⟨w.heap.size + 1, 3, none⟩ (.slice (some ⟨gg, 0, none⟩) (k + 1) cap)) ⟨w.heap.size + 1, 1, none⟩ (.int .i64 0) ∧ Own (wz.setCell ⟨w.heap.size + 1, 3, none⟩ (.slice (some ⟨gg, 0, none⟩) (k + 1) cap)) ⟨w.heap.size + 1, 2, none⟩ (.slice none 0 0)) :=
    aa ⟨ak a0 (by simp), ak a1 (by simp), ak a2 (by simp)⟩
   have kL : Hid (Below (w.heap.size + 1) W (wz.setCell ⟨w.heap.size + 1, 3, none⟩ (.slice (some ⟨gg, 0, none⟩) (k + 1) cap))) := aa (HB2.out.setCell (Nat.le_refl _) _)
   clear hown1 hgrow HO oI HV p2 f2 a0 a1 a2 HB2 uj He hd
   go_wp2
   go_roundw
   case rel => exact ⟨k + 1, _, by omega, by go_num, uG, yO, QM, kL⟩
   case measure => simp [intOf]; omega
  ·
   have xC : Hid (dO wr (w.heap.size + 2) v (l.map aM)) := aa (by
    have h := HO.out
    rwa [List.take_of_length_le (by have := hn.out; omega)] at h)
   obtain ⟨L, cl, RG⟩ := xC.out.len
   rw [List.length_map, hn.out] at RG
   subst RG
   obtain ⟨p0, p0f⟩ := oI.out.1
   obtain ⟨p1, p1f⟩ := oI.out.2.1
   obtain ⟨p2, p2f⟩ := oI.out.2.2
   obtain ⟨p3, p3f⟩ := HV.out
   have Y5 := HG.out
   have r0 := (aF.out.cell (p := ⟨w.heap.size, 0, none⟩) (Nat.lt_succ_self _)).trans HG.out.1.1
   have r1 := (aF.out.cell (p := ⟨w.heap.size, 1, none⟩) (Nat.lt_succ_self _)).trans HG.out.1.2.1
   have r2 := (aF.out.cell (p := ⟨w.heap.size, 2, none⟩) (Nat.lt_succ_self _)).trans HG.out.1.2.2.1
   have r3 := (aF.out.cell (p := ⟨w.heap.size, 3, none⟩) (Nat.lt_succ_self _)).trans HG.out.1.2.2.2
   have z0 := (aF.out.frozen (p := ⟨w.heap.size, 0, none⟩) (Nat.lt_succ_self _)).trans (HG.out.2 0)
   have z1 := (aF.out.frozen (p := ⟨w.heap.size, 1, none⟩) (Nat.lt_succ_self _)).trans (HG.out.2 1)
   have z2 := (aF.out.frozen (p := ⟨w.heap.size, 2, none⟩) (Nat.lt_succ_self _)).trans (HG.out.2 2)
   have z3 := (aF.out.frozen (p := ⟨w.heap.size, 3, none⟩) (Nat.lt_succ_self _)).trans (HG.out.2 3)
   have vZ := aa (bT.out.trans (aF.out.mono (Nat.le_succ _)))
   clear oI HV HO Y5
   obtain ⟨WF, tC⟩ : ∃ u, (((wr.setCell ⟨w.heap.size, 0, none⟩ (.int .i64 3)).setCell ⟨w.heap.size, 1, none⟩ (.int .i64 0)).setCell ⟨w.heap.size, 2, none⟩ (.slice none 0 0)).setCell ⟨w.heap.size, 3, none⟩ (.slice L n cl) = u := ⟨_, rfl⟩
   have hgB : WF.heap[w.heap.size]? = some (.cells #[.int .i64 3, .int .i64 0, .slice none 0 0, .slice L n cl] 117 (0, 0)) := by
    have h0 := (aF.out.block w.heap.size (Nat.lt_succ_self _)).trans Kq.out
    rw [← tC, heap_setCell_same _ _ _ _ _ _ (heap_setCell_same _ _ _ _ _ _ (heap_setCell_same _ _ _ _ _ _ (heap_setCell_same _ _ _ _ _ _ h0)))]
    rfl
   have Dv : Hid (dO WF (w.heap.size + 2) (.slice L n cl) (l.map aM)) := aa (by
    rw [← tC]
    exact (((xC.out.set (by omega)).set (by omega)).set (by omega)).set (by omega))
   have fM : Hid (Below w.heap.size w WF) := aa (by
    rw [← tC]
    exact (((vZ.out.setCell (Nat.le_refl _) _).setCell (Nat.le_refl _) _).setCell (Nat.le_refl _) _).setCell (Nat.le_refl _) _)
   have zH := Ep (lo := w.heap.size) Dv.out (by omega)
   rw [hn.out] at zH
   have HIT := aa zH
   have Vn : Kp ((loadVar 117 ⟨w.heap.size, 0, none⟩).run Tryz.prog WF = .ok (.agg #[.int .i64 3, .int .i64 0, .slice none 0 0, .slice L n cl]) WF) := ⟨run_loadVar_row _ _ _ _ _ _ _ hgB Tryz.underlying117 rfl (by kernel_rfl)⟩
   have Ym := aa tC
   clear zH xC Dv hgB tC
   go_wp2
   rw [Ym.out]
   exact bodyPost_ret (v := .agg #[.int .i64 3, .int .i64 0, .slice none 0 0, .slice L n cl]) (aD (p := 2) (ty := 117) rfl _ _ ⟨w.heap.size, 0, none⟩ _ rfl Vn.out) rfl ⟨⟨3, 0, none, 0, 0, L, n, cl⟩, rfl, HIT.out, fM.out⟩
theorem vk (h : List Int) (hl : Hid (h.length = 32)) (w : World) :
  Calls Tryz.prog 146 #[.agg (arr .u8 h)] w (nO (.byt h) w) := by
 obtain ⟨i1, hi1, hy0, hy1, hy2⟩ := info_parts dS
 obtain ⟨W, hW⟩ : ∃ W, ((w.alloc (.cells (arr .u8 h) 41)).alloc (.cells #[.int .i64 0, .int .i64 0, .slice none 0 0, .slice none 0 0] 117)).alloc (.cells #[.int .i64 2, .int .i64 0, .slice none 0 0, .slice none 0 0] 117) = W := ⟨_, rfl⟩
 have bT : Hid (Below w.heap.size w W) := aa (by rw [← hW]; exact ag (ag (af _ _) (af _ _)) (af _ _))
 have lu : Hid (W.heap.size = w.heap.size + 3) := aa (by rw [← hW]; simp)
 have AP : Hid (bH .u8 41 W w.heap.size h) := aa (by rw [← hW]; exact ((bH.new w h).old _).old _)
 have Kq : Hid (W.heap[w.heap.size + 1]? = some (.cells #[.int .i64 0, .int .i64 0, .slice none 0 0, .slice none 0 0] 117)) := aa (by rw [← hW]; exact bG (heap_alloc2_new _ _ _) (af _ _))
 have hb2 : W.heap[w.heap.size + 2]? = some (.cells #[.int .i64 2, .int .i64 0, .slice none 0 0, .slice none 0 0] 117) := by rw [← hW]; exact iq _ _ _ _
 have HX : Hid (Own W ⟨w.heap.size + 2, 0, none⟩ (.int .i64 2) ∧ Own W ⟨w.heap.size + 2, 1, none⟩ (.int .i64 0) ∧ Own W ⟨w.heap.size + 2, 3, none⟩ (.slice none 0 0)) := aa ⟨⟨au hb2 0, av hb2 0⟩, ⟨au hb2 1, av hb2 1⟩, ⟨au hb2 3, av hb2 3⟩⟩
 have HL : Hid (Own W ⟨w.heap.size + 2, 2, none⟩ (.slice none 0 0)) := aa ⟨au hb2 2, av hb2 2⟩
 have HW := aa hW
 clear hW hb2
 go_in
 go_wp2
 rw [HW.out]
 go_loopw [4] (fun i u => ∃ (k : Nat) (v : Value), k ≤ 32 ∧ i = .int .i64 k ∧ Hid (Own u ⟨w.heap.size + 2, 2, none⟩ v) ∧ Hid (aR .u8 5 u (w.heap.size + 3) v (h.take k)) ∧ Hid (Own u ⟨w.heap.size + 2, 0, none⟩ (.int .i64 2) ∧ Own u ⟨w.heap.size + 2, 1, none⟩ (.int .i64 0) ∧ Own u ⟨w.heap.size + 2, 3, none⟩ (.slice none 0 0)) ∧ Hid (Below (w.heap.size + 2) W u)) (fun i _ => 32 - (intOf i).toNat)
 case atStart => exact ⟨0, _, by omega, rfl, HL, aa (rJ _ _), HX, aa (Below.refl _ _)⟩
 case round =>
  obtain ⟨k, v, hk, rfl, HV, HO, oI, aF⟩ := hrel
  by_cases hlt : k < 32
  ·
   have hc := (aF.out.cell (p := ⟨w.heap.size, k, none⟩) (by simp)).trans (AP.out.cell (j := k) (by rw [hl.out]; exact hlt))
   have yx := aa (take_one (xs := h) (k := k) (by rw [hl.out]; exact hlt))
   obtain ⟨x, hx⟩ : ∃ x, h.getD k 0 = x := ⟨_, rfl⟩
   rw [hx] at hc yx
   have ry : Hid ((h.take k).length = k) := aa (by rw [List.length_take, hl.out]; omega)
   have hown : wr.ownsRow (w.heap.size + 3) 5 1 v k ((h.take k).map (Value.int .u8)) := HO.out.row ry.out
   have hbs : w.heap.size + 3 ≤ wr.heap.size := by have := aF.out.size; have := lu.out; omega
   have hno : v.ownBlock ≠ some (w.heap.size + 2) := fun e => by have := (HO.out.lt _ e).1; omega
   obtain ⟨v3, FJ⟩ := HV.out
   have hS := aa (show ∀ u1 : World, Hid (Below wr.drew.heap.size wr.drew u1) → (u1.cell? ⟨w.heap.size + 2, 2, none⟩ = some v ∧ u1.cell? ⟨w.heap.size, k, none⟩ = some (.int .u8 x) ∧ Hid (Below wr.drew.heap.size wr.drew u1)) from fun u1 h1 => ⟨cell_below (w := wr.drew) v3 h1.out, cell_below (w := wr.drew) hc h1.out, h1⟩)
   have HOWN := aa hown
   clear hx hown v3 FJ hc
   go_wp2
   refine bJ (S := fun w' => w'.cell? ⟨w.heap.size + 2, 2, none⟩ = some v ∧ w'.cell? ⟨w.heap.size, k, none⟩ = some (.int .u8 x) ∧ Hid (Below wr.drew.heap.size wr.drew w')) (E := [6, 7, 8]) (by kernel_rfl) (hS.out _ (aa (Below.refl _ _))) (fun hHeld => ?_)
   refine bQ 0 ?_
   refine bQ 1 ?_
   refine bQ 2 ?_
   refine bQ 3 ?_
   refine bQ 4 ?_
   refine bY 5 fun K hK => ?_
   go_simp
   refine hK.out _ _ ?_ (fun hHeld => ?_)
   · exact hS.out _ (aa (af _ _))
   clear hK K
   try simp only [qq]
   refine mR 6 fun K hK => ?_
   refine step_append_lies _ (by rfl) _ _ _ (by rfl) (w.heap.size + 3) 5 i1 _ 1 1 Tryz.underlying114 hi1 hy0 hy1 hy2 rfl (by omega) v k ((h.take k).map (Value.int .u8)) (by rfl) ((HOWN.out.alloc _).drew)
    ⟨wr.heap.size, 0, none⟩ 1 1 [.int .u8 x] (by rfl) (by rfl) (World.news_of_block (cs := #[.int .u8 x]) (t := 5) (fr := (0, 0)) (heap_alloc_new wr _)) (by simp [Value.oneCell'])
    (by omega) (by unfold maxLen; omega) (by omega) (by simp; omega) (wr.heap.size + 1) (by simp) ?_; intro gg cap wz hown1 hgrow hat hlt2
   have He := aO (w := (wr.alloc (.cells #[.int .u8 x] 5)).drew) (HV.out.below (af wr (.cells #[.int .u8 x] 5)).drew) hgrow hno
   have U4 := He
   obtain ⟨p2, f2⟩ := U4
   refine hK.out _ _ ?_
   clear hK K
   try simp only [qq]
   refine mR 7 fun K hK => ?_
   go_simp
   refine hK.out _ _ ?_
   clear hK K
   try simp only [qq]
   refine mR 8 fun K hK => ?_
   go_simp
   refine hK.out _ _ ?_
   clear hK K
   try simp only [qq]
   refine gH ?_
   have HB2 : Hid (Below (w.heap.size + 2) W wz) := aa (((aF.out.alloc (by omega) (.cells #[.int .u8 x] 5)).drew).grown hgrow (by simp; omega) (fun j hj => by have := (World.ownsRow.lt HOWN.out j hj).1; omega))
   have uj : Hid (aR .u8 5 wz (w.heap.size + 3) (.slice (some ⟨gg, 0, none⟩) (k + 1) cap) (h.take (k + 1))) := aa (by
    rw [yx.out]
    exact aR.app ry.out.symm rfl hown1)
   have a0 := aO (w := (wr.alloc (.cells #[.int .u8 x] 5)).drew) (oI.out.1.below (af wr (.cells #[.int .u8 x] 5)).drew) hgrow hno
   have a1 := aO (w := (wr.alloc (.cells #[.int .u8 x] 5)).drew) (oI.out.2.1.below (af wr (.cells #[.int .u8 x] 5)).drew) hgrow hno
   have a2 := aO (w := (wr.alloc (.cells #[.int .u8 x] 5)).drew) (oI.out.2.2.below (af wr (.cells #[.int .u8 x] 5)).drew) hgrow hno
   have uG : Hid (Own (wz.setCell ⟨w.heap.size + 2, 2, none⟩ (.slice (some ⟨gg, 0, none⟩) (k + 1) cap)) ⟨w.heap.size + 2, 2, none⟩ (.slice (some ⟨gg, 0, none⟩) (k + 1) cap)) := aa (bu He)
   have yO : Hid (aR .u8 5 (wz.setCell ⟨w.heap.size + 2, 2, none⟩ (.slice (some ⟨gg, 0, none⟩) (k + 1) cap)) (w.heap.size + 3) (.slice (some ⟨gg, 0, none⟩) (k + 1) cap) (h.take (k + 1))) := aa (uj.out.kept (iQ _ _ _ _) (Or.inr (fun e => by have := (uj.out.lt _ e).1; omega)))
   have QM : Hid (Own (wz.setCell ⟨w.heap.size + 2, 2, none⟩ (.slice (some ⟨gg, 0, none⟩) (k + 1) cap)) ⟨w.heap.size + 2, 0, none⟩ (.int .i64 2) ∧ Own (wz.setCell ⟨w.heap.size + 2, 2, none⟩ (.slice (some ⟨gg, 0, none⟩) (k + 1) cap)) ⟨w.heap.size + 2, 1, none⟩ (.int .i64 0) ∧ Own (wz.setCell ⟨w.heap.size + 2, 2, none⟩ (.slice (some ⟨gg, 0, none⟩) (k + 1) cap)) ⟨w.heap.size + 2, 3, none⟩ (.slice none 0 0)) := aa ⟨ak a0 (by simp), ak a1 (by simp), ak a2 (by simp)⟩
   have kL : Hid (Below (w.heap.size + 2) W (wz.setCell ⟨w.heap.size + 2, 2, none⟩ (.slice (some ⟨gg, 0, none⟩) (k + 1) cap))) := aa (HB2.out.setCell (Nat.le_refl _) _)
   clear hown1 hgrow HO oI HV p2 f2 a0 a1 a2 HB2 uj He
   go_wp2
   go_roundw
   case rel => exact ⟨k + 1, _, by omega, by go_num, uG, yO, QM, kL⟩
   case measure => simp [intOf]; omega
  ·
   obtain rfl : k = 32 := by omega
   have xC : Hid (aR .u8 5 wr (w.heap.size + 3) v h) := aa (by
    have h9 := HO.out
    rwa [List.take_of_length_le (by rw [hl.out]; exact Nat.le_refl _)] at h9)
   obtain ⟨g, cap, hv, hg, -, -, hsk⟩ := xC.out.cells (by rw [hl.out]; decide)
   rw [hl.out] at hv
   subst hv
   obtain ⟨p0, p0f⟩ := oI.out.1
   obtain ⟨p1, p1f⟩ := oI.out.2.1
   obtain ⟨p2, p2f⟩ := oI.out.2.2
   obtain ⟨p3, p3f⟩ := HV.out
   have ZN := aa hsk
   have jF : Hid (wr.heap[w.heap.size + 1]? = some (.cells #[.int .i64 0, .int .i64 0, .slice none 0 0, .slice none 0 0] 117)) := aa ((aF.out.block _ (by omega)).trans Kq.out)
   have vZ := aa (bT.out.trans (aF.out.mono (by omega)))
   clear oI HV HO xC hsk
   go_wp2_with ((with_reducible show wpList _ _ _ (⟨none, _, _, _, _, _⟩ :: _) _ _); refine wpList_store_row rfl 117 _ _ rfl (w.heap.size + 1) (Ic.cs (aI (some ⟨g, 0, none⟩) 32 cap)) rfl rfl _ _ jF.out (cK _) rfl (jy _) ?_)
   have hit : qE w.heap.size (wr.setRow (w.heap.size + 1) (Ic.cs (aI (some ⟨g, 0, none⟩) 32 cap))) (.byt h) (aI (some ⟨g, 0, none⟩) 32 cap) := Ct (ZN.out.setRow (by omega)) (by omega) hl.out
   have bV := ai vZ.out (cs := Ic.cs (aI (some ⟨g, 0, none⟩) 32 cap)) (Nat.le_add_right w.heap.size 1)
   have hrw := setRow_heap _ _ _ (Ic.cs (aI (some ⟨g, 0, none⟩) 32 cap)) _ _ jF.out
   exact bodyPost_ret (v := (aI (some ⟨g, 0, none⟩) 32 cap).val) (aD (p := 2) (ty := 117) rfl _ _ ⟨w.heap.size + 1, 0, none⟩ _ rfl (run_loadVar_row _ _ _ _ _ _ _ hrw Tryz.underlying117 rfl (cK _))) rfl ⟨_, rfl, hit, bV⟩
theorem og (n : Int) (w : World) :
  Calls Tryz.prog 134 #[.int .i64 n] w fun e w' => e = .returned (aM n).val ∧ Below w.heap.size w w' := by
 have eG : Hid ((w.alloc (.cells #[.int .i64 0, .int .i64 0, .slice none 0 0, .slice none 0 0] 117)).heap[w.heap.size]? = some (.cells #[.int .i64 0, .int .i64 0, .slice none 0 0, .slice none 0 0] 117 (0, 0))) := aa (heap_alloc_new _ _)
 go_in
 go_wp2_with ((with_reducible show wpList _ _ _ (⟨none, _, _, _, _, _⟩ :: _) _ _); refine wpList_store_row rfl 117 _ _ rfl w.heap.size (Ic.cs (aM n)) rfl rfl _ _ eG.out (cK _) rfl (jy _) ?_)
 have hrw := setRow_heap _ _ _ (Ic.cs (aM n)) _ _ eG.out
 exact bodyPost_ret (v := (aM n).val) (aD (p := 2) (ty := 117) rfl _ _ ⟨w.heap.size, 0, none⟩ _ rfl (run_loadVar_row _ _ _ _ _ _ _ hrw Tryz.underlying117 rfl (cK _))) rfl ⟨rfl, ai (af _ _) (Nat.le_refl _)⟩
theorem rC (L : Option Addr) (n c : Nat) (w : World) :
  Calls Tryz.prog 133 #[.slice L n c] w fun e w' => e = .returned (Ic.mk 3 0 none 0 0 L n c).val ∧ Below w.heap.size w w' := by
 have eG : Hid ((w.alloc (.cells #[.int .i64 0, .int .i64 0, .slice none 0 0, .slice none 0 0] 117)).heap[w.heap.size]? = some (.cells #[.int .i64 0, .int .i64 0, .slice none 0 0, .slice none 0 0] 117 (0, 0))) := aa (heap_alloc_new _ _)
 go_in
 go_wp2_with ((with_reducible show wpList _ _ _ (⟨none, _, _, _, _, _⟩ :: _) _ _); refine wpList_store_row rfl 117 _ _ rfl w.heap.size (Ic.cs (Ic.mk 3 0 none 0 0 L n c)) rfl rfl _ _ eG.out (cK _) rfl (jy _) ?_)
 have hrw := setRow_heap _ _ _ (Ic.cs (Ic.mk 3 0 none 0 0 L n c)) _ _ eG.out
 exact bodyPost_ret (v := (Ic.mk 3 0 none 0 0 L n c).val) (aD (p := 2) (ty := 117) rfl _ _ ⟨w.heap.size, 0, none⟩ _ rfl (run_loadVar_row _ _ _ _ _ _ _ hrw Tryz.underlying117 rfl (cK _))) rfl ⟨rfl, ai (af _ _) (Nat.le_refl _)⟩
theorem DX (s : ByteArray) (hs0 : 1 ≤ s.size) (hs1 : s.size ≤ 1000) (w : World) :
  Calls Tryz.prog 135 #[.string s] w (nO (.byt (aX s)) w) := by
 have hcv := fun w => run_bytes_of_string (P := Tryz.prog) w 9 114 5 s Tryz.underlying9 Tryz.underlying114 Tryz.underlying5
 obtain ⟨W, hW⟩ : ∃ W, w.alloc (.cells #[.int .i64 0, .int .i64 0, .slice none 0 0, .slice none 0 0] 117) = W := ⟨_, rfl⟩
 have lu : Hid (W.heap.size = w.heap.size + 1) := aa (by rw [← hW]; simp)
 have eG : Hid (W.heap[w.heap.size]? = some (.cells #[.int .i64 0, .int .i64 0, .slice none 0 0, .slice none 0 0] 117 (0, 0))) := aa (by rw [← hW]; exact heap_alloc_new _ _)
 have HB0 : Hid (Below w.heap.size w W) := aa (by rw [← hW]; exact af _ _)
 have HW := aa hW
 clear hW
 obtain ⟨gc, hgc⟩ : ∃ g, grownCap W s.size 0 5 = g := ⟨_, rfl⟩
 obtain ⟨Wc, hWc⟩ : ∃ u, (W.alloc (.cells (bytesRow s gc) 5 ((bytesRow s gc).size, (bytesRow s gc).size + 1))).drew = u := ⟨_, rfl⟩
 have su : Hid (Below W.heap.size W Wc) := aa (by rw [← hWc]; exact (af _ _).drew)
 have HSc : Hid (Sk .u8 Wc (some ⟨W.heap.size, 0, none⟩) (aX s)) := aa (by rw [← hWc]; exact (mh (heap_alloc_new W _)).below ((Below.refl _ _).drew))
 have HRc : Hid (Wc.heap[w.heap.size]? = some (.cells #[.int .i64 0, .int .i64 0, .slice none 0 0, .slice none 0 0] 117 (0, 0))) := aa (bG eG.out su.out)
 go_in
 go_upto_region 1 with (fail)
 rw [HW.out]
 go_wp2_with ((with_reducible show wpList _ _ _ (⟨none, _, _, _, _, _⟩ :: _) _ _); refine wpList_store_row rfl 117 _ _ rfl w.heap.size (Ic.cs (aI (some ⟨W.heap.size, 0, none⟩) s.size gc)) rfl rfl _ _ HRc.out (cK _) rfl (jy _) ?_)
 have hit : qE w.heap.size (Wc.setRow w.heap.size (Ic.cs (aI (some ⟨W.heap.size, 0, none⟩) s.size gc))) (.byt (aX s)) (aI (some ⟨W.heap.size, 0, none⟩) s.size gc) := Ct (HSc.out.setRow (by have := lu.out; omega)) (by have := lu.out; omega) (bE s)
 have bV := ai (ag HB0.out su.out) (cs := Ic.cs (aI (some ⟨W.heap.size, 0, none⟩) s.size gc)) (Nat.le_refl w.heap.size)
 have hrw := setRow_heap _ _ _ (Ic.cs (aI (some ⟨W.heap.size, 0, none⟩) s.size gc)) _ _ HRc.out
 exact bodyPost_ret (v := (aI (some ⟨W.heap.size, 0, none⟩) s.size gc).val) (aD (p := 2) (ty := 117) rfl _ _ ⟨w.heap.size, 0, none⟩ _ rfl (run_loadVar_row _ _ _ _ _ _ _ hrw Tryz.underlying117 rfl (cK _))) rfl ⟨_, rfl, hit, bV⟩
theorem zi (E1 E2 : Int) (A : Option Addr) (na ca : Nat) (al : List Int) (C : Int) (Z : Option Addr) (nz cz : Nat) (zs : List Int) (hna : Hid (al.length = na)) (hnz : Hid (zs.length = nz)) (hb1 : na ≤ 1000) (hb2 : nz ≤ 1000) (w : World) (hA : Hid (Sl w A al)) (hZ : Hid (Sl w Z zs)) :
  Calls Tryz.prog 136 #[J6 E1 E2 A na ca C Z nz cz] w (nO (KD E1 E2 al C zs) w) := by
 obtain ⟨w0, HW, aj, kC⟩ := st2 (Nk E1 E2 A na ca C Z nz cz) AB (.cells #[.int .i64 0, .int .i64 0, .slice none 0 0, .slice none 0 0] 117) sO w
 have kA := mkS aj hA
 have kZ := mkS aj hZ
 have nT := Bg (w0 := w0) (o := .cells #[.int .i64 0, .int .i64 0, .slice none 0 0, .slice none 0 0] 117) (w.heap.size + 1) (by rw [← HW.out]; exact heap_alloc2_new _ _ _)
 have ah := bP w0
 clear hA hZ
 go_in
 go_wp2_with fail
 rw [HW.out]
 have zc := kC.out _ ah
 have jO : Hid (w0.heap.size = w.heap.size + 2) := aa (by rw [← HW.out]; simp)
 go_upto_region 1 with (fail)
 clear zc
 have hO := kC
 have nQ := bF (aa ah.out) (Below.refl _ _).drew
 refine wU (fun u => Below w0.heap.size w0 u) [20] nQ (fun hHeld => ?_)
 obtain ⟨wD, nK⟩ : ∃ u, w0.drew = u := ⟨_, rfl⟩
 rw [nK] at nQ hHeld ⊢
 have zX : Hid (w0.heap.size ≤ wD.heap.size) := aa (by rw [← nK]; exact Nat.le_refl _)
 clear nK
 refine aU 0 1 2 3 ?_
 refine aU 6 7 8 10 ?_
 refine aU 11 12 13 14 ?_
 refine aL 15 ?_
 refine aL 16 ?_
 have FB := nQ
 obtain ⟨u1, hw, HQ, -, -, -⟩ := qZ (.cells #[.int .i64 (E1), .int .i64 (E2)] 3) sO wD
 have nP := aa hw
 clear hw
 refine bY 4 fun K hK => ?_
 go_simp
 rw [nP.out]
 have aS := bF FB HQ.out
 refine hK.out _ _ aS (fun hHeld => ?_)
 clear hK K hHeld
 have FE : Hid (Dt u1 (wD.heap.size) (E1) (E2)) := by rw [← nP.out]; exact (aa (Dt.new wD (E1) (E2)))
 obtain ⟨gE, hg⟩ : ∃ x, wD.heap.size = x := ⟨_, rfl⟩
 rw [hg] at FE ⊢
 clear hg
 have FB := aS
 clear aS nP HQ
 try simp only [qq, Ic.val, Ic.cs, aM, aI]
 refine bY 5 fun K hK => ?_
 go_simp
 refine (mU (some ⟨gE, 0, none⟩) [E1, E2] 2 2 (aa rfl) (by omega) _ (aa FE.out.sl)).mono ?_
 rintro e u2 ⟨cE, rfl, hit, hq⟩
 have aS := bF FB hq
 refine hK.out _ _ aS (fun hHeld => ?_)
 clear hK K hHeld
 have FE := aa (FE.out.below hq)
 have HE := (aa (hit.mono (by have := FB.out.size; omega)))
 have FB := aS
 clear aS
 try simp only [qq, Ic.val, Ic.cs, aM, aI]
 refine bY 9 fun K hK => ?_
 go_simp
 refine (mU A al na ca hna (by omega) _ (kA.out _ (aa FB.out))).mono ?_
 rintro e u3 ⟨cA, rfl, hit, hq⟩
 have aS := bF FB hq
 refine hK.out _ _ aS (fun hHeld => ?_)
 clear hK K hHeld
 have FE := aa (FE.out.below hq)
 have HE := aa (HE.out.kept hq)
 have HA := (aa (hit.mono (by have := FB.out.size; omega)))
 have FB := aS
 clear aS
 try simp only [qq, Ic.val, Ic.cs, aM, aI]
 refine bY 17 fun K hK => ?_
 go_simp
 refine (mU Z zs nz cz hnz (by omega) _ (kZ.out _ (aa FB.out))).mono ?_
 rintro e u4 ⟨cZ, rfl, hit, hq⟩
 have aS := bF FB hq
 refine hK.out _ _ aS (fun hHeld => ?_)
 clear hK K hHeld
 have FE := aa (FE.out.below hq)
 have HE := aa (HE.out.kept hq)
 have HA := aa (HA.out.kept hq)
 have HZ := (aa (hit.mono (by have := FB.out.size; omega)))
 have FB := aS
 clear aS
 try simp only [qq, Ic.val, Ic.cs, aM, aI]
 obtain ⟨u, hw, HQ, -, -, -⟩ := qZ (.cells #[.int .i64 cE.kind, .int .i64 cE.n, .slice cE.B cE.nb cE.cb, .slice cE.L cE.nl cE.cl, .int .i64 cA.kind, .int .i64 cA.n, .slice cA.B cA.nb cA.cb, .slice cA.L cA.nl cA.cl, .int .i64 1, .int .i64 C, .slice none 0 0, .slice none 0 0, .int .i64 cZ.kind, .int .i64 cZ.n, .slice cZ.B cZ.nb cZ.cb, .slice cZ.L cZ.nl cZ.cl] 117) sO u4
 have nP := aa hw
 clear hw
 refine bY 18 fun K hK => ?_
 go_simp
 rw [nP.out]
 have aS := bF FB HQ.out
 refine hK.out _ _ aS (fun hHeld => ?_)
 clear hK K hHeld
 have FE := aa (FE.out.below HQ.out)
 have HE := aa (HE.out.kept HQ.out)
 have HA := aa (HA.out.kept HQ.out)
 have HZ := aa (HZ.out.kept HQ.out)
 have FL : Hid (u.heap[(u4.heap.size)]? = some (.cells #[.int .i64 cE.kind, .int .i64 cE.n, .slice cE.B cE.nb cE.cb, .slice cE.L cE.nl cE.cl, .int .i64 cA.kind, .int .i64 cA.n, .slice cA.B cA.nb cA.cb, .slice cA.L cA.nl cA.cl, .int .i64 1, .int .i64 C, .slice none 0 0, .slice none 0 0, .int .i64 cZ.kind, .int .i64 cZ.n, .slice cZ.B cZ.nb cZ.cb, .slice cZ.L cZ.nl cZ.cl] 117)) := by rw [← nP.out]; exact (aa (heap_alloc_new u4 _))
 have lZ : Hid (w0.heap.size ≤ (u4.heap.size)) := (aa (by have := FB.out.size; omega))
 obtain ⟨gL, hg⟩ : ∃ x, u4.heap.size = x := ⟨_, rfl⟩
 rw [hg] at FL lZ ⊢
 clear hg
 have FB := aS
 clear aS nP HQ
 try simp only [qq, Ic.val, Ic.cs, aM, aI]
 have hHeld := FB
 have hT := trivial
 have ha0 := trivial
 have um := FB
 refine bQ 19 ?_
 have pU := nT.out _ (aa FB.out)
 refine mR 20 fun K hK => ?_
 rw [show (if Region.wanted _ _ = true then _ else _ : Prop) = _ from if_pos rfl]
 refine wp_store_row 117 _ _ rfl (w.heap.size + 1) (Ic.cs ⟨3, 0, none, 0, 0, some ⟨gL, 0, none⟩, 4, 4⟩) rfl rfl 117 _ pU.out (cK _) rfl (jy _) ?_
 refine hK.out _ _ ?_
 clear hK K
 try simp only [qq]
 refine gH ?_
 have hit : qE w0.heap.size u (KD E1 E2 al C zs) ⟨3, 0, none, 0, 0, some ⟨gL, 0, none⟩, 4, 4⟩ := sI (fun k => match k with | 0 => cE | 1 => cA | 2 => aM C | _ => cZ) FL.out lZ.out rfl (fun k hk => by
   rcases (show k = 0 ∨ k = 1 ∨ k = 2 ∨ k = 3 by omega) with rfl | rfl | rfl | rfl <;> exact ⟨rfl, rfl, rfl, rfl⟩) (fun k hk => by
   rcases (show k = 0 ∨ k = 1 ∨ k = 2 ∨ k = 3 by omega) with rfl | rfl | rfl | rfl
   · exact HE.out
   · exact HA.out
   · exact oz _ _ _
   · exact HZ.out)
 have hit2 := (hit.setRow (g := w.heap.size + 1) (by have := jO.out; omega) (Ic.cs ⟨3, 0, none, 0, 0, some ⟨gL, 0, none⟩, 4, 4⟩)).mono (lo' := w.heap.size) (by have := jO.out; omega)
 have bV := ai (ag aj.out FB.out) (cs := Ic.cs ⟨3, 0, none, 0, 0, some ⟨gL, 0, none⟩, 4, 4⟩) (Nat.le_add_right w.heap.size 1)
 have hrw := setRow_heap _ _ _ (Ic.cs ⟨3, 0, none, 0, 0, some ⟨gL, 0, none⟩, 4, 4⟩) _ _ pU.out
 go_wp2
 exact bodyPost_ret (v := (Ic.mk 3 0 none 0 0 (some ⟨gL, 0, none⟩) 4 4).val) (aD (p := 2) (ty := 117) rfl _ _ ⟨w.heap.size + 1, 0, none⟩ _ rfl (run_loadVar_row _ _ _ _ _ _ _ hrw Tryz.underlying117 rfl (cK _))) rfl ⟨_, rfl, hit2, bV⟩
end Go.Proofs.YtchcllcbknfikaaGreatDoor