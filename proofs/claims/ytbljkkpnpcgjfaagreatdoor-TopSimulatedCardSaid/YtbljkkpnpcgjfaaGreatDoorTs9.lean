/- Contracts and lemmas: FnK, FnM, FnL, Base, KnA, KnF, KnG, TpC, FnN. -/
import Derived.Test.YtbljkkpnpcgjfaaGreatDoorTs8
set_option linter.unusedVariables false
set_option linter.unusedSimpArgs false
set_option maxRecDepth 100000
set_option maxHeartbeats 25600000
namespace Go.Proofs.YtbljkkpnpcgjfaaGreatDoor
open Go.RowKit rM
abbrev zw (h : List Int) (c e : Int) : Value := Kb (.agg (iU 0 none 0 0 0 none 0 0 none 0 0)) h c e
theorem gM (x : Int) (w : World) : Calls Tryz.prog 22 #[.int .i64 x] w (Rt w (zw (aZ 32) 0 x)) := by
 obtain ⟨W, hW⟩ : ∃ W, (w.alloc (tO 0 none 0 0 0 none 0 0 none 0 0)).alloc (.cells #[.int .u8 0, .int .u8 0, .int .u8 0, .int .u8 0, .int .u8 0, .int .u8 0, .int .u8 0, .int .u8 0, .int .u8 0, .int .u8 0, .int .u8 0, .int .u8 0, .int .u8 0, .int .u8 0, .int .u8 0, .int .u8 0, .int .u8 0, .int .u8 0, .int .u8 0, .int .u8 0, .int .u8 0, .int .u8 0, .int .u8 0, .int .u8 0, .int .u8 0, .int .u8 0, .int .u8 0, .int .u8 0, .int .u8 0, .int .u8 0, .int .u8 0, .int .u8 0, .int .i64 0] 34) = W := ⟨_, rfl⟩
 have hb : Below w.heap.size w W := by rw [← hW]; exact aB (Below.refl _ _)
 have HQ : Hid (W.heap[w.heap.size]? = some (tO 0 none 0 0 0 none 0 0 none 0 0)) := aa (by rw [← hW]; exact heap_alloc2_old _ _ _)
 have HD : Hid (dK W (w.heap.size + 1) (aZ 32) 0) := aa (by rw [← hW, Du]; exact heap_alloc2_new _ _ _)
 have HB := aa hb
 have HW := aa hW
 clear hW hb
 go_in
 go_upto_region 1 with (fail)
 rw [HW.out]
 clear HW
 have HQ2 : Hid ((W.setRow w.heap.size (iU 0 none 0 0 0 none 0 0 none 0 0)).heap[w.heap.size]? = some (tO 0 none 0 0 0 none 0 0 none 0 0)) := aa (setRow_heap _ _ _ _ _ _ HQ.out)
 have HD2 : Hid (dK (W.setRow w.heap.size (iU 0 none 0 0 0 none 0 0 none 0 0)) (w.heap.size + 1) (aZ 32) 0) := aa ((setRow_other _ _ _ _ (by omega)).trans HD.out)
 go_wp2_with (first
  | ((with_reducible show wpList _ _ _ (⟨some 6, _, _, _, _, _⟩ :: _) _ _); refine dA rfl 34 _ rfl _ Da ?_)
  | ((with_reducible show wpList _ _ _ (⟨none, Op.store _ (Operand.tmp 2) _, _, _, _, _⟩ :: _) _ _); refine wpList_store_row rfl 39 _ _ rfl w.heap.size (iU 0 none 0 0 0 none 0 0 none 0 0) rfl rfl _ _ HQ.out bE rfl (dP _ _ _ _ _ _ _ _ _ _ _) ?_)
  | ((with_reducible show wpList _ _ _ (⟨none, Op.store _ (Operand.tmp 3) _, _, _, _, _⟩ :: _) _ _); refine wpList_store_row rfl 34 _ _ rfl (w.heap.size + 1) (aT (aZ 32) 0) rfl rfl _ _ HD2.out (aK rfl) rfl (bg _ _) ?_))
 have Bf : Hid (((W.setRow w.heap.size (iU 0 none 0 0 0 none 0 0 none 0 0)).setRow (w.heap.size + 1) (aT (aZ 32) 0)).heap[w.heap.size]? = some (tO 0 none 0 0 0 none 0 0 none 0 0)) := aa ((setRow_other _ _ _ _ (by omega)).trans HQ2.out)
 have rQ : Hid (dK ((W.setRow w.heap.size (iU 0 none 0 0 0 none 0 0 none 0 0)).setRow (w.heap.size + 1) (aT (aZ 32) 0)) (w.heap.size + 1) (aZ 32) 0) := aa HD2.out.setRow
 have Qh := aD (cs := aT (aZ 32) 0) (aD (cs := iU 0 none 0 0 0 none 0 0 none 0 0) HB.out (Nat.le_refl _)) (Nat.le_succ _)
 exact bodyPost_ret (v := zw (aZ 32) 0 x) (bq (p := 2) (q := 3) (r := 4) (ty := 39) (ty2 := 34) rfl _ _ ⟨w.heap.size, 0, none⟩ ⟨w.heap.size + 1, 0, none⟩ _ _ _ rfl rfl rfl (run_loadVar_row _ _ _ _ _ _ _ Bf.out Tryz.underlying39 rfl bE) (run_loadVar_row _ _ _ _ _ _ _ rQ.out Tryz.underlying34 rfl (aK rfl))) rfl ⟨rfl, Qh⟩
structure zo (w : World) (P Q G : Int) (kind : Int) (Y : Option Addr) (yn yc : Nat) (B : Option Addr) (bn bc : Nat) (L : Option Addr) (ln lc : Nat) (h : List Int) (c : Int) (u : World) : Prop where
 g : eO u w.heap.size P Q G
 f : u.heap[w.heap.size + 1]? = some (fO kind Y yn yc B bn bc L ln lc)
 d : dK u (w.heap.size + 2) h c
 t : u.heap[w.heap.size + 3]? = some (tO 0 none 0 0 0 none 0 0 none 0 0)
 e : dK u (w.heap.size + 4) (aZ 32) 0
 b : Below w.heap.size w u
 z : w.heap.size + 5 ≤ u.heap.size
section
variable {w : World} {P Q G : Int} {kind : Int} {Y : Option Addr} {yn yc : Nat} {B : Option Addr} {bn bc : Nat} {L : Option Addr} {ln lc : Nat} {h : List Int} {c : Int} {u u' : World}
theorem zo.agree (H : zo w P Q G kind Y yn yc B bn bc L ln lc h c u) (ha : ∀ k, k < w.heap.size + 5 → u'.heap[k]? = u.heap[k]?) (hb : Below w.heap.size w u') (hz : u.heap.size ≤ u'.heap.size) : zo w P Q G kind Y yn yc B bn bc L ln lc h c u' := by
 obtain ⟨g0, g1, g2⟩ := H.g
 refine ⟨⟨?_, ?_, ?_⟩, (ha _ (by omega)).trans H.f, (ha _ (by omega)).trans H.d, (ha _ (by omega)).trans H.t, (ha _ (by omega)).trans H.e, hb, Nat.le_trans H.z hz⟩
 · exact (World.cell?_of_block (ha _ (by show w.heap.size < _; omega))).trans g0
 · exact (World.cell?_of_block (ha _ (by show w.heap.size < _; omega))).trans g1
 · exact (World.cell?_of_block (ha _ (by show w.heap.size < _; omega))).trans g2
theorem zo.below (H : zo w P Q G kind Y yn yc B bn bc L ln lc h c u) (hb : Below u.heap.size u u') : zo w P Q G kind Y yn yc B bn bc L ln lc h c u' :=
 H.agree (fun k hk => hb.block k (by have := H.z; omega)) (af H.b hb) hb.size
theorem zo.grown {b : Nat} (H : zo w P Q G kind Y yn yc B bn bc L ln lc h c u) (hg : u.grownBy u' (some b)) (hb : w.heap.size + 5 ≤ b) : zo w P Q G kind Y yn yc B bn bc L ln lc h c u' :=
 H.agree (fun k hk => hg.block k (by have := H.z; omega) (fun e => by injection e with e; omega)) (dx (aa H.b) (by omega) rfl hg).out hg.size
theorem zo.fc (H : zo w P Q G kind Y yn yc B bn bc L ln lc h c u) : u.cell? ⟨w.heap.size + 1, 0, none⟩ = some (.int .i64 kind) ∧ u.cell? ⟨w.heap.size + 1, 1, none⟩ = some (.slice Y yn yc) ∧ u.cell? ⟨w.heap.size + 1, 2, none⟩ = some (.slice B bn bc) ∧ u.cell? ⟨w.heap.size + 1, 3, none⟩ = some (.slice L ln lc) := ⟨aj H.f 0, aj H.f 1, aj H.f 2, aj H.f 3⟩
theorem zo.fail (H : zo w P Q G kind Y yn yc B bn bc L ln lc h c u) :
  ((u.setRow (w.heap.size + 3) (iU 0 none 0 0 0 none 0 0 none 0 0)).setRow (w.heap.size + 4) (aT (aZ 32) 0)).heap[w.heap.size + 3]? = some (tO 0 none 0 0 0 none 0 0 none 0 0) ∧
  dK ((u.setRow (w.heap.size + 3) (iU 0 none 0 0 0 none 0 0 none 0 0)).setRow (w.heap.size + 4) (aT (aZ 32) 0)) (w.heap.size + 4) (aZ 32) 0 ∧
  dK (u.setRow (w.heap.size + 3) (iU 0 none 0 0 0 none 0 0 none 0 0)) (w.heap.size + 4) (aZ 32) 0 ∧
  Below w.heap.size w ((u.setRow (w.heap.size + 3) (iU 0 none 0 0 0 none 0 0 none 0 0)).setRow (w.heap.size + 4) (aT (aZ 32) 0)) := by
 have h1 : dK (u.setRow (w.heap.size + 3) (iU 0 none 0 0 0 none 0 0 none 0 0)) (w.heap.size + 4) (aZ 32) 0 := (setRow_other _ _ _ _ (by omega)).trans H.e
 exact ⟨(setRow_other _ _ _ _ (by omega)).trans (setRow_heap _ _ _ _ _ _ H.t), h1.setRow, h1, aD (aD H.b (by omega)) (by omega)⟩
end
theorem zo.start (w : World) (P Q G : Int) (kind : Int) (Y : Option Addr) (yn yc : Nat) (B : Option Addr) (bn bc : Nat) (L : Option Addr) (ln lc : Nat) (h : List Int) (c : Int) :
  zo w P Q G kind Y yn yc B bn bc L ln lc h c (((((w.alloc (aN P Q G)).alloc (fO kind Y yn yc B bn bc L ln lc)).alloc (.cells (aT h c) 34)).alloc (tO 0 none 0 0 0 none 0 0 none 0 0)).alloc (.cells #[.int .u8 0, .int .u8 0, .int .u8 0, .int .u8 0, .int .u8 0, .int .u8 0, .int .u8 0, .int .u8 0, .int .u8 0, .int .u8 0, .int .u8 0, .int .u8 0, .int .u8 0, .int .u8 0, .int .u8 0, .int .u8 0, .int .u8 0, .int .u8 0, .int .u8 0, .int .u8 0, .int .u8 0, .int .u8 0, .int .u8 0, .int .u8 0, .int .u8 0, .int .u8 0, .int .u8 0, .int .u8 0, .int .u8 0, .int .u8 0, .int .u8 0, .int .u8 0, .int .i64 0] 34)) := by
 have e1 : (w.alloc (aN P Q G)).heap.size = w.heap.size + 1 := by simp
 have e2 : ((w.alloc (aN P Q G)).alloc (fO kind Y yn yc B bn bc L ln lc)).heap.size = w.heap.size + 2 := by simp
 have e3 : (((w.alloc (aN P Q G)).alloc (fO kind Y yn yc B bn bc L ln lc)).alloc (.cells (aT h c) 34)).heap.size = w.heap.size + 3 := by simp
 refine ⟨?_, ?_, ?_, ?_, ?_, ?_, ?_⟩
 · exact ((((az w P Q G).below (ai _ _)).below (ai _ _)).below (ai _ _)).below (ai _ _)
 ·
  have h0 := heap_alloc_new (w.alloc (aN P Q G)) (fO kind Y yn yc B bn bc L ln lc)
  rw [e1] at h0
  exact ((ai _ _).block _ (by simp)).trans (((ai _ _).block _ (by simp)).trans (((ai _ _).block _ (by simp)).trans h0))
 · rw [← e2]; exact ((dK.new _ _ _).below (ai _ _)).below (ai _ _)
 · rw [← e3]; exact heap_alloc2_old _ _ _
 · rw [show w.heap.size + 4 = (((w.alloc (aN P Q G)).alloc (fO kind Y yn yc B bn bc L ln lc)).alloc (.cells (aT h c) 34)).heap.size + 1 by rw [e3], Du]; exact heap_alloc2_new _ _ _
 · exact af (af (af (aB (Below.refl _ _)) (ai _ _)) (ai _ _)) (ai _ _)
 · simp
theorem O4 (P Q G : Int) (h : List Int) (hl : h.length = 32) (c : Int) : Tryz.prog.built 69 [(0, .agg #[.int .i64 P, .int .i64 Q, .int .i64 G]), (1, .agg (aT h c))] = some (Bp P Q G h c 0) := by
 obtain ⟨a0, a1, a2, a3, a4, a5, a6, a7, a8, a9, Pj, Ph, a12, Pg, Pf, Pe, a16, a17, Pd, Pb, a20, a21, a22, a23, a24, a25, a26, a27, a28, a29, a30, a31, rfl⟩ := yC h hl
 kernel_rfl
def xJ (P Q G : Int) (f : FT) (s : ByteArray) (w : World) (e : Ending) (w' : World) : Prop :=
 ∃ (e1 : Int) (t : TT) (h : List Int) (c : Int), e = .returned (Kb (tV t) h c e1) ∧ h.length = 32 ∧ Below w.heap.size w w' ∧ (e1 ≠ 0 → t.na = 0 ∧ t.ln = 0) ∧ (e1 = 0 → jB (bP s) = true ∧ f.tx.size ≤ 8000 ∧ f.acc P Q t ∧ bI w' t ∧ yI P Q G (bP s) (bP f.tx) (f.com t) = t.c)
theorem Js (P Q G : Int) (f : FT) (X : Option Addr) (xs : List Int) (xn xc : Nat) (s : ByteArray) (h : List Int) (c : Int) (hQ : Q < 9223372036854775808) (mq : Hid (xs.length = xn)) (qp : xn ≤ xc) (hxb : xn ≤ 1000) (hs : s.size ≤ 1000) (hl : Hid (h.length = 32)) (Gv : Hid (aH h = true)) (w : World) (hv : Hid (Vars w)) (hd : Hid (bX w)) (zu : Hid (iP w)) (hF : Hid (dU w f)) (hX : Hid (Sl w X xs)) (hV : Hid (VF P Q G f)) (hr : Hid (jB (bP s) = true)) :
  Calls Tryz.prog 11 #[gv P Q G, fV f, .slice X xn xc, .string s, .agg (aT h c)] w (xJ P Q G f s w) := by
 have HLB := hr
 unfold xJ
 have MS := aa (fun u hv hF => uN P Q G f hQ u hv hF hV)
 have Yc := aa (fun u hF => mU P Q G f.dp f u (Nat.le_refl _) hF hV.out.a)
 have Gj := aa (fun u hT hF => wR (P := P) (Q := Q) (G := G) f u hT hF hV)
 have Wo := aa (fun (hu : f.unk ≤ xn) u hv hF hX => wL P Q G hQ (aa hV.out.g) X xs xn xc mq qp hxb f.dp f u (Nat.le_refl _) hv hF hX hV.out.s hV.out.a hu)
 have HCM : Hid (∀ (b : Nat) (iG : w.heap.size ≤ b) (hu : f.unk ≤ xn) (hh : f.hld P Q G xs = true) (u : World), Hid (Below w.heap.size w u) → Hid (gp u b P Q G 0) → Calls Tryz.prog 29 #[.pointer (some ⟨b, 0, none⟩), fV f, .slice X xn xc] u (fun e w' => ∃ (e1 : Int) (d : PD), e = .returned (oM d.p) ∧ gp w' b P Q G e1 ∧ u.grownBy w' (some b) ∧ (e1 = 0 → (d.f = f ∧ d.dn = false ∧ d.gd P Q G xs) ∧ fB (fun k => u.heap.size ≤ k) w' (fun v => jP v d)))) := aa (fun b iG hu hh u hB hS => (ru P Q G (aa hV.out.g) w b iG hv hd X xs xn xc hX mq qp hxb f.dp f 0 u (Nat.le_refl _) hF hV.out.s hV.out.a hu hh hB hS).mono (by
  rintro e w' ⟨e1, d, h1, h2, h3, h4⟩
  exact ⟨e1, d, h1, h2, h3, fun h => by obtain ⟨_, a, b, c, d⟩ := h4 h; exact ⟨⟨a, b, c⟩, d⟩⟩))
 have KV : Hid (∀ dd : PD, (dd.f = f ∧ dd.dn = false ∧ dd.gd P Q G xs) → ∀ u, Hid (dU u f) → Hid (jP u dd) → Calls Tryz.prog 31 #[oM dd.p] u (fun e w' => ∃ v, e = .returned v ∧ gH w' u.heap.size v dd.com ∧ Below u.heap.size u w')) := aa (fun dd hg u hF hP => JL P Q G xs f.dp dd u (by rw [hg.1]; exact Nat.le_refl _) (by rw [hg.1]; exact hV.out.n) (by rw [hg.1]; exact hF) hP (by rw [hg.1]; exact hV.out.s) hg.2.2)
 have Dj : Hid (∀ dd : PD, (dd.f = f ∧ dd.dn = false ∧ dd.gd P Q G xs) → (∀ u : World, jP u dd → ∀ k, k < dd.com.length → l5 u (dd.com.getD k aG) ∧ Ca (dd.com.getD k aG).xs) ∧ 1 ≤ dd.com.length ∧ dd.com.length ≤ 30) := aa (fun dd hg => ⟨fun u hP k hk => xq (P := P) (Q := Q) (G := G) (xs := xs) f.dp dd (by rw [hg.1]; exact Nat.le_refl _) hP (by rw [hg.1]; exact hV.out.s) (by rw [hg.1]; exact hV.out.a) hg.2.2 _ (by rw [List.getD_eq_getElem?_getD, List.getElem?_eq_getElem hk]; exact List.getElem_mem hk), by
  have h1 := uS (P := P) (Q := Q) (G := G) (xs := xs) f.dp dd (by rw [hg.1]; exact Nat.le_refl _) (by rw [hg.1]; exact hV.out.s) hg.2.2
  have h2 := hV.out.n
  rw [hg.1] at h1
  omega⟩)
 have Ub : Hid (∀ (b : Nat) (iG : w.heap.size ≤ b) (s : Nat) (dd : PD), (dd.f = f ∧ dd.dn = false ∧ dd.gd P Q G xs) → ∀ (c : Int) (u : World), 0 ≤ c → c < Q → Hid (Below w.heap.size w u) → Hid (fB (fun q => b < q ∧ q < s) u (fun v => jP v dd)) → s ≤ u.heap.size → Hid (gp u b P Q G 0) → Calls Tryz.prog 32 #[.pointer (some ⟨b, 0, none⟩), oM dd.p, .int .i64 c, .slice X xn xc] u (fun e w' => ∃ (e1 : Int) (t : TT), e = .returned (tV t) ∧ gp w' b P Q G e1 ∧ u.grownBy w' (some b) ∧ (e1 = 0 → t.c = c ∧ f.acc P Q t ∧ f.com t = dd.com ∧ fB (fun q => b < q ∧ (q < s ∨ u.heap.size ≤ q)) w' (fun v => bI v t)))) := aa (fun b iG s dd hg c u h0 h1 hB hP hs hS => (pV P Q G (aa hV.out.g) w b iG hv X xs xn xc hX mq qp s f.dp dd c 0 u (by rw [hg.1]; exact Nat.le_refl _) h0 h1 hB (by rw [hg.1]; exact hF) (by rw [hg.1]; exact hV.out.s) hP hs hS hg.2.2).mono (by
  rintro e w' ⟨e1, t, h1, h2, h3, h4⟩
  refine ⟨e1, t, h1, h2, h3, fun h => ?_⟩
  obtain ⟨_, _, a, b, d⟩ := h4 h
  obtain ⟨a1, a2⟩ := a hg.2.1
  rw [hg.1] at a2 b
  exact ⟨a1, a2, b, d⟩))
 have ht1 := (sJ f.dp f (Nat.le_refl _) hF.out (Au f.dp f (Nat.le_refl _) hF.out hV.out.s hV.out.a)).2
 have Mc := xN (P := P) (Q := Q) (G := G) f.dp f (Nat.le_refl _) hV.out.a
 have ZO : FT.com f = FT.com f := rfl
 obtain ⟨p1, p2, p3, p4⟩ := aM hV.out.g
 have Py := aa (vY hV.out.g)
 have Ml : P_ f = if 8000 < f.tx.size then .tuple #[.string ⟨#[]⟩, .int .i64 5] else .tuple #[.string f.tx, .int .i64 0] := rfl
 rw [Ml] at Gj
 obtain ⟨acc, hacc⟩ : ∃ z, FT.acc P Q f = z := ⟨_, rfl⟩
 obtain ⟨Nu, l8⟩ : ∃ z, FT.com f = z := ⟨_, rfl⟩
 obtain ⟨Nt, yG⟩ : ∃ z, FT.tx f = z := ⟨_, rfl⟩
 obtain ⟨un, hun⟩ : ∃ z, FT.unk f = z := ⟨_, rfl⟩
 obtain ⟨hld, Re⟩ : ∃ z, FT.hld P Q G xs f = z := ⟨_, rfl⟩
 obtain ⟨GD, Ji⟩ : ∃ z : PD → Prop, (fun dd : PD => dd.f = f ∧ dd.dn = false ∧ dd.gd P Q G xs) = z := ⟨_, rfl⟩
 have RG : ∀ dd, (dd.f = f ∧ dd.dn = false ∧ dd.gd P Q G xs) = GD dd := fun dd => congrFun Ji dd
 simp only [RG] at HCM KV Dj Ub
 rw [hacc, l8] at Ub
 rw [yG] at Gj ht1
 rw [hun] at Yc Wo HCM Mc
 rw [Re] at Wo HCM
 rw [hacc, l8, yG]
 clear hacc l8 yG hun Re Ji RG Ml ZO
 obtain ⟨kind, Y, yn, yc, ys, B, bn, bc, rows, L, ln, lc, l⟩ := f
 obtain ⟨W, hW⟩ : ∃ W, (((((w.alloc (aN P Q G)).alloc (fO kind Y yn yc B bn bc L ln lc)).alloc (.cells (aT h c) 34)).alloc (tO 0 none 0 0 0 none 0 0 none 0 0)).alloc (.cells #[.int .u8 0, .int .u8 0, .int .u8 0, .int .u8 0, .int .u8 0, .int .u8 0, .int .u8 0, .int .u8 0, .int .u8 0, .int .u8 0, .int .u8 0, .int .u8 0, .int .u8 0, .int .u8 0, .int .u8 0, .int .u8 0, .int .u8 0, .int .u8 0, .int .u8 0, .int .u8 0, .int .u8 0, .int .u8 0, .int .u8 0, .int .u8 0, .int .u8 0, .int .u8 0, .int .u8 0, .int .u8 0, .int .u8 0, .int .u8 0, .int .u8 0, .int .u8 0, .int .i64 0] 34)) = W := ⟨_, rfl⟩
 have HI0 : Hid (zo w P Q G kind Y yn yc B bn bc L ln lc h c W) := aa (by rw [← hW]; exact zo.start w P Q G kind Y yn yc B bn bc L ln lc h c)
 have HW := aa hW
 have kV := aa (fun (u : World) (h : Below w.heap.size w u) => aa (hv.out.below h))
 have kD := aa (fun (u : World) (h : Below w.heap.size w u) => aa (hd.out.below h))
 have kP := aa (fun (u : World) (h : Below w.heap.size w u) => aa (zu.out.below h))
 have kF := aa (fun (u : World) (h : Below w.heap.size w u) => aa (hF.out.below h))
 have kX := aa (fun (u : World) (h : Below w.heap.size w u) => aa (hX.out.below h))
 clear hW hv hd zu hF hX hV
 go_in
 go_upto_region 1 with (fail)
 rw [HW.out]
 clear HW
 go_wp2_with fail
 refine (Dy s hs hr _ (kD.out _ HI0.out.b)).mono ?_
 rintro e_ w1 ⟨rfl, hb1⟩
 have HI1 := aa (HI0.out.below hb1)
 obtain ⟨S0, hS0⟩ : ∃ S, newL (bP s) = S := ⟨_, rfl⟩
 have sU : Hid (S0.length = 32) := aa (by rw [← hS0]; exact (G_ _).1)
 rw [hS0, show J9 S0 0 0 = .tuple #[.agg (aT S0 0), .int .i64 0] from rfl]
 clear hb1 hS0 HI0
 go_upto_region 3 with ((with_reducible show wpList _ _ _ (⟨none, _, _, _, _, _⟩ :: _) _ _); refine wpList_store_row rfl 58 _ _ rfl w1.heap.size (aT S0 0) rfl rfl _ _ (heap_alloc_new _ _) (bZ sU.out) (fe (h := aZ 32) (c := 0) rfl sU.out) (bg _ _) ?_)
 rw [World.setRow_alloc_new]
 try simp only [Act.put]
 have HI2 := aa (HI1.out.below (ai w1 (.cells (aT S0 0) 58)))
 obtain ⟨W2, hW2⟩ : ∃ u, w1.alloc (.cells (aT S0 0) 58) = u := ⟨_, rfl⟩
 rw [hW2] at HI2 ⊢
 clear hW2 HI1 sU
 obtain ⟨g0, g1, g2⟩ := HI2.out.g
 obtain ⟨f0, f1, f2, f3⟩ := HI2.out.fc
 go_wp2_with fail
 refine (MS.out _ (kV.out _ HI2.out.b) (kF.out _ HI2.out.b)).mono ?_
 rintro e_ w3 ⟨rfl, hb3⟩
 have HI3 := aa (HI2.out.below hb3)
 clear hb3 g0 g1 g2 f0 f1 f2 f3
 go_wp2_with ((with_reducible show wpList _ _ _ (⟨some 36, _, _, _, _, _⟩ :: _) _ _); refine oO (by rfl) 34 _ rfl (w.heap.size + 2) rfl _ _ _ _ HI3.out.d Tryz.underlying34 rfl (aK hl.out) ?_)
 by_cases hdr : zx c = true
 case neg =>
  refine (oF h hl c false (aa (by simpa using hdr)) _).mono ?_
  rintro e_ w4 ⟨rfl, hb4⟩
  have HI4 := aa (HI3.out.below hb4)
  clear hb4
  go_wp2_with fail
  refine (gM (1) _).mono ?_
  rintro e_ wf ⟨rfl, hbf⟩
  have nN := aa (HI4.out.below hbf)
  rw [show zw (aZ 32) 0 (1) = .tuple #[.agg (iU 0 none 0 0 0 none 0 0 none 0 0), .agg (aT (aZ 32) 0), .int .i64 (1)] from rfl]
  obtain ⟨hq, hdd, hd1, dw⟩ := nN.out.fail
  have Dt := aa hd1
  have nW := aa nN.out.t
  have Bf := aa hq
  have rQ := aa hdd
  have fH := aa dw
  clear hq hdd hd1 dw hbf
  go_wp2_with (first
   | ((with_reducible show wpList _ _ _ (⟨none, Op.store _ (Operand.tmp 10) _, _, _, _, _⟩ :: _) _ _); refine wpList_store_row rfl 39 _ _ rfl (w.heap.size + 3) (iU 0 none 0 0 0 none 0 0 none 0 0) rfl rfl _ _ nW.out bE rfl (dP _ _ _ _ _ _ _ _ _ _ _) ?_)
   | ((with_reducible show wpList _ _ _ (⟨none, Op.store _ (Operand.tmp 11) _, _, _, _, _⟩ :: _) _ _); refine wpList_store_row rfl 34 _ _ rfl (w.heap.size + 4) (aT (aZ 32) 0) rfl rfl _ _ Dt.out (aK rfl) rfl (bg _ _) ?_))
  exact bodyPost_ret (v := zw (aZ 32) 0 (1)) (bq (p := 10) (q := 11) (r := 12) (ty := 39) (ty2 := 34) rfl _ _ ⟨w.heap.size + 3, 0, none⟩ ⟨w.heap.size + 4, 0, none⟩ _ _ _ rfl rfl rfl (run_loadVar_row _ _ _ _ _ _ _ Bf.out Tryz.underlying39 rfl bE) (run_loadVar_row _ _ _ _ _ _ _ rQ.out Tryz.underlying34 rfl (aK rfl))) rfl ⟨_, noT, aZ 32, 0, rfl, rfl, fH.out, fun _ => ⟨rfl, rfl⟩, fun h => absurd h (by decide)⟩
 refine (oF h hl c true (aa hdr) _).mono ?_
 rintro e_ w4 ⟨rfl, hb4⟩
 have HI4 := aa (HI3.out.below hb4)
 have HDR := aa hdr
 clear hb4 hdr
 obtain ⟨g0, g1, g2⟩ := HI4.out.g
 obtain ⟨f0, f1, f2, f3⟩ := HI4.out.fc
 go_wp2_with fail
 refine (Yc.out _ (kF.out _ HI4.out.b)).mono ?_
 rintro e_ w5 ⟨rfl, hb5⟩
 have qX := aa (HI4.out.below hb5)
 clear hb5 g0 g1 g2 f0 f1 f2 f3
 by_cases hxu : xn = un
 case neg =>
  have d1 : ((xn : Int) == (un : Int)) = false := by simp; omega
  have d2 : ((xn : Int) != (un : Int)) = true := by simp; omega
  clear hxu
  go_wp2_with fail
  refine (gM (1) _).mono ?_
  rintro e_ wf ⟨rfl, hbf⟩
  have nN := aa (qX.out.below hbf)
  rw [show zw (aZ 32) 0 (1) = .tuple #[.agg (iU 0 none 0 0 0 none 0 0 none 0 0), .agg (aT (aZ 32) 0), .int .i64 (1)] from rfl]
  obtain ⟨hq, hdd, hd1, dw⟩ := nN.out.fail
  have Dt := aa hd1
  have nW := aa nN.out.t
  have Bf := aa hq
  have rQ := aa hdd
  have fH := aa dw
  clear hq hdd hd1 dw hbf
  go_wp2_with (first
   | ((with_reducible show wpList _ _ _ (⟨none, Op.store _ (Operand.tmp 10) _, _, _, _, _⟩ :: _) _ _); refine wpList_store_row rfl 39 _ _ rfl (w.heap.size + 3) (iU 0 none 0 0 0 none 0 0 none 0 0) rfl rfl _ _ nW.out bE rfl (dP _ _ _ _ _ _ _ _ _ _ _) ?_)
   | ((with_reducible show wpList _ _ _ (⟨none, Op.store _ (Operand.tmp 11) _, _, _, _, _⟩ :: _) _ _); refine wpList_store_row rfl 34 _ _ rfl (w.heap.size + 4) (aT (aZ 32) 0) rfl rfl _ _ Dt.out (aK rfl) rfl (bg _ _) ?_))
  exact bodyPost_ret (v := zw (aZ 32) 0 (1)) (bq (p := 10) (q := 11) (r := 12) (ty := 39) (ty2 := 34) rfl _ _ ⟨w.heap.size + 3, 0, none⟩ ⟨w.heap.size + 4, 0, none⟩ _ _ _ rfl rfl rfl (run_loadVar_row _ _ _ _ _ _ _ Bf.out Tryz.underlying39 rfl bE) (run_loadVar_row _ _ _ _ _ _ _ rQ.out Tryz.underlying34 rfl (aK rfl))) rfl ⟨_, noT, aZ 32, 0, rfl, rfl, fH.out, fun _ => ⟨rfl, rfl⟩, fun h => absurd h (by decide)⟩
 have d1 : ((xn : Int) == (un : Int)) = true := by simp; omega
 have d2 : ((xn : Int) != (un : Int)) = false := by simp; omega
 have X8 : Hid (un ≤ xn) := aa (by omega)
 clear hxu
 obtain ⟨g0, g1, g2⟩ := qX.out.g
 obtain ⟨f0, f1, f2, f3⟩ := qX.out.fc
 go_wp2_with fail
 clear d1 d2
 by_cases hsc : xs.all (cu Q) = true
 case neg =>
  refine (pU P Q G X xs xn xc false (aa (by simpa using hsc)) mq (aa (by omega)) _ (kX.out _ qX.out.b)).mono ?_
  rintro e_ w6 ⟨rfl, hb6⟩
  have rP := aa (qX.out.below hb6)
  clear hb6 g0 g1 g2 f0 f1 f2 f3
  go_wp2_with fail
  refine (gM (2) _).mono ?_
  rintro e_ wf ⟨rfl, hbf⟩
  have nN := aa (rP.out.below hbf)
  rw [show zw (aZ 32) 0 (2) = .tuple #[.agg (iU 0 none 0 0 0 none 0 0 none 0 0), .agg (aT (aZ 32) 0), .int .i64 (2)] from rfl]
  obtain ⟨hq, hdd, hd1, dw⟩ := nN.out.fail
  have Dt := aa hd1
  have nW := aa nN.out.t
  have Bf := aa hq
  have rQ := aa hdd
  have fH := aa dw
  clear hq hdd hd1 dw hbf
  go_wp2_with (first
   | ((with_reducible show wpList _ _ _ (⟨none, Op.store _ (Operand.tmp 10) _, _, _, _, _⟩ :: _) _ _); refine wpList_store_row rfl 39 _ _ rfl (w.heap.size + 3) (iU 0 none 0 0 0 none 0 0 none 0 0) rfl rfl _ _ nW.out bE rfl (dP _ _ _ _ _ _ _ _ _ _ _) ?_)
   | ((with_reducible show wpList _ _ _ (⟨none, Op.store _ (Operand.tmp 11) _, _, _, _, _⟩ :: _) _ _); refine wpList_store_row rfl 34 _ _ rfl (w.heap.size + 4) (aT (aZ 32) 0) rfl rfl _ _ Dt.out (aK rfl) rfl (bg _ _) ?_))
  exact bodyPost_ret (v := zw (aZ 32) 0 (2)) (bq (p := 10) (q := 11) (r := 12) (ty := 39) (ty2 := 34) rfl _ _ ⟨w.heap.size + 3, 0, none⟩ ⟨w.heap.size + 4, 0, none⟩ _ _ _ rfl rfl rfl (run_loadVar_row _ _ _ _ _ _ _ Bf.out Tryz.underlying39 rfl bE) (run_loadVar_row _ _ _ _ _ _ _ rQ.out Tryz.underlying34 rfl (aK rfl))) rfl ⟨_, noT, aZ 32, 0, rfl, rfl, fH.out, fun _ => ⟨rfl, rfl⟩, fun h => absurd h (by decide)⟩
 refine (pU P Q G X xs xn xc true (aa hsc) mq (aa (by omega)) _ (kX.out _ qX.out.b)).mono ?_
 rintro e_ w6 ⟨rfl, hb6⟩
 have rP := aa (qX.out.below hb6)
 clear hb6 g0 g1 g2 f0 f1 f2 f3
 clear hsc
 obtain ⟨g0, g1, g2⟩ := rP.out.g
 obtain ⟨f0, f1, f2, f3⟩ := rP.out.fc
 go_wp2_with fail
 refine (Wo.out X8.out _ (kV.out _ rP.out.b) (kF.out _ rP.out.b) (kX.out _ rP.out.b)).mono ?_
 rintro e_ w7 ⟨rfl, D8⟩
 have vg := aa (rP.out.below D8)
 clear D8 g0 g1 g2 f0 f1 f2 f3
 cases Cr : hld with
 | false =>
  subst Cr
  go_wp2_with fail
  refine (gM (11) _).mono ?_
  rintro e_ wf ⟨rfl, hbf⟩
  have nN := aa (vg.out.below hbf)
  rw [show zw (aZ 32) 0 (11) = .tuple #[.agg (iU 0 none 0 0 0 none 0 0 none 0 0), .agg (aT (aZ 32) 0), .int .i64 (11)] from rfl]
  obtain ⟨hq, hdd, hd1, dw⟩ := nN.out.fail
  have Dt := aa hd1
  have nW := aa nN.out.t
  have Bf := aa hq
  have rQ := aa hdd
  have fH := aa dw
  clear hq hdd hd1 dw hbf
  go_wp2_with (first
   | ((with_reducible show wpList _ _ _ (⟨none, Op.store _ (Operand.tmp 10) _, _, _, _, _⟩ :: _) _ _); refine wpList_store_row rfl 39 _ _ rfl (w.heap.size + 3) (iU 0 none 0 0 0 none 0 0 none 0 0) rfl rfl _ _ nW.out bE rfl (dP _ _ _ _ _ _ _ _ _ _ _) ?_)
   | ((with_reducible show wpList _ _ _ (⟨none, Op.store _ (Operand.tmp 11) _, _, _, _, _⟩ :: _) _ _); refine wpList_store_row rfl 34 _ _ rfl (w.heap.size + 4) (aT (aZ 32) 0) rfl rfl _ _ Dt.out (aK rfl) rfl (bg _ _) ?_))
  exact bodyPost_ret (v := zw (aZ 32) 0 (11)) (bq (p := 10) (q := 11) (r := 12) (ty := 39) (ty2 := 34) rfl _ _ ⟨w.heap.size + 3, 0, none⟩ ⟨w.heap.size + 4, 0, none⟩ _ _ _ rfl rfl rfl (run_loadVar_row _ _ _ _ _ _ _ Bf.out Tryz.underlying39 rfl bE) (run_loadVar_row _ _ _ _ _ _ _ rQ.out Tryz.underlying34 rfl (aK rfl))) rfl ⟨_, noT, aZ 32, 0, rfl, rfl, fH.out, fun _ => ⟨rfl, rfl⟩, fun h => absurd h (by decide)⟩
 | true =>
 subst Cr
 obtain ⟨g0, g1, g2⟩ := vg.out.g
 obtain ⟨f0, f1, f2, f3⟩ := vg.out.fc
 go_wp2_with fail
 refine (Gj.out _ (kP.out _ vg.out.b) (kF.out _ vg.out.b)).mono ?_
 rintro e_ w8 ⟨rfl, TH⟩
 have Qn := aa (vg.out.below TH)
 clear TH g0 g1 g2 f0 f1 f2 f3
 by_cases htx : 8000 < Nt.size
 ·
  rw [if_pos htx]
  clear htx
  go_wp2_with fail
  refine (gM (5) _).mono ?_
  rintro e_ wf ⟨rfl, hbf⟩
  have nN := aa (Qn.out.below hbf)
  rw [show zw (aZ 32) 0 (5) = .tuple #[.agg (iU 0 none 0 0 0 none 0 0 none 0 0), .agg (aT (aZ 32) 0), .int .i64 (5)] from rfl]
  obtain ⟨hq, hdd, hd1, dw⟩ := nN.out.fail
  have Dt := aa hd1
  have nW := aa nN.out.t
  have Bf := aa hq
  have rQ := aa hdd
  have fH := aa dw
  clear hq hdd hd1 dw hbf
  go_wp2_with (first
   | ((with_reducible show wpList _ _ _ (⟨none, Op.store _ (Operand.tmp 10) _, _, _, _, _⟩ :: _) _ _); refine wpList_store_row rfl 39 _ _ rfl (w.heap.size + 3) (iU 0 none 0 0 0 none 0 0 none 0 0) rfl rfl _ _ nW.out bE rfl (dP _ _ _ _ _ _ _ _ _ _ _) ?_)
   | ((with_reducible show wpList _ _ _ (⟨none, Op.store _ (Operand.tmp 11) _, _, _, _, _⟩ :: _) _ _); refine wpList_store_row rfl 34 _ _ rfl (w.heap.size + 4) (aT (aZ 32) 0) rfl rfl _ _ Dt.out (aK rfl) rfl (bg _ _) ?_))
  exact bodyPost_ret (v := zw (aZ 32) 0 (5)) (bq (p := 10) (q := 11) (r := 12) (ty := 39) (ty2 := 34) rfl _ _ ⟨w.heap.size + 3, 0, none⟩ ⟨w.heap.size + 4, 0, none⟩ _ _ _ rfl rfl rfl (run_loadVar_row _ _ _ _ _ _ _ Bf.out Tryz.underlying39 rfl bE) (run_loadVar_row _ _ _ _ _ _ _ rQ.out Tryz.underlying34 rfl (aK rfl))) rfl ⟨_, noT, aZ 32, 0, rfl, rfl, fH.out, fun _ => ⟨rfl, rfl⟩, fun h => absurd h (by decide)⟩
 rw [if_neg htx]
 have R6 : Hid (Nt.size ≤ 8000) := aa (by omega)
 clear htx
 obtain ⟨g0, g1, g2⟩ := Qn.out.g
 go_upto_region 13 with (first
  | ((with_reducible show wpList _ _ _ (⟨some 87, _, _, _, _, _⟩ :: _) _ _); refine wpList_load_row rfl 34 _ rfl (w.heap.size + 2) rfl _ _ _ _ Qn.out.d Tryz.underlying34 rfl (aK hl.out) ?_)
  | ((with_reducible show wpList _ _ _ (⟨some 88, _, _, _, _, _⟩ :: _) _ _); refine dA rfl 69 [(0, .tmp 86), (1, .tmp 87)] rfl _ (O4 P Q G h hl.out c) ?_))
 clear g0 g1 g2
 obtain ⟨w9, TD⟩ : ∃ u, w8.alloc (.cells (Bp P Q G h c 0) 69) = u := ⟨_, rfl⟩
 have Ve : Below w8.heap.size w8 w9 := by rw [← TD]; exact ai _ _
 have V3 : Hid (gp w9 w8.heap.size P Q G 0) := aa ⟨h, c, by rw [← TD]; exact heap_alloc_new _ _, hl.out, Gv.out, fun _ => HDR.out⟩
 have M6 := aa (Qn.out.below Ve)
 rw [TD]
 obtain ⟨b, hbb⟩ : ∃ z, w8.heap.size = z := ⟨_, rfl⟩
 have zm : Hid (w.heap.size + 5 ≤ b) := aa (by have := Qn.out.z; omega)
 rw [hbb] at V3 ⊢
 clear TD Ve hbb Qn
 obtain ⟨f0, f1, f2, f3⟩ := M6.out.fc
 go_wp2_with fail
 refine (HCM.out b (by have := zm.out; omega) X8.out (by first | rfl | trivial) _ (aa M6.out.b) V3).mono ?_
 rintro e_ P9 ⟨e1, dd, rfl, Ov, Rh, OE⟩
 have Px := aa Ov
 have Gr := aa (M6.out.grown Rh zm.out)
 have Ur := aa V3.out.lt
 have aaW := aa Ov.lt
 clear Ov Rh f0 f1 f2 f3
 obtain ⟨q1, q2⟩ := Px.out.ce
 by_cases he1 : e1 = 0
 case neg =>
  have d1 : (e1 != 0) = true := by simp [he1]
  have d2 : (e1 == 0) = false := by simp [he1]
  have Dr := aa he1
  clear OE he1
  go_wp2_with fail
  clear q1 q2 d1 d2
  refine (gM (e1) _).mono ?_
  rintro e_ wf ⟨rfl, hbf⟩
  have nN := aa (Gr.out.below hbf)
  rw [show zw (aZ 32) 0 (e1) = .tuple #[.agg (iU 0 none 0 0 0 none 0 0 none 0 0), .agg (aT (aZ 32) 0), .int .i64 (e1)] from rfl]
  obtain ⟨hq, hdd, hd1, dw⟩ := nN.out.fail
  have Dt := aa hd1
  have nW := aa nN.out.t
  have Bf := aa hq
  have rQ := aa hdd
  have fH := aa dw
  clear hq hdd hd1 dw hbf
  go_wp2_with (first
   | ((with_reducible show wpList _ _ _ (⟨none, Op.store _ (Operand.tmp 10) _, _, _, _, _⟩ :: _) _ _); refine wpList_store_row rfl 39 _ _ rfl (w.heap.size + 3) (iU 0 none 0 0 0 none 0 0 none 0 0) rfl rfl _ _ nW.out bE rfl (dP _ _ _ _ _ _ _ _ _ _ _) ?_)
   | ((with_reducible show wpList _ _ _ (⟨none, Op.store _ (Operand.tmp 11) _, _, _, _, _⟩ :: _) _ _); refine wpList_store_row rfl 34 _ _ rfl (w.heap.size + 4) (aT (aZ 32) 0) rfl rfl _ _ Dt.out (aK rfl) rfl (bg _ _) ?_))
  exact bodyPost_ret (v := zw (aZ 32) 0 (e1)) (bq (p := 10) (q := 11) (r := 12) (ty := 39) (ty2 := 34) rfl _ _ ⟨w.heap.size + 3, 0, none⟩ ⟨w.heap.size + 4, 0, none⟩ _ _ _ rfl rfl rfl (run_loadVar_row _ _ _ _ _ _ _ Bf.out Tryz.underlying39 rfl bE) (run_loadVar_row _ _ _ _ _ _ _ rQ.out Tryz.underlying34 rfl (aK rfl))) rfl ⟨_, noT, aZ 32, 0, rfl, rfl, fH.out, fun _ => ⟨rfl, rfl⟩, fun h => absurd h (Dr.out)⟩
 subst he1
 obtain ⟨hgd, hkp⟩ := OE rfl
 have HGD := aa hgd
 obtain ⟨sz, hsz⟩ : ∃ z, P9.heap.size = z := ⟨_, rfl⟩
 have Kq : Hid (fB (fun q => b < q ∧ q < sz) P9 (fun v => jP v dd)) := aa (hkp.mono (fun q h1 h2 => ⟨by have := Ur.out; omega, by omega⟩))
 have qj := aa hsz
 obtain ⟨hrow, hcm1, hcm2⟩ := Dj.out dd hgd
 have Uc := aa hrow
 obtain ⟨pp, Md⟩ : ∃ z, dd.p = z := ⟨_, rfl⟩
 have hco := KV.out dd hgd
 have hrs := fun (u : World) (cc : Int) => Ub.out b (by have := zm.out; omega) sz dd hgd cc u
 rw [Md] at hco hrs
 obtain ⟨cm, hcm⟩ : ∃ z, dd.com = z := ⟨_, rfl⟩
 rw [hcm] at hco hrs Uc hcm1 hcm2
 have Tj := aa hco
 have Sm := aa hrs
 rw [Md]
 clear OE hgd hkp hsz hrow hco hrs Md hcm HCM KV Dj Ub HGD
 obtain ⟨g0, g1, g2⟩ := Gr.out.g
 go_upto_region 16 with (fail)
 clear q1 q2
 have hO := aa (fun (u : World) (hu : Hid (Below P9.heap.size P9 u)) => And.intro (cell_below g0 hu.out) (And.intro (cell_below g1 hu.out) (cell_below g2 hu.out)))
 clear g0 g1 g2
 obtain ⟨V, hV⟩ : ∃ V, yI P Q G (bP s) (bP Nt) cm = V := ⟨_, rfl⟩
 obtain ⟨ZH, hV1⟩ : 0 ≤ V ∧ V < Q := by rw [← hV]; exact Mt (by omega) _ _ _
 have VP : Kp (yI P Q G (bP s) (bP Nt) cm = V) := ⟨hV⟩
 clear hV
 refine je [] (dS P9) (fun hHeld => ?_)
 refine aX 0 1 2 3 ?_
 refine dO 4 fun K hK => ?_
 go_simp
 refine (Tj.out _ (kF.out _ (af Gr.out.b hHeld.out)) (aa (Kq.out.step (fun q h1 h2 => hHeld.out.block q h1) hHeld.out.size (fun _ _ h => h)).here)).mono ?_
 rintro e_ wA ⟨vA, rfl, I_, bA⟩
 refine hK.out _ _ (cZ hHeld bA) (fun hHeld => ?_)
 clear hK K
 obtain ⟨gA, C_, Oj, -, -, hcA⟩ := gH.form I_ (by omega)
 subst Oj
 have HRW : Hid (Rw wA (some ⟨gA, 0, none⟩) cm) := aa (fun k hk => by
  have hg : (cm.map Row.val)[k]? = some (cm.getD k aG).val := by
   rw [List.getElem?_map, List.getD_eq_getElem?_getD, List.getElem?_eq_getElem hk]; rfl
  refine ⟨⟨gA, 0, rfl, by rw [Nat.zero_add]; exact hcA k _ hg⟩, ?_⟩
  exact (Uc.out wA (Kq.out.step (fun q h1 h2 => hHeld.out.block q h1) hHeld.out.size (fun _ _ h => h)).here k hk).1)
 have jl : Hid (∀ k, k < cm.length → Ca (cm.getD k aG).xs) := aa (fun k hk => (Uc.out P9 Kq.out.here k hk).2)
 refine dO 5 fun K hK => ?_
 go_simp
 refine (wO P Q G Nt ht1 R6.out s hs hr (some ⟨gA, 0, none⟩) cm cm.length C_ (aa rfl) (by omega) Py jl (by omega) (by omega) V VP _ (kD.out _ (af Gr.out.b hHeld.out)) HRW).mono ?_
 rintro e_ wB ⟨rfl, Rs⟩
 refine hK.out _ _ (cZ hHeld Rs) (fun hHeld => ?_)
 clear hK K HRW I_ hcA bA Rs
 refine aX 6 7 8 9 ?_
 refine aQ 10 ?_
 refine jf ?_
 clear hO
 have SQ := aa (Gr.out.below hHeld.out)
 have sF := aa (Px.out.below hHeld.out)
 have HKB : Hid (fB (fun q => b < q ∧ q < sz) wB (fun v => jP v dd)) := aa (Kq.out.step (fun q h1 h2 => hHeld.out.block q h1) hHeld.out.size (fun _ _ h => h))
 have HZB : Hid (sz ≤ wB.heap.size) := aa (by have := hHeld.out.size; have := qj.out; omega)
 clear hHeld Gr Px Kq Uc jl
 go_wp2_with fail
 refine (Sm.out wB V ZH hV1 (aa SQ.out.b) HKB HZB.out sF).mono ?_
 rintro e_ P8 ⟨e1, t, rfl, Q5, OA, Rn⟩
 have V5 := aa Q5
 have SS := aa (SQ.out.grown OA zm.out)
 have Tk := aa Rn
 have aaq := aa OA.size
 clear Q5 OA Rn Sm Tj
 obtain ⟨tc, tA, na, ca, al, pc, Zp, nz, cz, zs, TL, tn, fU, tl⟩ := t
 go_upto_region 20 with (fail)
 obtain ⟨KF, L_⟩ : ∃ u, P8.alloc (tO tc tA na ca pc Zp nz cz TL tn fU) = u := ⟨_, rfl⟩
 have Mi : Below P8.heap.size P8 KF := by rw [← L_]; exact ai _ _
 have R8 : Hid (KF.heap[P8.heap.size]? = some (tO tc tA na ca pc Zp nz cz TL tn fU)) := aa (by rw [← L_]; exact heap_alloc_new _ _)
 have M7 := aa (SS.out.below Mi)
 have Sy := aa (V5.out.below Mi)
 have WR := aa Mi
 rw [L_]
 obtain ⟨tb, htb⟩ : ∃ z, P8.heap.size = z := ⟨_, rfl⟩
 have nV : Hid (P8.heap.size = tb) := aa htb
 rw [htb] at R8 ⊢
 clear L_ Mi htb
 obtain ⟨q1, q2⟩ := Sy.out.ce
 by_cases he1 : e1 = 0
 case neg =>
  have d1 : (e1 != 0) = true := by simp [he1]
  have d2 : (e1 == 0) = false := by simp [he1]
  have Dr := aa he1
  clear he1
  go_wp2_with fail
  clear q1 q2 d1 d2
  refine (gM (e1) _).mono ?_
  rintro e_ wf ⟨rfl, hbf⟩
  have nN := aa (M7.out.below hbf)
  rw [show zw (aZ 32) 0 (e1) = .tuple #[.agg (iU 0 none 0 0 0 none 0 0 none 0 0), .agg (aT (aZ 32) 0), .int .i64 (e1)] from rfl]
  obtain ⟨hq, hdd, hd1, dw⟩ := nN.out.fail
  have Dt := aa hd1
  have nW := aa nN.out.t
  have Bf := aa hq
  have rQ := aa hdd
  have fH := aa dw
  clear hq hdd hd1 dw hbf
  go_wp2_with (first
   | ((with_reducible show wpList _ _ _ (⟨none, Op.store _ (Operand.tmp 10) _, _, _, _, _⟩ :: _) _ _); refine wpList_store_row rfl 39 _ _ rfl (w.heap.size + 3) (iU 0 none 0 0 0 none 0 0 none 0 0) rfl rfl _ _ nW.out bE rfl (dP _ _ _ _ _ _ _ _ _ _ _) ?_)
   | ((with_reducible show wpList _ _ _ (⟨none, Op.store _ (Operand.tmp 11) _, _, _, _, _⟩ :: _) _ _); refine wpList_store_row rfl 34 _ _ rfl (w.heap.size + 4) (aT (aZ 32) 0) rfl rfl _ _ Dt.out (aK rfl) rfl (bg _ _) ?_))
  exact bodyPost_ret (v := zw (aZ 32) 0 (e1)) (bq (p := 10) (q := 11) (r := 12) (ty := 39) (ty2 := 34) rfl _ _ ⟨w.heap.size + 3, 0, none⟩ ⟨w.heap.size + 4, 0, none⟩ _ _ _ rfl rfl rfl (run_loadVar_row _ _ _ _ _ _ _ Bf.out Tryz.underlying39 rfl bE) (run_loadVar_row _ _ _ _ _ _ _ rQ.out Tryz.underlying34 rfl (aK rfl))) rfl ⟨_, noT, aZ 32, 0, rfl, rfl, fH.out, fun _ => ⟨rfl, rfl⟩, fun h => absurd h (Dr.out)⟩
 subst he1
 obtain ⟨a1, a2, a3, a4⟩ := Tk.out rfl
 try dsimp only at a1
 have HA1 := aa a1
 have HA2 := aa a2
 have Bn := aa a3
 have KC := aa a4
 obtain ⟨h2, c2, Nr, hl2, hb2, -⟩ := Sy.out
 have sF := aa Nr
 have HL2 := aa hl2
 clear a1 a2 a3 a4 Nr hl2 hb2 Tk
 go_upto_region 22 with (fail)
 clear q1 q2
 have hw3 : Hid (KF.drew.heap[w.heap.size + 3]? = some (tO 0 none 0 0 0 none 0 0 none 0 0)) := aa M7.out.t
 have hO : Hid (∀ u : World, Hid (∀ k, w.heap.size + 5 ≤ k → u.heap[k]? = KF.heap[k]?) → (u.cell? ⟨tb, 0, none⟩ = some (.int .i64 tc) ∧ u.cell? ⟨tb, 1, none⟩ = some (.slice tA na ca) ∧ u.cell? ⟨tb, 2, none⟩ = some (.int .i64 pc) ∧ u.cell? ⟨tb, 3, none⟩ = some (.slice Zp nz cz) ∧ u.cell? ⟨tb, 4, none⟩ = some (.slice TL tn fU))) := aa (fun u hu => by
  have hb : u.heap[tb]? = some (tO tc tA na ca pc Zp nz cz TL tn fU) := (hu.out tb (by have := nV.out; have := SS.out.z; omega)).trans R8.out
  exact ⟨aj hb 0, aj hb 1, aj hb 2, aj hb 3, aj hb 4⟩)
 refine BK (fun u => ∀ k, w.heap.size + 5 ≤ k → u.heap[k]? = KF.heap[k]?) [6, 7] (aa (fun _ _ => rfl)) (fun hHeld => ?_)
 refine aX 0 1 2 3 ?_
 refine UD 4 (.agg (aT h2 c2)) rfl (mE 34 _ rfl b 3 rfl (aT h2 c2).toList _ (fun u hu => vz.range (P := P) (Q := Q) (G := G) (e := 0) ((hu.out b zm.out).trans sF.out) HL2.out) Tryz.underlying34 rfl (mX HL2.out)) ?_
 refine dO 5 fun K hK => ?_
 rw [show (if Region.wanted _ _ = true then _ else _ : Prop) = _ from if_pos rfl]
 refine wp_store_row 39 _ _ rfl (w.heap.size + 3) (iU tc tA na ca pc Zp nz cz TL tn fU) rfl rfl 39 _ hw3.out bE rfl (dP _ _ _ _ _ _ _ _ _ _ _) ?_
 refine hK.out _ _ (aa (fun k hk => setRow_other _ _ _ _ (by omega))) (fun hHeld => ?_)
 clear hK K
 have Te : Hid (dK (KF.drew.setRow (w.heap.size + 3) (iU tc tA na ca pc Zp nz cz TL tn fU)) (w.heap.size + 4) (aZ 32) 0) := aa ((setRow_other _ _ _ _ (by omega)).trans M7.out.e)
 refine mo 6 fun K hK => ?_
 rw [show (if Region.wanted _ _ = true then _ else _ : Prop) = _ from if_pos rfl]
 refine wp_store_row 34 _ _ rfl (w.heap.size + 4) (aT h2 c2) rfl rfl 34 _ Te.out (aK HL2.out) (fe rfl HL2.out) (bg _ _) ?_
 refine hK.out _ _ ?_
 clear hK K
 refine mo 7 fun K hK => ?_
 go_simp
 refine hK.out _ _ ?_
 clear hK K
 refine jf ?_
 clear hO
 have V4 : Hid (((KF.drew.setRow (w.heap.size + 3) (iU tc tA na ca pc Zp nz cz TL tn fU)).setRow (w.heap.size + 4) (aT h2 c2)).heap[w.heap.size + 3]? = some (tO tc tA na ca pc Zp nz cz TL tn fU)) := aa ((setRow_other _ _ _ _ (by omega)).trans (setRow_heap _ _ _ _ _ _ hw3.out))
 have Wy : Hid (dK ((KF.drew.setRow (w.heap.size + 3) (iU tc tA na ca pc Zp nz cz TL tn fU)).setRow (w.heap.size + 4) (aT h2 c2)) (w.heap.size + 4) h2 c2) := aa Te.out.setRow
 have fH : Hid (Below w.heap.size w ((KF.drew.setRow (w.heap.size + 3) (iU tc tA na ca pc Zp nz cz TL tn fU)).setRow (w.heap.size + 4) (aT h2 c2))) := aa (aD (aD (af M7.out.b (Below.refl _ _).drew) (by omega)) (by omega))
 have HTF : Hid (bI ((KF.drew.setRow (w.heap.size + 3) (iU tc tA na ca pc Zp nz cz TL tn fU)).setRow (w.heap.size + 4) (aT h2 c2)) ⟨tc, tA, na, ca, al, pc, Zp, nz, cz, zs, TL, tn, fU, tl⟩) := aa (KC.out _ (fun k k1 k2 => (setRow_other _ _ _ _ (by have := zm.out; omega)).trans ((setRow_other _ _ _ _ (by have := zm.out; omega)).trans (WR.out.block k k1))))
 have Qq : Hid (yI P Q G (bP s) (bP Nt) (Nu ⟨tc, tA, na, ca, al, pc, Zp, nz, cz, zs, TL, tn, fU, tl⟩) = tc) := aa (by rw [Bn.out]; exact VP.1.trans HA1.out.symm)
 clear VP
 go_wp2
 exact bodyPost_ret (v := Kb (tV ⟨tc, tA, na, ca, al, pc, Zp, nz, cz, zs, TL, tn, fU, tl⟩) h2 c2 0) (bq (p := 10) (q := 11) (r := 12) (ty := 39) (ty2 := 34) rfl _ _ ⟨w.heap.size + 3, 0, none⟩ ⟨w.heap.size + 4, 0, none⟩ _ _ _ rfl rfl rfl (run_loadVar_row _ _ _ _ _ _ _ V4.out Tryz.underlying39 rfl bE) (run_loadVar_row _ _ _ _ _ _ _ Wy.out Tryz.underlying34 rfl (aK HL2.out))) rfl ⟨0, ⟨tc, tA, na, ca, al, pc, Zp, nz, cz, zs, TL, tn, fU, tl⟩, h2, c2, rfl, HL2.out, fH.out, fun h => absurd rfl h, fun _ => ⟨HLB.out, R6.out, HA2.out, HTF.out, Qq.out⟩⟩
theorem Jt (P Q G : Int) (f : FT) (X : Option Addr) (xs : List Int) (xn xc : Nat) (s : ByteArray) (h : List Int) (c : Int) (hQ : Q < 9223372036854775808) (mq : Hid (xs.length = xn)) (qp : xn ≤ xc) (hxb : xn ≤ 1000) (hs : s.size ≤ 1000) (hl : Hid (h.length = 32)) (Gv : Hid (aH h = true)) (w : World) (hv : Hid (Vars w)) (hd : Hid (bX w)) (zu : Hid (iP w)) (hF : Hid (dU w f)) (hX : Hid (Sl w X xs)) (hV : Hid (VF P Q G f)) (hr : Hid (jB (bP s) = false)) :
  Calls Tryz.prog 11 #[gv P Q G, fV f, .slice X xn xc, .string s, .agg (aT h c)] w (xJ P Q G f s w) := by
 unfold xJ
 obtain ⟨acc, hacc⟩ : ∃ z, FT.acc P Q f = z := ⟨_, rfl⟩
 obtain ⟨Nu, l8⟩ : ∃ z, FT.com f = z := ⟨_, rfl⟩
 obtain ⟨Nt, yG⟩ : ∃ z, FT.tx f = z := ⟨_, rfl⟩
 rw [hacc, l8, yG]
 clear hacc l8 yG
 obtain ⟨kind, Y, yn, yc, ys, B, bn, bc, rows, L, ln, lc, l⟩ := f
 obtain ⟨W, hW⟩ : ∃ W, (((((w.alloc (aN P Q G)).alloc (fO kind Y yn yc B bn bc L ln lc)).alloc (.cells (aT h c) 34)).alloc (tO 0 none 0 0 0 none 0 0 none 0 0)).alloc (.cells #[.int .u8 0, .int .u8 0, .int .u8 0, .int .u8 0, .int .u8 0, .int .u8 0, .int .u8 0, .int .u8 0, .int .u8 0, .int .u8 0, .int .u8 0, .int .u8 0, .int .u8 0, .int .u8 0, .int .u8 0, .int .u8 0, .int .u8 0, .int .u8 0, .int .u8 0, .int .u8 0, .int .u8 0, .int .u8 0, .int .u8 0, .int .u8 0, .int .u8 0, .int .u8 0, .int .u8 0, .int .u8 0, .int .u8 0, .int .u8 0, .int .u8 0, .int .u8 0, .int .i64 0] 34)) = W := ⟨_, rfl⟩
 have HI0 : Hid (zo w P Q G kind Y yn yc B bn bc L ln lc h c W) := aa (by rw [← hW]; exact zo.start w P Q G kind Y yn yc B bn bc L ln lc h c)
 have HW := aa hW
 have kV := aa (fun (u : World) (h : Below w.heap.size w u) => aa (hv.out.below h))
 have kD := aa (fun (u : World) (h : Below w.heap.size w u) => aa (hd.out.below h))
 have kP := aa (fun (u : World) (h : Below w.heap.size w u) => aa (zu.out.below h))
 have kF := aa (fun (u : World) (h : Below w.heap.size w u) => aa (hF.out.below h))
 have kX := aa (fun (u : World) (h : Below w.heap.size w u) => aa (hX.out.below h))
 clear hW hv hd zu hF hX hV
 go_in
 go_upto_region 1 with (fail)
 rw [HW.out]
 clear HW
 go_wp2_with fail
 refine (GZ s hs hr _).mono ?_
 rintro e w1 ⟨rfl, hb1⟩
 have HI1 := aa (HI0.out.below hb1)
 rw [show J9 (aZ 32) 0 1 = .tuple #[.agg (aT (aZ 32) 0), .int .i64 1] from rfl]
 clear hb1
 go_upto_region 3 with ((with_reducible show wpList _ _ _ (⟨none, _, _, _, _, _⟩ :: _) _ _); refine wpList_store_row rfl 58 _ _ rfl w1.heap.size (aT (aZ 32) 0) rfl rfl _ _ (heap_alloc_new _ _) (bZ rfl) (fe (h := aZ 32) (c := 0) rfl rfl) (bg _ _) ?_)
 rw [World.setRow_alloc_new]
 try simp only [Act.put]
 have HI2 := aa (HI1.out.below (ai w1 (.cells (aT (aZ 32) 0) 58)))
 obtain ⟨W2, hW2⟩ : ∃ u, w1.alloc (.cells (aT (aZ 32) 0) 58) = u := ⟨_, rfl⟩
 rw [hW2] at HI2 ⊢
 clear hW2
 go_wp2_with fail
 refine (gM (1) _).mono ?_
 rintro e_ wf ⟨rfl, hbf⟩
 have nN := aa (HI2.out.below hbf)
 rw [show zw (aZ 32) 0 (1) = .tuple #[.agg (iU 0 none 0 0 0 none 0 0 none 0 0), .agg (aT (aZ 32) 0), .int .i64 (1)] from rfl]
 obtain ⟨hq, hdd, hd1, dw⟩ := nN.out.fail
 have Dt := aa hd1
 have nW := aa nN.out.t
 have Bf := aa hq
 have rQ := aa hdd
 have fH := aa dw
 clear hq hdd hd1 dw hbf
 go_wp2_with (first
  | ((with_reducible show wpList _ _ _ (⟨none, Op.store _ (Operand.tmp 10) _, _, _, _, _⟩ :: _) _ _); refine wpList_store_row rfl 39 _ _ rfl (w.heap.size + 3) (iU 0 none 0 0 0 none 0 0 none 0 0) rfl rfl _ _ nW.out bE rfl (dP _ _ _ _ _ _ _ _ _ _ _) ?_)
  | ((with_reducible show wpList _ _ _ (⟨none, Op.store _ (Operand.tmp 11) _, _, _, _, _⟩ :: _) _ _); refine wpList_store_row rfl 34 _ _ rfl (w.heap.size + 4) (aT (aZ 32) 0) rfl rfl _ _ Dt.out (aK rfl) rfl (bg _ _) ?_))
 exact bodyPost_ret (v := zw (aZ 32) 0 (1)) (bq (p := 10) (q := 11) (r := 12) (ty := 39) (ty2 := 34) rfl _ _ ⟨w.heap.size + 3, 0, none⟩ ⟨w.heap.size + 4, 0, none⟩ _ _ _ rfl rfl rfl (run_loadVar_row _ _ _ _ _ _ _ Bf.out Tryz.underlying39 rfl bE) (run_loadVar_row _ _ _ _ _ _ _ rQ.out Tryz.underlying34 rfl (aK rfl))) rfl ⟨_, noT, aZ 32, 0, rfl, rfl, fH.out, fun _ => ⟨rfl, rfl⟩, fun h => absurd h (by decide)⟩
def okB (P Q x : Int) : Bool := x != 1 && a_ P Q x
theorem LC {P Q G x : Int} (hv : aJ P Q G = true) (hx : (x == 1) = false) : l_ P Q G x = okB P Q x := by
 have h1 : (x != 1) = true := by simp at hx ⊢; exact hx
 rw [l_, okB, hv, h1]
def kQ (Q n : Int) : Bool := decide (0 ≤ n ∧ n < Q)
theorem Eb {Q n : Int} (h : kQ Q n = true) : 0 ≤ n := by simp [kQ] at h; exact h.1
theorem Ec {Q n : Int} (h : kQ Q n = true) : n < Q := by simp [kQ] at h; exact h.2
theorem kM (P Q G n : Int) (b : Bool) (hb : Hid (kQ Q n = b)) (w : World) :
  Calls Tryz.prog 81 #[gv P Q G, .int .i64 n] w (Rt w (.bool b)) := by
 by_cases h0 : 0 ≤ n
 ·
  by_cases h1 : n < Q
  ·
   obtain rfl : b = true := by rw [← hb.out]; simp [kQ]; omega
   go_in
   go_wp2
   go_ret
   exact ⟨rfl, ai _ _⟩
  ·
   obtain rfl : b = false := by rw [← hb.out]; simp [kQ]; omega
   have d2 : decide (n < Q) = false := by simp; omega
   go_in
   go_wp2
   go_ret
   exact ⟨rfl, ai _ _⟩
 ·
  obtain rfl : b = false := by rw [← hb.out]; simp [kQ]; omega
  have d2 : decide (0 ≤ n) = false := by simp; omega
  go_in
  go_wp2
  go_ret
  exact ⟨rfl, ai _ _⟩
theorem nC (P Q G x : Int) (b : Bool) (hval : Hid (aJ P Q G = true)) (hb : Hid (okB P Q x = b)) (w : World) (hv : Hid (Vars w)) :
  Calls Tryz.prog 35 #[gv P Q G, .int .i64 x] w (Rt w (.bool b)) := by
 obtain ⟨hp2, hp, hq3, wK⟩ := aM hval.out
 have ig := aa (hv.out.below (ai w (aN P Q G)))
 have HX0 := aa (az w P Q G)
 cases h1 : x == 1 with
 | true =>
  have h2 : (x != 1) = false := by simpa using h1
  obtain rfl : b = false := by rw [← hb.out, okB, h2, Bool.false_and]
  go_in
  go_wp2
  go_ret
  exact ⟨rfl, ai _ _⟩
 | false =>
  have h2 : (x != 1) = true := by simp at h1 ⊢; exact h1
  have HC : Hid (l_ P Q G x = b) := aa ((LC (G := G) hval.out h1).trans hb.out)
  go_in
  go_wp2_with fail
  refine (dJ P Q G x b HC (by omega) _ ig).mono ?_
  rintro e w1 ⟨rfl, hb0⟩
  have hb1 := af (ai _ _) hb0
  clear hb0
  go_wp2
  go_ret
  exact ⟨rfl, hb1⟩
def RH (P Q G b y : Int) : Int := if aJ P Q G = true then (if okB P Q b = true then (if a_ P Q y = true then 0 else 2) else 2) else 1
theorem LB {P Q b : Int} (h : okB P Q b = true) : a_ P Q b = true := by simp [okB] at h; exact h.2
abbrev Ng (pa : Option Addr) (na ca : Nat) (C : Int) (pz : Option Addr) (nz cz : Nat) : Value := .agg #[.slice pa na ca, .int .i64 C, .slice pz nz cz]
abbrev mH (pa : Option Addr) (na ca : Nat) (C : Int) (pz : Option Addr) (nz cz : Nat) : Obj := .cells #[.slice pa na ca, .int .i64 C, .slice pz nz cz] 36
def qV (w : World) (a : Nat) (x y z : Value) : Prop := w.cell? ⟨a, 0, none⟩ = some x ∧ w.cell? ⟨a, 1, none⟩ = some y ∧ w.cell? ⟨a, 2, none⟩ = some z
theorem qV.below {w w' : World} {a : Nat} {x y z : Value} (h : qV w a x y z) (hb : Below w.heap.size w w') : qV w' a x y z :=
 ⟨(hb.cell (World.block_lt_of_cell? _ _ h.1)).trans h.1, (hb.cell (World.block_lt_of_cell? _ _ h.2.1)).trans h.2.1, (hb.cell (World.block_lt_of_cell? _ _ h.2.2)).trans h.2.2⟩
theorem gF (w : World) (o : Obj) (T : TypeId) (x y z : Value) : qV ((w.alloc o).alloc (.cells #[x, y, z] T)) (w.heap.size + 1) x y z := by
 have e : (w.alloc o).heap.size = w.heap.size + 1 := by simp
 rw [← e]
 exact ⟨World.cell?_alloc_at _ _ _ _ rfl, World.cell?_alloc_at _ _ _ _ rfl, World.cell?_alloc_at _ _ _ _ rfl⟩
theorem aL {w w' : World} {p : Addr} {v : Value} (h : w.cell? p = some v) (hb : Below w.heap.size w w') : w'.cell? p = some v := (hb.cell (World.block_lt_of_cell? _ _ h)).trans h
def One (w : World) (p : Option Addr) (n : Nat) (x : Int) : Prop := n = 1 → ∃ b o, p = some ⟨b, o, none⟩ ∧ w.cell? ⟨b, o, none⟩ = some (.int .i64 x)
theorem One.below {w w' : World} {p : Option Addr} {n : Nat} {x : Int} (h : One w p n x) (hb : Below w.heap.size w w') : One w' p n x := fun e => by
 obtain ⟨b, o, h1, h2⟩ := h e
 exact ⟨b, o, h1, aL h2 hb⟩
def iB (P Q : Int) (na : Nat) (a0 C : Int) (nz : Nat) (z0 : Int) : Bool := na == 1 && (nz == 1 && (a_ P Q a0 && (kQ Q C && kQ Q z0)))
theorem JA (P Q G : Int) (pa : Option Addr) (na ca : Nat) (a0 C : Int) (pz : Option Addr) (nz cz : Nat) (z0 : Int) (hna : ((na : Int) == 1) = false) (hval : Hid (aJ P Q G = true)) (hQ : Q < 9223372036854775808) (w : World) (hv : Hid (Vars w)) :
  Calls Tryz.prog 37 #[gv P Q G, Ng pa na ca C pz nz cz] w fun e' w' => e' = .returned (.bool false) ∧ Below w.heap.size w w' := by
 have HP : Hid (qV ((w.alloc (aN P Q G)).alloc (mH pa na ca C pz nz cz)) (w.heap.size + 1) (.slice pa na ca) (.int .i64 C) (.slice pz nz cz)) := aa (gF w _ _ _ _ _)
 go_in
 go_wp2_with fail
 go_quiet (fail)
 go_wp2
 go_ret
 exact ⟨rfl, ay (aB (Below.refl _ _)) _⟩
theorem Jz (P Q G : Int) (ba oa ca : Nat) (a0 C : Int) (pz : Option Addr) (nz cz : Nat) (z0 : Int) (hA : Hid (l_ P Q G a0 = false)) (hval : Hid (aJ P Q G = true)) (hQ : Q < 9223372036854775808) (w : World) (hv : Hid (Vars w)) (ha : Hid (w.cell? ⟨ba, oa, none⟩ = some (.int .i64 a0))) :
  Calls Tryz.prog 37 #[gv P Q G, Ng (some ⟨ba, oa, none⟩) 1 ca C pz nz cz] w fun e' w' => e' = .returned (.bool false) ∧ Below w.heap.size w w' := by
 obtain ⟨hp2, hp, hq3, wK⟩ := aM hval.out
 obtain ⟨W, hW⟩ : ∃ W, (w.alloc (aN P Q G)).alloc (mH (some ⟨ba, oa, none⟩) 1 ca C pz nz cz) = W := ⟨_, rfl⟩
 have HB : Hid (Below w.heap.size w W) := aa (by rw [← hW]; exact aB (Below.refl _ _))
 have HX : Hid (eO W w.heap.size P Q G) := aa (by rw [← hW]; exact (az w P Q G).below (ai _ _))
 have HP : Hid (qV W (w.heap.size + 1) (.slice (some ⟨ba, oa, none⟩) 1 ca) (.int .i64 C) (.slice pz nz cz)) := aa (by rw [← hW]; exact gF w _ _ _ _ _)
 have HA : Hid (W.cell? ⟨ba, oa, none⟩ = some (.int .i64 a0)) := aa (aL ha.out HB.out)
 have HS : Hid (∀ w1 w2 : World, Hid (Below W.heap.size W w1) → Below w1.heap.size w1 w2 → (w2.cell? ⟨w.heap.size, 0, none⟩ = some (.int .i64 P) ∧ w2.cell? ⟨w.heap.size, 1, none⟩ = some (.int .i64 Q) ∧ w2.cell? ⟨w.heap.size, 2, none⟩ = some (.int .i64 G) ∧ w2.cell? ⟨w.heap.size + 1, 0, none⟩ = some (.slice (some ⟨ba, oa, none⟩) 1 ca) ∧ w2.cell? ⟨w.heap.size + 1, 1, none⟩ = some (.int .i64 C) ∧ w2.cell? ⟨w.heap.size + 1, 2, none⟩ = some (.slice pz nz cz) ∧ w2.cell? ⟨ba, oa, none⟩ = some (.int .i64 a0) ∧ Hid (Below W.heap.size W w2))) :=
  aa (fun w1 w2 h1 h2 => have h3 := af h1.out h2; ⟨(HX.out.below h3).1, (HX.out.below h3).2.1, (HX.out.below h3).2.2, (HP.out.below h3).1, (HP.out.below h3).2.1, (HP.out.below h3).2.2, aL HA.out h3, aa h3⟩)
 have HB0 : Hid (Below W.heap.size W W) := aa (Below.refl _ _)
 have HV : Hid (Vars W) := aa (hv.out.below HB.out)
 have MR : Hid (∀ w1 : World, Hid (Below W.heap.size W w1) → Hid (Vars w1)) := aa (fun w1 h1 => aa (HV.out.below h1.out))
 have HW := aa hW
 clear hW
 go_in
 go_wp2_with fail
 rw [HW.out]
 refine wp_region_held_drew (S := fun w' => w'.cell? ⟨w.heap.size, 0, none⟩ = some (.int .i64 P) ∧ w'.cell? ⟨w.heap.size, 1, none⟩ = some (.int .i64 Q) ∧ w'.cell? ⟨w.heap.size, 2, none⟩ = some (.int .i64 G) ∧ w'.cell? ⟨w.heap.size + 1, 0, none⟩ = some (.slice (some ⟨ba, oa, none⟩) 1 ca) ∧ w'.cell? ⟨w.heap.size + 1, 1, none⟩ = some (.int .i64 C) ∧ w'.cell? ⟨w.heap.size + 1, 2, none⟩ = some (.slice pz nz cz) ∧ w'.cell? ⟨ba, oa, none⟩ = some (.int .i64 a0) ∧ Hid (Below W.heap.size W w')) (by kernel_rfl) (HS.out _ _ HB0 ((Below.refl W.heap.size W).drew)) (fun hHeld => ?_)
 refine wpAnyH_take (i := 0) (oi := _) (v := ?_) rfl (by kernel_rfl) (by kernel_rfl) (by kernel_rfl) (fun _ _ _ h => h) (Or.inl ⟨by rfl, ?_⟩) (by assumption) ?_
 rotate_left; (intro wS hSw; (try dsimp only at hSw); go_simp <;> with_reducible rfl)
 try simp only [dI, dH, dG, Act.put, dF, dD, dB]
 refine wpAnyH_take (i := 1) (oi := _) (v := ?_) rfl (by kernel_rfl) (by kernel_rfl) (by kernel_rfl) (fun _ _ _ h => h) (Or.inl ⟨by rfl, ?_⟩) (by assumption) ?_
 rotate_left; (intro wS hSw; (try dsimp only at hSw); go_simp <;> with_reducible rfl)
 try simp only [dI, dH, dG, Act.put, dF, dD, dB]
 refine wpAnyH_take (i := 2) (oi := _) (v := ?_) rfl (by kernel_rfl) (by kernel_rfl) (by kernel_rfl) (fun _ _ _ h => h) (Or.inl ⟨by rfl, ?_⟩) (by assumption) ?_
 rotate_left; (intro wS hSw; (try dsimp only at hSw); go_simp <;> with_reducible rfl)
 try simp only [dI, dH, dG, Act.put, dF, dD, dB]
 refine wpAnyH_take (i := 3) (oi := _) (v := ?_) rfl (by kernel_rfl) (by kernel_rfl) (by kernel_rfl) (fun _ _ _ h => h) (Or.inl ⟨by rfl, ?_⟩) (by assumption) ?_
 rotate_left; (intro wS hSw; (try dsimp only at hSw); go_simp <;> with_reducible rfl)
 try simp only [dI, dH, dG, Act.put, dF, dD, dB]
 refine wpAnyH_take (i := 4) (oi := _) (v := ?_) rfl (by kernel_rfl) (by kernel_rfl) (by kernel_rfl) (fun _ _ _ h => h) (Or.inl ⟨by rfl, ?_⟩) (by assumption) ?_
 rotate_left; (intro wS hSw; (try dsimp only at hSw); go_simp <;> with_reducible rfl)
 try simp only [dI, dH, dG, Act.put, dF, dD, dB]
 refine wpAnyH_take (i := 5) (oi := _) (v := ?_) rfl (by kernel_rfl) (by kernel_rfl) (by kernel_rfl) (fun _ _ _ h => h) (Or.inl ⟨by rfl, ?_⟩) (by assumption) ?_
 rotate_left; (intro wS hSw; (try dsimp only at hSw); go_simp <;> with_reducible rfl)
 try simp only [dI, dH, dG, Act.put, dF, dD, dB]
 refine wpAnyH_take (i := 6) (oi := _) (v := ?_) rfl (by kernel_rfl) (by kernel_rfl) (by kernel_rfl) (fun _ _ _ h => h) (Or.inl ⟨by rfl, ?_⟩) (by assumption) ?_
 rotate_left; (intro wS hSw; (try dsimp only at hSw); go_simp <;> with_reducible rfl)
 try simp only [dI, dH, dG, Act.put, dF, dD, dB]
 refine wpAnyH_take (i := 7) (oi := _) (v := ?_) rfl (by kernel_rfl) (by kernel_rfl) (by kernel_rfl) (fun _ _ _ h => h) (Or.inl ⟨by rfl, ?_⟩) (by assumption) ?_
 rotate_left; (intro wS hSw; (try dsimp only at hSw); go_simp <;> with_reducible rfl)
 try simp only [dI, dH, dG, Act.put, dF, dD, dB]
 refine wpAnyH_take (i := 8) (oi := _) (v := ?_) rfl (by kernel_rfl) (by kernel_rfl) (by kernel_rfl) (fun _ _ _ h => h) (Or.inl ⟨by rfl, ?_⟩) (by assumption) ?_
 rotate_left; (intro wS hSw; (try dsimp only at hSw); go_simp <;> with_reducible rfl)
 try simp only [dI, dH, dG, Act.put, dF, dD, dB]
 refine wpAnyH_take (i := 9) (oi := _) (v := ?_) rfl (by kernel_rfl) (by kernel_rfl) (by kernel_rfl) (fun _ _ _ h => h) (Or.inl ⟨by rfl, ?_⟩) (by assumption) ?_
 rotate_left; (intro wS hSw; (try dsimp only at hSw); go_simp <;> with_reducible rfl)
 try simp only [dI, dH, dG, Act.put, dF, dD, dB]
 refine wpAnyH_ready (rs := [10]) (by kernel_rfl) (by simp) ?_
 refine AllReadyH.cons rfl (fun K hK => ?_) AllReadyH.nil
 go_simp
 (go_at_call 36; (refine (dJ P Q G a0 false hA hQ _ ?_).mono ?_); rotate_left; rintro e wA ⟨rfl, bA⟩; rotate_left; (go_split_ands; exact MR.out _ (by assumption)))
 refine hK.out _ _ ?_ (fun hHeld => ?_)
 · (go_split_ands; exact HS.out _ _ (by assumption) bA)
 clear hK K
 try simp only [dI, dH, dG, Act.put, dF, dD, dB]
 refine wpAnyH_take (i := 11) (oi := _) (v := ?_) rfl (by kernel_rfl) (by kernel_rfl) (by kernel_rfl) (fun _ _ _ h => h) (Or.inl ⟨by rfl, ?_⟩) (by assumption) ?_
 rotate_left; (intro wS hSw; (try dsimp only at hSw); go_simp <;> with_reducible rfl)
 try simp only [dI, dH, dG, Act.put, dF, dD, dB]
 refine wpAnyH_take (i := 12) (oi := _) (v := ?_) rfl (by kernel_rfl) (by kernel_rfl) (by kernel_rfl) (fun _ _ _ h => h) (Or.inl ⟨by rfl, ?_⟩) (by assumption) ?_
 rotate_left; (intro wS hSw; (try dsimp only at hSw); go_simp <;> with_reducible rfl)
 try simp only [dI, dH, dG, Act.put, dF, dD, dB]
 refine wpAnyH_take (i := 13) (oi := _) (v := undef) rfl (by kernel_rfl) (by kernel_rfl) (by kernel_rfl) (fun _ _ _ h => h) (Or.inr ⟨by rfl, rfl⟩) (by assumption) ?_
 try simp only [dI, dH, dG, Act.put, dF, dD, dB]
 refine wpAnyH_take (i := 14) (oi := _) (v := undef) rfl (by kernel_rfl) (by kernel_rfl) (by kernel_rfl) (fun _ _ _ h => h) (Or.inr ⟨by rfl, rfl⟩) (by assumption) ?_
 try simp only [dI, dH, dG, Act.put, dF, dD, dB]
 refine wpAnyH_take (i := 15) (oi := _) (v := undef) rfl (by kernel_rfl) (by kernel_rfl) (by kernel_rfl) (fun _ _ _ h => h) (Or.inr ⟨by rfl, rfl⟩) (by assumption) ?_
 try simp only [dI, dH, dG, Act.put, dF, dD, dB]
 refine wpAnyH_take (i := 16) (oi := _) (v := undef) rfl (by kernel_rfl) (by kernel_rfl) (by kernel_rfl) (fun _ _ _ h => h) (Or.inr ⟨by rfl, rfl⟩) (by assumption) ?_
 try simp only [dI, dH, dG, Act.put, dF, dD, dB]
 refine wpAnyH_take (i := 17) (oi := _) (v := ?_) rfl (by kernel_rfl) (by kernel_rfl) (by kernel_rfl) (fun _ _ _ h => h) (Or.inl ⟨by rfl, ?_⟩) (by assumption) ?_
 rotate_left; (intro wS hSw; (try dsimp only at hSw); go_simp <;> with_reducible rfl)
 try simp only [dI, dH, dG, Act.put, dF, dD, dB]
 refine wpAnyH_take (i := 18) (oi := _) (v := ?_) rfl (by kernel_rfl) (by kernel_rfl) (by kernel_rfl) (fun _ _ _ h => h) (Or.inl ⟨by rfl, ?_⟩) (by assumption) ?_
 rotate_left; (intro wS hSw; (try dsimp only at hSw); go_simp <;> with_reducible rfl)
 try simp only [dI, dH, dG, Act.put, dF, dD, dB]
 refine wpAnyH_take (i := 19) (oi := _) (v := undef) rfl (by kernel_rfl) (by kernel_rfl) (by kernel_rfl) (fun _ _ _ h => h) (Or.inr ⟨by rfl, rfl⟩) (by assumption) ?_
 try simp only [dI, dH, dG, Act.put, dF, dD, dB]
 refine wpAnyH_take (i := 20) (oi := _) (v := undef) rfl (by kernel_rfl) (by kernel_rfl) (by kernel_rfl) (fun _ _ _ h => h) (Or.inr ⟨by rfl, rfl⟩) (by assumption) ?_
 try simp only [dI, dH, dG, Act.put, dF, dD, dB]
 refine wpAnyH_take (i := 21) (oi := _) (v := undef) rfl (by kernel_rfl) (by kernel_rfl) (by kernel_rfl) (fun _ _ _ h => h) (Or.inr ⟨by rfl, rfl⟩) (by assumption) ?_
 try simp only [dI, dH, dG, Act.put, dF, dD, dB]
 refine wpAnyH_take (i := 22) (oi := _) (v := undef) rfl (by kernel_rfl) (by kernel_rfl) (by kernel_rfl) (fun _ _ _ h => h) (Or.inr ⟨by rfl, rfl⟩) (by assumption) ?_
 try simp only [dI, dH, dG, Act.put, dF, dD, dB]
 refine wpAnyH_take (i := 23) (oi := _) (v := ?_) rfl (by kernel_rfl) (by kernel_rfl) (by kernel_rfl) (fun _ _ _ h => h) (Or.inl ⟨by rfl, ?_⟩) (by assumption) ?_
 rotate_left; (intro wS hSw; (try dsimp only at hSw); go_simp <;> with_reducible rfl)
 try simp only [dI, dH, dG, Act.put, dF, dD, dB]
 refine wpAnyH_take (i := 24) (oi := _) (v := ?_) rfl (by kernel_rfl) (by kernel_rfl) (by kernel_rfl) (fun _ _ _ h => h) (Or.inl ⟨by rfl, ?_⟩) (by assumption) ?_
 rotate_left; (intro wS hSw; (try dsimp only at hSw); go_simp <;> with_reducible rfl)
 try simp only [dI, dH, dG, Act.put, dF, dD, dB]
 refine wpAnyH_take (i := 25) (oi := _) (v := undef) rfl (by kernel_rfl) (by kernel_rfl) (by kernel_rfl) (fun _ _ _ h => h) (Or.inr ⟨by rfl, rfl⟩) (by assumption) ?_
 try simp only [dI, dH, dG, Act.put, dF, dD, dB]
 refine wpAnyH_take (i := 26) (oi := _) (v := undef) rfl (by kernel_rfl) (by kernel_rfl) (by kernel_rfl) (fun _ _ _ h => h) (Or.inr ⟨by rfl, rfl⟩) (by assumption) ?_
 try simp only [dI, dH, dG, Act.put, dF, dD, dB]
 refine wpAnyH_take (i := 27) (oi := _) (v := undef) rfl (by kernel_rfl) (by kernel_rfl) (by kernel_rfl) (fun _ _ _ h => h) (Or.inr ⟨by rfl, rfl⟩) (by assumption) ?_
 try simp only [dI, dH, dG, Act.put, dF, dD, dB]
 refine wpAnyH_take (i := 28) (oi := _) (v := undef) rfl (by kernel_rfl) (by kernel_rfl) (by kernel_rfl) (fun _ _ _ h => h) (Or.inr ⟨by rfl, rfl⟩) (by assumption) ?_
 try simp only [dI, dH, dG, Act.put, dF, dD, dB]
 refine wpAnyH_take (i := 29) (oi := _) (v := undef) rfl (by kernel_rfl) (by kernel_rfl) (by kernel_rfl) (fun _ _ _ h => h) (Or.inr ⟨by rfl, rfl⟩) (by assumption) ?_
 try simp only [dI, dH, dG, Act.put, dF, dD, dB]
 refine wpAnyH_take (i := 30) (oi := _) (v := undef) rfl (by kernel_rfl) (by kernel_rfl) (by kernel_rfl) (fun _ _ _ h => h) (Or.inr ⟨by rfl, rfl⟩) (by assumption) ?_
 try simp only [dI, dH, dG, Act.put, dF, dD, dB]
 refine wpAnyH_take (i := 31) (oi := _) (v := ?_) rfl (by kernel_rfl) (by kernel_rfl) (by kernel_rfl) (fun _ _ _ h => h) (Or.inl ⟨by rfl, ?_⟩) (by assumption) ?_
 rotate_left; (intro wS hSw; (try dsimp only at hSw); go_simp <;> with_reducible rfl)
 try simp only [dI, dH, dG, Act.put, dF, dD, dB]
 refine wpAnyH_take (i := 32) (oi := _) (v := ?_) rfl (by kernel_rfl) (by kernel_rfl) (by kernel_rfl) (fun _ _ _ h => h) (Or.inl ⟨by rfl, ?_⟩) (by assumption) ?_
 rotate_left; (intro wS hSw; (try dsimp only at hSw); go_simp <;> with_reducible rfl)
 try simp only [dI, dH, dG, Act.put, dF, dD, dB]
 refine wpAnyH_done (by kernel_rfl) ?_ _
 obtain ⟨e0, e1, e2, e3, e4, e5, e6, nH⟩ := hHeld
 have hbf := af HB.out nH.out
 go_wp2
 go_ret
 exact ⟨rfl, hbf⟩
theorem Jy (P Q G : Int) (ba oa ca : Nat) (a0 C : Int) (pz : Option Addr) (nz cz : Nat) (z0 : Int) (hA : Hid (l_ P Q G a0 = true)) (hC : Hid (kQ Q C = false)) (hval : Hid (aJ P Q G = true)) (hQ : Q < 9223372036854775808) (w : World) (hv : Hid (Vars w)) (ha : Hid (w.cell? ⟨ba, oa, none⟩ = some (.int .i64 a0))) :
  Calls Tryz.prog 37 #[gv P Q G, Ng (some ⟨ba, oa, none⟩) 1 ca C pz nz cz] w fun e' w' => e' = .returned (.bool false) ∧ Below w.heap.size w w' := by
 obtain ⟨hp2, hp, hq3, wK⟩ := aM hval.out
 obtain ⟨W, hW⟩ : ∃ W, (w.alloc (aN P Q G)).alloc (mH (some ⟨ba, oa, none⟩) 1 ca C pz nz cz) = W := ⟨_, rfl⟩
 have HB : Hid (Below w.heap.size w W) := aa (by rw [← hW]; exact aB (Below.refl _ _))
 have HX : Hid (eO W w.heap.size P Q G) := aa (by rw [← hW]; exact (az w P Q G).below (ai _ _))
 have HP : Hid (qV W (w.heap.size + 1) (.slice (some ⟨ba, oa, none⟩) 1 ca) (.int .i64 C) (.slice pz nz cz)) := aa (by rw [← hW]; exact gF w _ _ _ _ _)
 have HA : Hid (W.cell? ⟨ba, oa, none⟩ = some (.int .i64 a0)) := aa (aL ha.out HB.out)
 have HS : Hid (∀ w1 w2 : World, Hid (Below W.heap.size W w1) → Below w1.heap.size w1 w2 → (w2.cell? ⟨w.heap.size, 0, none⟩ = some (.int .i64 P) ∧ w2.cell? ⟨w.heap.size, 1, none⟩ = some (.int .i64 Q) ∧ w2.cell? ⟨w.heap.size, 2, none⟩ = some (.int .i64 G) ∧ w2.cell? ⟨w.heap.size + 1, 0, none⟩ = some (.slice (some ⟨ba, oa, none⟩) 1 ca) ∧ w2.cell? ⟨w.heap.size + 1, 1, none⟩ = some (.int .i64 C) ∧ w2.cell? ⟨w.heap.size + 1, 2, none⟩ = some (.slice pz nz cz) ∧ w2.cell? ⟨ba, oa, none⟩ = some (.int .i64 a0) ∧ Hid (Below W.heap.size W w2))) :=
  aa (fun w1 w2 h1 h2 => have h3 := af h1.out h2; ⟨(HX.out.below h3).1, (HX.out.below h3).2.1, (HX.out.below h3).2.2, (HP.out.below h3).1, (HP.out.below h3).2.1, (HP.out.below h3).2.2, aL HA.out h3, aa h3⟩)
 have HB0 : Hid (Below W.heap.size W W) := aa (Below.refl _ _)
 have HV : Hid (Vars W) := aa (hv.out.below HB.out)
 have MR : Hid (∀ w1 : World, Hid (Below W.heap.size W w1) → Hid (Vars w1)) := aa (fun w1 h1 => aa (HV.out.below h1.out))
 have HW := aa hW
 clear hW
 go_in
 go_wp2_with fail
 rw [HW.out]
 refine wp_region_held_drew (S := fun w' => w'.cell? ⟨w.heap.size, 0, none⟩ = some (.int .i64 P) ∧ w'.cell? ⟨w.heap.size, 1, none⟩ = some (.int .i64 Q) ∧ w'.cell? ⟨w.heap.size, 2, none⟩ = some (.int .i64 G) ∧ w'.cell? ⟨w.heap.size + 1, 0, none⟩ = some (.slice (some ⟨ba, oa, none⟩) 1 ca) ∧ w'.cell? ⟨w.heap.size + 1, 1, none⟩ = some (.int .i64 C) ∧ w'.cell? ⟨w.heap.size + 1, 2, none⟩ = some (.slice pz nz cz) ∧ w'.cell? ⟨ba, oa, none⟩ = some (.int .i64 a0) ∧ Hid (Below W.heap.size W w')) (by kernel_rfl) (HS.out _ _ HB0 ((Below.refl W.heap.size W).drew)) (fun hHeld => ?_)
 refine wpAnyH_take (i := 0) (oi := _) (v := ?_) rfl (by kernel_rfl) (by kernel_rfl) (by kernel_rfl) (fun _ _ _ h => h) (Or.inl ⟨by rfl, ?_⟩) (by assumption) ?_
 rotate_left; (intro wS hSw; (try dsimp only at hSw); go_simp <;> with_reducible rfl)
 try simp only [dI, dH, dG, Act.put, dF, dD, dB]
 refine wpAnyH_take (i := 1) (oi := _) (v := ?_) rfl (by kernel_rfl) (by kernel_rfl) (by kernel_rfl) (fun _ _ _ h => h) (Or.inl ⟨by rfl, ?_⟩) (by assumption) ?_
 rotate_left; (intro wS hSw; (try dsimp only at hSw); go_simp <;> with_reducible rfl)
 try simp only [dI, dH, dG, Act.put, dF, dD, dB]
 refine wpAnyH_take (i := 2) (oi := _) (v := ?_) rfl (by kernel_rfl) (by kernel_rfl) (by kernel_rfl) (fun _ _ _ h => h) (Or.inl ⟨by rfl, ?_⟩) (by assumption) ?_
 rotate_left; (intro wS hSw; (try dsimp only at hSw); go_simp <;> with_reducible rfl)
 try simp only [dI, dH, dG, Act.put, dF, dD, dB]
 refine wpAnyH_take (i := 3) (oi := _) (v := ?_) rfl (by kernel_rfl) (by kernel_rfl) (by kernel_rfl) (fun _ _ _ h => h) (Or.inl ⟨by rfl, ?_⟩) (by assumption) ?_
 rotate_left; (intro wS hSw; (try dsimp only at hSw); go_simp <;> with_reducible rfl)
 try simp only [dI, dH, dG, Act.put, dF, dD, dB]
 refine wpAnyH_take (i := 4) (oi := _) (v := ?_) rfl (by kernel_rfl) (by kernel_rfl) (by kernel_rfl) (fun _ _ _ h => h) (Or.inl ⟨by rfl, ?_⟩) (by assumption) ?_
 rotate_left; (intro wS hSw; (try dsimp only at hSw); go_simp <;> with_reducible rfl)
 try simp only [dI, dH, dG, Act.put, dF, dD, dB]
 refine wpAnyH_take (i := 5) (oi := _) (v := ?_) rfl (by kernel_rfl) (by kernel_rfl) (by kernel_rfl) (fun _ _ _ h => h) (Or.inl ⟨by rfl, ?_⟩) (by assumption) ?_
 rotate_left; (intro wS hSw; (try dsimp only at hSw); go_simp <;> with_reducible rfl)
 try simp only [dI, dH, dG, Act.put, dF, dD, dB]
 refine wpAnyH_take (i := 6) (oi := _) (v := ?_) rfl (by kernel_rfl) (by kernel_rfl) (by kernel_rfl) (fun _ _ _ h => h) (Or.inl ⟨by rfl, ?_⟩) (by assumption) ?_
 rotate_left; (intro wS hSw; (try dsimp only at hSw); go_simp <;> with_reducible rfl)
 try simp only [dI, dH, dG, Act.put, dF, dD, dB]
 refine wpAnyH_take (i := 7) (oi := _) (v := ?_) rfl (by kernel_rfl) (by kernel_rfl) (by kernel_rfl) (fun _ _ _ h => h) (Or.inl ⟨by rfl, ?_⟩) (by assumption) ?_
 rotate_left; (intro wS hSw; (try dsimp only at hSw); go_simp <;> with_reducible rfl)
 try simp only [dI, dH, dG, Act.put, dF, dD, dB]
 refine wpAnyH_take (i := 8) (oi := _) (v := ?_) rfl (by kernel_rfl) (by kernel_rfl) (by kernel_rfl) (fun _ _ _ h => h) (Or.inl ⟨by rfl, ?_⟩) (by assumption) ?_
 rotate_left; (intro wS hSw; (try dsimp only at hSw); go_simp <;> with_reducible rfl)
 try simp only [dI, dH, dG, Act.put, dF, dD, dB]
 refine wpAnyH_take (i := 9) (oi := _) (v := ?_) rfl (by kernel_rfl) (by kernel_rfl) (by kernel_rfl) (fun _ _ _ h => h) (Or.inl ⟨by rfl, ?_⟩) (by assumption) ?_
 rotate_left; (intro wS hSw; (try dsimp only at hSw); go_simp <;> with_reducible rfl)
 try simp only [dI, dH, dG, Act.put, dF, dD, dB]
 refine wpAnyH_ready (rs := [10]) (by kernel_rfl) (by simp) ?_
 refine AllReadyH.cons rfl (fun K hK => ?_) AllReadyH.nil
 go_simp
 (go_at_call 36; (refine (dJ P Q G a0 true hA hQ _ ?_).mono ?_); rotate_left; rintro e wA ⟨rfl, bA⟩; rotate_left; (go_split_ands; exact MR.out _ (by assumption)))
 refine hK.out _ _ ?_ (fun hHeld => ?_)
 · (go_split_ands; exact HS.out _ _ (by assumption) bA)
 clear hK K
 try simp only [dI, dH, dG, Act.put, dF, dD, dB]
 refine wpAnyH_take (i := 11) (oi := _) (v := ?_) rfl (by kernel_rfl) (by kernel_rfl) (by kernel_rfl) (fun _ _ _ h => h) (Or.inl ⟨by rfl, ?_⟩) (by assumption) ?_
 rotate_left; (intro wS hSw; (try dsimp only at hSw); go_simp <;> with_reducible rfl)
 try simp only [dI, dH, dG, Act.put, dF, dD, dB]
 refine wpAnyH_take (i := 12) (oi := _) (v := ?_) rfl (by kernel_rfl) (by kernel_rfl) (by kernel_rfl) (fun _ _ _ h => h) (Or.inl ⟨by rfl, ?_⟩) (by assumption) ?_
 rotate_left; (intro wS hSw; (try dsimp only at hSw); go_simp <;> with_reducible rfl)
 try simp only [dI, dH, dG, Act.put, dF, dD, dB]
 refine wpAnyH_take (i := 13) (oi := _) (v := ?_) rfl (by kernel_rfl) (by kernel_rfl) (by kernel_rfl) (fun _ _ _ h => h) (Or.inl ⟨by rfl, ?_⟩) (by assumption) ?_
 rotate_left; (intro wS hSw; (try dsimp only at hSw); go_simp <;> with_reducible rfl)
 try simp only [dI, dH, dG, Act.put, dF, dD, dB]
 refine wpAnyH_take (i := 14) (oi := _) (v := ?_) rfl (by kernel_rfl) (by kernel_rfl) (by kernel_rfl) (fun _ _ _ h => h) (Or.inl ⟨by rfl, ?_⟩) (by assumption) ?_
 rotate_left; (intro wS hSw; (try dsimp only at hSw); go_simp <;> with_reducible rfl)
 try simp only [dI, dH, dG, Act.put, dF, dD, dB]
 refine wpAnyH_take (i := 15) (oi := _) (v := ?_) rfl (by kernel_rfl) (by kernel_rfl) (by kernel_rfl) (fun _ _ _ h => h) (Or.inl ⟨by rfl, ?_⟩) (by assumption) ?_
 rotate_left; (intro wS hSw; (try dsimp only at hSw); go_simp <;> with_reducible rfl)
 try simp only [dI, dH, dG, Act.put, dF, dD, dB]
 refine wpAnyH_ready (rs := [16]) (by kernel_rfl) (by simp) ?_
 refine AllReadyH.cons rfl (fun K hK => ?_) AllReadyH.nil
 go_simp
 (go_at_call 81; (with_reducible refine (kM P Q G C false hC _).mono ?_); rintro e wA ⟨rfl, bA⟩)
 refine hK.out _ _ ?_ (fun hHeld => ?_)
 · (go_split_ands; exact HS.out _ _ (by assumption) bA)
 clear hK K
 try simp only [dI, dH, dG, Act.put, dF, dD, dB]
 refine wpAnyH_take (i := 17) (oi := _) (v := ?_) rfl (by kernel_rfl) (by kernel_rfl) (by kernel_rfl) (fun _ _ _ h => h) (Or.inl ⟨by rfl, ?_⟩) (by assumption) ?_
 rotate_left; (intro wS hSw; (try dsimp only at hSw); go_simp <;> with_reducible rfl)
 try simp only [dI, dH, dG, Act.put, dF, dD, dB]
 refine wpAnyH_take (i := 18) (oi := _) (v := ?_) rfl (by kernel_rfl) (by kernel_rfl) (by kernel_rfl) (fun _ _ _ h => h) (Or.inl ⟨by rfl, ?_⟩) (by assumption) ?_
 rotate_left; (intro wS hSw; (try dsimp only at hSw); go_simp <;> with_reducible rfl)
 try simp only [dI, dH, dG, Act.put, dF, dD, dB]
 refine wpAnyH_take (i := 19) (oi := _) (v := undef) rfl (by kernel_rfl) (by kernel_rfl) (by kernel_rfl) (fun _ _ _ h => h) (Or.inr ⟨by rfl, rfl⟩) (by assumption) ?_
 try simp only [dI, dH, dG, Act.put, dF, dD, dB]
 refine wpAnyH_take (i := 20) (oi := _) (v := undef) rfl (by kernel_rfl) (by kernel_rfl) (by kernel_rfl) (fun _ _ _ h => h) (Or.inr ⟨by rfl, rfl⟩) (by assumption) ?_
 try simp only [dI, dH, dG, Act.put, dF, dD, dB]
 refine wpAnyH_take (i := 21) (oi := _) (v := undef) rfl (by kernel_rfl) (by kernel_rfl) (by kernel_rfl) (fun _ _ _ h => h) (Or.inr ⟨by rfl, rfl⟩) (by assumption) ?_
 try simp only [dI, dH, dG, Act.put, dF, dD, dB]
 refine wpAnyH_take (i := 22) (oi := _) (v := undef) rfl (by kernel_rfl) (by kernel_rfl) (by kernel_rfl) (fun _ _ _ h => h) (Or.inr ⟨by rfl, rfl⟩) (by assumption) ?_
 try simp only [dI, dH, dG, Act.put, dF, dD, dB]
 refine wpAnyH_take (i := 23) (oi := _) (v := ?_) rfl (by kernel_rfl) (by kernel_rfl) (by kernel_rfl) (fun _ _ _ h => h) (Or.inl ⟨by rfl, ?_⟩) (by assumption) ?_
 rotate_left; (intro wS hSw; (try dsimp only at hSw); go_simp <;> with_reducible rfl)
 try simp only [dI, dH, dG, Act.put, dF, dD, dB]
 refine wpAnyH_take (i := 24) (oi := _) (v := ?_) rfl (by kernel_rfl) (by kernel_rfl) (by kernel_rfl) (fun _ _ _ h => h) (Or.inl ⟨by rfl, ?_⟩) (by assumption) ?_
 rotate_left; (intro wS hSw; (try dsimp only at hSw); go_simp <;> with_reducible rfl)
 try simp only [dI, dH, dG, Act.put, dF, dD, dB]
 refine wpAnyH_take (i := 25) (oi := _) (v := undef) rfl (by kernel_rfl) (by kernel_rfl) (by kernel_rfl) (fun _ _ _ h => h) (Or.inr ⟨by rfl, rfl⟩) (by assumption) ?_
 try simp only [dI, dH, dG, Act.put, dF, dD, dB]
 refine wpAnyH_take (i := 26) (oi := _) (v := undef) rfl (by kernel_rfl) (by kernel_rfl) (by kernel_rfl) (fun _ _ _ h => h) (Or.inr ⟨by rfl, rfl⟩) (by assumption) ?_
 try simp only [dI, dH, dG, Act.put, dF, dD, dB]
 refine wpAnyH_take (i := 27) (oi := _) (v := undef) rfl (by kernel_rfl) (by kernel_rfl) (by kernel_rfl) (fun _ _ _ h => h) (Or.inr ⟨by rfl, rfl⟩) (by assumption) ?_
 try simp only [dI, dH, dG, Act.put, dF, dD, dB]
 refine wpAnyH_take (i := 28) (oi := _) (v := undef) rfl (by kernel_rfl) (by kernel_rfl) (by kernel_rfl) (fun _ _ _ h => h) (Or.inr ⟨by rfl, rfl⟩) (by assumption) ?_
 try simp only [dI, dH, dG, Act.put, dF, dD, dB]
 refine wpAnyH_take (i := 29) (oi := _) (v := undef) rfl (by kernel_rfl) (by kernel_rfl) (by kernel_rfl) (fun _ _ _ h => h) (Or.inr ⟨by rfl, rfl⟩) (by assumption) ?_
 try simp only [dI, dH, dG, Act.put, dF, dD, dB]
 refine wpAnyH_take (i := 30) (oi := _) (v := undef) rfl (by kernel_rfl) (by kernel_rfl) (by kernel_rfl) (fun _ _ _ h => h) (Or.inr ⟨by rfl, rfl⟩) (by assumption) ?_
 try simp only [dI, dH, dG, Act.put, dF, dD, dB]
 refine wpAnyH_take (i := 31) (oi := _) (v := ?_) rfl (by kernel_rfl) (by kernel_rfl) (by kernel_rfl) (fun _ _ _ h => h) (Or.inl ⟨by rfl, ?_⟩) (by assumption) ?_
 rotate_left; (intro wS hSw; (try dsimp only at hSw); go_simp <;> with_reducible rfl)
 try simp only [dI, dH, dG, Act.put, dF, dD, dB]
 refine wpAnyH_take (i := 32) (oi := _) (v := ?_) rfl (by kernel_rfl) (by kernel_rfl) (by kernel_rfl) (fun _ _ _ h => h) (Or.inl ⟨by rfl, ?_⟩) (by assumption) ?_
 rotate_left; (intro wS hSw; (try dsimp only at hSw); go_simp <;> with_reducible rfl)
 try simp only [dI, dH, dG, Act.put, dF, dD, dB]
 refine wpAnyH_done (by kernel_rfl) ?_ _
 obtain ⟨e0, e1, e2, e3, e4, e5, e6, nH⟩ := hHeld
 have hbf := af HB.out nH.out
 go_wp2
 go_ret
 exact ⟨rfl, hbf⟩
theorem Jw (P Q G : Int) (ba oa ca : Nat) (a0 C : Int) (pz : Option Addr) (nz cz : Nat) (z0 : Int) (hnz : ((nz : Int) == 1) = false) (hA : Hid (l_ P Q G a0 = true)) (hC : Hid (kQ Q C = true)) (hval : Hid (aJ P Q G = true)) (hQ : Q < 9223372036854775808) (w : World) (hv : Hid (Vars w)) (ha : Hid (w.cell? ⟨ba, oa, none⟩ = some (.int .i64 a0))) :
  Calls Tryz.prog 37 #[gv P Q G, Ng (some ⟨ba, oa, none⟩) 1 ca C pz nz cz] w fun e' w' => e' = .returned (.bool false) ∧ Below w.heap.size w w' := by
 obtain ⟨hp2, hp, hq3, wK⟩ := aM hval.out
 obtain ⟨W, hW⟩ : ∃ W, (w.alloc (aN P Q G)).alloc (mH (some ⟨ba, oa, none⟩) 1 ca C pz nz cz) = W := ⟨_, rfl⟩
 have HB : Hid (Below w.heap.size w W) := aa (by rw [← hW]; exact aB (Below.refl _ _))
 have HX : Hid (eO W w.heap.size P Q G) := aa (by rw [← hW]; exact (az w P Q G).below (ai _ _))
 have HP : Hid (qV W (w.heap.size + 1) (.slice (some ⟨ba, oa, none⟩) 1 ca) (.int .i64 C) (.slice pz nz cz)) := aa (by rw [← hW]; exact gF w _ _ _ _ _)
 have HA : Hid (W.cell? ⟨ba, oa, none⟩ = some (.int .i64 a0)) := aa (aL ha.out HB.out)
 have HS : Hid (∀ w1 w2 : World, Hid (Below W.heap.size W w1) → Below w1.heap.size w1 w2 → (w2.cell? ⟨w.heap.size, 0, none⟩ = some (.int .i64 P) ∧ w2.cell? ⟨w.heap.size, 1, none⟩ = some (.int .i64 Q) ∧ w2.cell? ⟨w.heap.size, 2, none⟩ = some (.int .i64 G) ∧ w2.cell? ⟨w.heap.size + 1, 0, none⟩ = some (.slice (some ⟨ba, oa, none⟩) 1 ca) ∧ w2.cell? ⟨w.heap.size + 1, 1, none⟩ = some (.int .i64 C) ∧ w2.cell? ⟨w.heap.size + 1, 2, none⟩ = some (.slice pz nz cz) ∧ w2.cell? ⟨ba, oa, none⟩ = some (.int .i64 a0) ∧ Hid (Below W.heap.size W w2))) :=
  aa (fun w1 w2 h1 h2 => have h3 := af h1.out h2; ⟨(HX.out.below h3).1, (HX.out.below h3).2.1, (HX.out.below h3).2.2, (HP.out.below h3).1, (HP.out.below h3).2.1, (HP.out.below h3).2.2, aL HA.out h3, aa h3⟩)
 have HB0 : Hid (Below W.heap.size W W) := aa (Below.refl _ _)
 have HV : Hid (Vars W) := aa (hv.out.below HB.out)
 have MR : Hid (∀ w1 : World, Hid (Below W.heap.size W w1) → Hid (Vars w1)) := aa (fun w1 h1 => aa (HV.out.below h1.out))
 have HW := aa hW
 clear hW
 go_in
 go_wp2_with fail
 rw [HW.out]
 refine wp_region_held_drew (S := fun w' => w'.cell? ⟨w.heap.size, 0, none⟩ = some (.int .i64 P) ∧ w'.cell? ⟨w.heap.size, 1, none⟩ = some (.int .i64 Q) ∧ w'.cell? ⟨w.heap.size, 2, none⟩ = some (.int .i64 G) ∧ w'.cell? ⟨w.heap.size + 1, 0, none⟩ = some (.slice (some ⟨ba, oa, none⟩) 1 ca) ∧ w'.cell? ⟨w.heap.size + 1, 1, none⟩ = some (.int .i64 C) ∧ w'.cell? ⟨w.heap.size + 1, 2, none⟩ = some (.slice pz nz cz) ∧ w'.cell? ⟨ba, oa, none⟩ = some (.int .i64 a0) ∧ Hid (Below W.heap.size W w')) (by kernel_rfl) (HS.out _ _ HB0 ((Below.refl W.heap.size W).drew)) (fun hHeld => ?_)
 refine wpAnyH_take (i := 0) (oi := _) (v := ?_) rfl (by kernel_rfl) (by kernel_rfl) (by kernel_rfl) (fun _ _ _ h => h) (Or.inl ⟨by rfl, ?_⟩) (by assumption) ?_
 rotate_left; (intro wS hSw; (try dsimp only at hSw); go_simp <;> with_reducible rfl)
 try simp only [dI, dH, dG, Act.put, dF, dD, dB]
 refine wpAnyH_take (i := 1) (oi := _) (v := ?_) rfl (by kernel_rfl) (by kernel_rfl) (by kernel_rfl) (fun _ _ _ h => h) (Or.inl ⟨by rfl, ?_⟩) (by assumption) ?_
 rotate_left; (intro wS hSw; (try dsimp only at hSw); go_simp <;> with_reducible rfl)
 try simp only [dI, dH, dG, Act.put, dF, dD, dB]
 refine wpAnyH_take (i := 2) (oi := _) (v := ?_) rfl (by kernel_rfl) (by kernel_rfl) (by kernel_rfl) (fun _ _ _ h => h) (Or.inl ⟨by rfl, ?_⟩) (by assumption) ?_
 rotate_left; (intro wS hSw; (try dsimp only at hSw); go_simp <;> with_reducible rfl)
 try simp only [dI, dH, dG, Act.put, dF, dD, dB]
 refine wpAnyH_take (i := 3) (oi := _) (v := ?_) rfl (by kernel_rfl) (by kernel_rfl) (by kernel_rfl) (fun _ _ _ h => h) (Or.inl ⟨by rfl, ?_⟩) (by assumption) ?_
 rotate_left; (intro wS hSw; (try dsimp only at hSw); go_simp <;> with_reducible rfl)
 try simp only [dI, dH, dG, Act.put, dF, dD, dB]
 refine wpAnyH_take (i := 4) (oi := _) (v := ?_) rfl (by kernel_rfl) (by kernel_rfl) (by kernel_rfl) (fun _ _ _ h => h) (Or.inl ⟨by rfl, ?_⟩) (by assumption) ?_
 rotate_left; (intro wS hSw; (try dsimp only at hSw); go_simp <;> with_reducible rfl)
 try simp only [dI, dH, dG, Act.put, dF, dD, dB]
 refine wpAnyH_take (i := 5) (oi := _) (v := ?_) rfl (by kernel_rfl) (by kernel_rfl) (by kernel_rfl) (fun _ _ _ h => h) (Or.inl ⟨by rfl, ?_⟩) (by assumption) ?_
 rotate_left; (intro wS hSw; (try dsimp only at hSw); go_simp <;> with_reducible rfl)
 try simp only [dI, dH, dG, Act.put, dF, dD, dB]
 refine wpAnyH_take (i := 6) (oi := _) (v := ?_) rfl (by kernel_rfl) (by kernel_rfl) (by kernel_rfl) (fun _ _ _ h => h) (Or.inl ⟨by rfl, ?_⟩) (by assumption) ?_
 rotate_left; (intro wS hSw; (try dsimp only at hSw); go_simp <;> with_reducible rfl)
 try simp only [dI, dH, dG, Act.put, dF, dD, dB]
 refine wpAnyH_take (i := 7) (oi := _) (v := ?_) rfl (by kernel_rfl) (by kernel_rfl) (by kernel_rfl) (fun _ _ _ h => h) (Or.inl ⟨by rfl, ?_⟩) (by assumption) ?_
 rotate_left; (intro wS hSw; (try dsimp only at hSw); go_simp <;> with_reducible rfl)
 try simp only [dI, dH, dG, Act.put, dF, dD, dB]
 refine wpAnyH_take (i := 8) (oi := _) (v := ?_) rfl (by kernel_rfl) (by kernel_rfl) (by kernel_rfl) (fun _ _ _ h => h) (Or.inl ⟨by rfl, ?_⟩) (by assumption) ?_
 rotate_left; (intro wS hSw; (try dsimp only at hSw); go_simp <;> with_reducible rfl)
 try simp only [dI, dH, dG, Act.put, dF, dD, dB]
 refine wpAnyH_take (i := 9) (oi := _) (v := ?_) rfl (by kernel_rfl) (by kernel_rfl) (by kernel_rfl) (fun _ _ _ h => h) (Or.inl ⟨by rfl, ?_⟩) (by assumption) ?_
 rotate_left; (intro wS hSw; (try dsimp only at hSw); go_simp <;> with_reducible rfl)
 try simp only [dI, dH, dG, Act.put, dF, dD, dB]
 refine wpAnyH_ready (rs := [10]) (by kernel_rfl) (by simp) ?_
 refine AllReadyH.cons rfl (fun K hK => ?_) AllReadyH.nil
 go_simp
 (go_at_call 36; (refine (dJ P Q G a0 true hA hQ _ ?_).mono ?_); rotate_left; rintro e wA ⟨rfl, bA⟩; rotate_left; (go_split_ands; exact MR.out _ (by assumption)))
 refine hK.out _ _ ?_ (fun hHeld => ?_)
 · (go_split_ands; exact HS.out _ _ (by assumption) bA)
 clear hK K
 try simp only [dI, dH, dG, Act.put, dF, dD, dB]
 refine wpAnyH_take (i := 11) (oi := _) (v := ?_) rfl (by kernel_rfl) (by kernel_rfl) (by kernel_rfl) (fun _ _ _ h => h) (Or.inl ⟨by rfl, ?_⟩) (by assumption) ?_
 rotate_left; (intro wS hSw; (try dsimp only at hSw); go_simp <;> with_reducible rfl)
 try simp only [dI, dH, dG, Act.put, dF, dD, dB]
 refine wpAnyH_take (i := 12) (oi := _) (v := ?_) rfl (by kernel_rfl) (by kernel_rfl) (by kernel_rfl) (fun _ _ _ h => h) (Or.inl ⟨by rfl, ?_⟩) (by assumption) ?_
 rotate_left; (intro wS hSw; (try dsimp only at hSw); go_simp <;> with_reducible rfl)
 try simp only [dI, dH, dG, Act.put, dF, dD, dB]
 refine wpAnyH_take (i := 13) (oi := _) (v := ?_) rfl (by kernel_rfl) (by kernel_rfl) (by kernel_rfl) (fun _ _ _ h => h) (Or.inl ⟨by rfl, ?_⟩) (by assumption) ?_
 rotate_left; (intro wS hSw; (try dsimp only at hSw); go_simp <;> with_reducible rfl)
 try simp only [dI, dH, dG, Act.put, dF, dD, dB]
 refine wpAnyH_take (i := 14) (oi := _) (v := ?_) rfl (by kernel_rfl) (by kernel_rfl) (by kernel_rfl) (fun _ _ _ h => h) (Or.inl ⟨by rfl, ?_⟩) (by assumption) ?_
 rotate_left; (intro wS hSw; (try dsimp only at hSw); go_simp <;> with_reducible rfl)
 try simp only [dI, dH, dG, Act.put, dF, dD, dB]
 refine wpAnyH_take (i := 15) (oi := _) (v := ?_) rfl (by kernel_rfl) (by kernel_rfl) (by kernel_rfl) (fun _ _ _ h => h) (Or.inl ⟨by rfl, ?_⟩) (by assumption) ?_
 rotate_left; (intro wS hSw; (try dsimp only at hSw); go_simp <;> with_reducible rfl)
 try simp only [dI, dH, dG, Act.put, dF, dD, dB]
 refine wpAnyH_ready (rs := [16]) (by kernel_rfl) (by simp) ?_
 refine AllReadyH.cons rfl (fun K hK => ?_) AllReadyH.nil
 go_simp
 (go_at_call 81; (with_reducible refine (kM P Q G C true hC _).mono ?_); rintro e wA ⟨rfl, bA⟩)
 refine hK.out _ _ ?_ (fun hHeld => ?_)
 · (go_split_ands; exact HS.out _ _ (by assumption) bA)
 clear hK K
 try simp only [dI, dH, dG, Act.put, dF, dD, dB]
 refine wpAnyH_take (i := 17) (oi := _) (v := ?_) rfl (by kernel_rfl) (by kernel_rfl) (by kernel_rfl) (fun _ _ _ h => h) (Or.inl ⟨by rfl, ?_⟩) (by assumption) ?_
 rotate_left; (intro wS hSw; (try dsimp only at hSw); go_simp <;> with_reducible rfl)
 try simp only [dI, dH, dG, Act.put, dF, dD, dB]
 refine wpAnyH_take (i := 18) (oi := _) (v := ?_) rfl (by kernel_rfl) (by kernel_rfl) (by kernel_rfl) (fun _ _ _ h => h) (Or.inl ⟨by rfl, ?_⟩) (by assumption) ?_
 rotate_left; (intro wS hSw; (try dsimp only at hSw); go_simp <;> with_reducible rfl)
 try simp only [dI, dH, dG, Act.put, dF, dD, dB]
 refine wpAnyH_take (i := 19) (oi := _) (v := ?_) rfl (by kernel_rfl) (by kernel_rfl) (by kernel_rfl) (fun _ _ _ h => h) (Or.inl ⟨by rfl, ?_⟩) (by assumption) ?_
 rotate_left; (intro wS hSw; (try dsimp only at hSw); go_simp <;> with_reducible rfl)
 try simp only [dI, dH, dG, Act.put, dF, dD, dB]
 refine wpAnyH_take (i := 20) (oi := _) (v := ?_) rfl (by kernel_rfl) (by kernel_rfl) (by kernel_rfl) (fun _ _ _ h => h) (Or.inl ⟨by rfl, ?_⟩) (by assumption) ?_
 rotate_left; (intro wS hSw; (try dsimp only at hSw); go_simp <;> with_reducible rfl)
 try simp only [dI, dH, dG, Act.put, dF, dD, dB]
 refine wpAnyH_take (i := 21) (oi := _) (v := ?_) rfl (by kernel_rfl) (by kernel_rfl) (by kernel_rfl) (fun _ _ _ h => h) (Or.inl ⟨by rfl, ?_⟩) (by assumption) ?_
 rotate_left; (intro wS hSw; (try dsimp only at hSw); go_simp <;> with_reducible rfl)
 try simp only [dI, dH, dG, Act.put, dF, dD, dB]
 refine wpAnyH_take (i := 22) (oi := _) (v := ?_) rfl (by kernel_rfl) (by kernel_rfl) (by kernel_rfl) (fun _ _ _ h => h) (Or.inl ⟨by rfl, ?_⟩) (by assumption) ?_
 rotate_left; (intro wS hSw; (try dsimp only at hSw); go_simp <;> with_reducible rfl)
 try simp only [dI, dH, dG, Act.put, dF, dD, dB]
 refine wpAnyH_take (i := 23) (oi := _) (v := ?_) rfl (by kernel_rfl) (by kernel_rfl) (by kernel_rfl) (fun _ _ _ h => h) (Or.inl ⟨by rfl, ?_⟩) (by assumption) ?_
 rotate_left; (intro wS hSw; (try dsimp only at hSw); go_simp <;> with_reducible rfl)
 try simp only [dI, dH, dG, Act.put, dF, dD, dB]
 refine wpAnyH_take (i := 24) (oi := _) (v := ?_) rfl (by kernel_rfl) (by kernel_rfl) (by kernel_rfl) (fun _ _ _ h => h) (Or.inl ⟨by rfl, ?_⟩) (by assumption) ?_
 rotate_left; (intro wS hSw; (try dsimp only at hSw); go_simp <;> with_reducible rfl)
 try simp only [dI, dH, dG, Act.put, dF, dD, dB]
 refine wpAnyH_take (i := 25) (oi := _) (v := undef) rfl (by kernel_rfl) (by kernel_rfl) (by kernel_rfl) (fun _ _ _ h => h) (Or.inr ⟨by rfl, rfl⟩) (by assumption) ?_
 try simp only [dI, dH, dG, Act.put, dF, dD, dB]
 refine wpAnyH_take (i := 26) (oi := _) (v := undef) rfl (by kernel_rfl) (by kernel_rfl) (by kernel_rfl) (fun _ _ _ h => h) (Or.inr ⟨by rfl, rfl⟩) (by assumption) ?_
 try simp only [dI, dH, dG, Act.put, dF, dD, dB]
 refine wpAnyH_take (i := 27) (oi := _) (v := undef) rfl (by kernel_rfl) (by kernel_rfl) (by kernel_rfl) (fun _ _ _ h => h) (Or.inr ⟨by rfl, rfl⟩) (by assumption) ?_
 try simp only [dI, dH, dG, Act.put, dF, dD, dB]
 refine wpAnyH_take (i := 28) (oi := _) (v := undef) rfl (by kernel_rfl) (by kernel_rfl) (by kernel_rfl) (fun _ _ _ h => h) (Or.inr ⟨by rfl, rfl⟩) (by assumption) ?_
 try simp only [dI, dH, dG, Act.put, dF, dD, dB]
 refine wpAnyH_take (i := 29) (oi := _) (v := undef) rfl (by kernel_rfl) (by kernel_rfl) (by kernel_rfl) (fun _ _ _ h => h) (Or.inr ⟨by rfl, rfl⟩) (by assumption) ?_
 try simp only [dI, dH, dG, Act.put, dF, dD, dB]
 refine wpAnyH_take (i := 30) (oi := _) (v := undef) rfl (by kernel_rfl) (by kernel_rfl) (by kernel_rfl) (fun _ _ _ h => h) (Or.inr ⟨by rfl, rfl⟩) (by assumption) ?_
 try simp only [dI, dH, dG, Act.put, dF, dD, dB]
 refine wpAnyH_take (i := 31) (oi := _) (v := ?_) rfl (by kernel_rfl) (by kernel_rfl) (by kernel_rfl) (fun _ _ _ h => h) (Or.inl ⟨by rfl, ?_⟩) (by assumption) ?_
 rotate_left; (intro wS hSw; (try dsimp only at hSw); go_simp <;> with_reducible rfl)
 try simp only [dI, dH, dG, Act.put, dF, dD, dB]
 refine wpAnyH_take (i := 32) (oi := _) (v := ?_) rfl (by kernel_rfl) (by kernel_rfl) (by kernel_rfl) (fun _ _ _ h => h) (Or.inl ⟨by rfl, ?_⟩) (by assumption) ?_
 rotate_left; (intro wS hSw; (try dsimp only at hSw); go_simp <;> with_reducible rfl)
 try simp only [dI, dH, dG, Act.put, dF, dD, dB]
 refine wpAnyH_done (by kernel_rfl) ?_ _
 obtain ⟨e0, e1, e2, e3, e4, e5, e6, nH⟩ := hHeld
 have hbf := af HB.out nH.out
 go_wp2
 go_ret
 exact ⟨rfl, hbf⟩
theorem Jv (P Q G : Int) (ba oa ca : Nat) (a0 C : Int) (bz oz cz : Nat) (z0 : Int) (hA : Hid (l_ P Q G a0 = true)) (hC : Hid (kQ Q C = true)) (hZ : Hid (kQ Q z0 = false)) (hval : Hid (aJ P Q G = true)) (hQ : Q < 9223372036854775808) (w : World) (hv : Hid (Vars w)) (ha : Hid (w.cell? ⟨ba, oa, none⟩ = some (.int .i64 a0))) (hz : Hid (w.cell? ⟨bz, oz, none⟩ = some (.int .i64 z0))) :
  Calls Tryz.prog 37 #[gv P Q G, Ng (some ⟨ba, oa, none⟩) 1 ca C (some ⟨bz, oz, none⟩) 1 cz] w fun e' w' => e' = .returned (.bool false) ∧ Below w.heap.size w w' := by
 obtain ⟨hp2, hp, hq3, wK⟩ := aM hval.out
 obtain ⟨W, hW⟩ : ∃ W, (w.alloc (aN P Q G)).alloc (mH (some ⟨ba, oa, none⟩) 1 ca C (some ⟨bz, oz, none⟩) 1 cz) = W := ⟨_, rfl⟩
 have HB : Hid (Below w.heap.size w W) := aa (by rw [← hW]; exact aB (Below.refl _ _))
 have HX : Hid (eO W w.heap.size P Q G) := aa (by rw [← hW]; exact (az w P Q G).below (ai _ _))
 have HP : Hid (qV W (w.heap.size + 1) (.slice (some ⟨ba, oa, none⟩) 1 ca) (.int .i64 C) (.slice (some ⟨bz, oz, none⟩) 1 cz)) := aa (by rw [← hW]; exact gF w _ _ _ _ _)
 have HA : Hid (W.cell? ⟨ba, oa, none⟩ = some (.int .i64 a0)) := aa (aL ha.out HB.out)
 have HZ : Hid (W.cell? ⟨bz, oz, none⟩ = some (.int .i64 z0)) := aa (aL hz.out HB.out)
 have HS : Hid (∀ w1 w2 : World, Hid (Below W.heap.size W w1) → Below w1.heap.size w1 w2 → (w2.cell? ⟨w.heap.size, 0, none⟩ = some (.int .i64 P) ∧ w2.cell? ⟨w.heap.size, 1, none⟩ = some (.int .i64 Q) ∧ w2.cell? ⟨w.heap.size, 2, none⟩ = some (.int .i64 G) ∧ w2.cell? ⟨w.heap.size + 1, 0, none⟩ = some (.slice (some ⟨ba, oa, none⟩) 1 ca) ∧ w2.cell? ⟨w.heap.size + 1, 1, none⟩ = some (.int .i64 C) ∧ w2.cell? ⟨w.heap.size + 1, 2, none⟩ = some (.slice (some ⟨bz, oz, none⟩) 1 cz) ∧ w2.cell? ⟨ba, oa, none⟩ = some (.int .i64 a0) ∧ w2.cell? ⟨bz, oz, none⟩ = some (.int .i64 z0) ∧ Hid (Below W.heap.size W w2))) :=
  aa (fun w1 w2 h1 h2 => have h3 := af h1.out h2; ⟨(HX.out.below h3).1, (HX.out.below h3).2.1, (HX.out.below h3).2.2, (HP.out.below h3).1, (HP.out.below h3).2.1, (HP.out.below h3).2.2, aL HA.out h3, aL HZ.out h3, aa h3⟩)
 have HB0 : Hid (Below W.heap.size W W) := aa (Below.refl _ _)
 have HV : Hid (Vars W) := aa (hv.out.below HB.out)
 have MR : Hid (∀ w1 : World, Hid (Below W.heap.size W w1) → Hid (Vars w1)) := aa (fun w1 h1 => aa (HV.out.below h1.out))
 have HW := aa hW
 clear hW
 go_in
 go_wp2_with fail
 rw [HW.out]
 go_region_held3 (fun w' => w'.cell? ⟨w.heap.size, 0, none⟩ = some (.int .i64 P) ∧ w'.cell? ⟨w.heap.size, 1, none⟩ = some (.int .i64 Q) ∧ w'.cell? ⟨w.heap.size, 2, none⟩ = some (.int .i64 G) ∧ w'.cell? ⟨w.heap.size + 1, 0, none⟩ = some (.slice (some ⟨ba, oa, none⟩) 1 ca) ∧ w'.cell? ⟨w.heap.size + 1, 1, none⟩ = some (.int .i64 C) ∧ w'.cell? ⟨w.heap.size + 1, 2, none⟩ = some (.slice (some ⟨bz, oz, none⟩) 1 cz) ∧ w'.cell? ⟨ba, oa, none⟩ = some (.int .i64 a0) ∧ w'.cell? ⟨bz, oz, none⟩ = some (.int .i64 z0) ∧ Hid (Below W.heap.size W w'))
  (first | exact HS.out _ _ HB0 ((Below.refl W.heap.size W).drew) | (go_split_ands; exact HS.out _ _ (by assumption) bA) | go_keep)
  (first
   | (go_at_call 36; (refine (dJ P Q G a0 true hA hQ _ ?_).mono ?_); rotate_left; rintro e wA ⟨rfl, bA⟩; rotate_left; (go_split_ands; exact MR.out _ (by assumption)))
   | (go_at_call 81; (with_reducible refine (kM P Q G C true hC _).mono ?_); rintro e wA ⟨rfl, bA⟩)
   | (go_at_call 81; (with_reducible refine (kM P Q G z0 false hZ _).mono ?_); rintro e wA ⟨rfl, bA⟩))
 rename_i hHeld
 obtain ⟨e0, e1, e2, e3, e4, e5, e6, e7, nH⟩ := hHeld
 have hbf := af HB.out nH.out
 go_wp2
 go_ret
 exact ⟨rfl, hbf⟩
theorem Ju (P Q G : Int) (ba oa ca : Nat) (a0 C : Int) (bz oz cz : Nat) (z0 : Int) (hA : Hid (l_ P Q G a0 = true)) (hC : Hid (kQ Q C = true)) (hZ : Hid (kQ Q z0 = true)) (hval : Hid (aJ P Q G = true)) (hQ : Q < 9223372036854775808) (w : World) (hv : Hid (Vars w)) (ha : Hid (w.cell? ⟨ba, oa, none⟩ = some (.int .i64 a0))) (hz : Hid (w.cell? ⟨bz, oz, none⟩ = some (.int .i64 z0))) :
  Calls Tryz.prog 37 #[gv P Q G, Ng (some ⟨ba, oa, none⟩) 1 ca C (some ⟨bz, oz, none⟩) 1 cz] w fun e' w' => e' = .returned (.bool true) ∧ Below w.heap.size w w' := by
 obtain ⟨hp2, hp, hq3, wK⟩ := aM hval.out
 obtain ⟨W, hW⟩ : ∃ W, (w.alloc (aN P Q G)).alloc (mH (some ⟨ba, oa, none⟩) 1 ca C (some ⟨bz, oz, none⟩) 1 cz) = W := ⟨_, rfl⟩
 have HB : Hid (Below w.heap.size w W) := aa (by rw [← hW]; exact aB (Below.refl _ _))
 have HX : Hid (eO W w.heap.size P Q G) := aa (by rw [← hW]; exact (az w P Q G).below (ai _ _))
 have HP : Hid (qV W (w.heap.size + 1) (.slice (some ⟨ba, oa, none⟩) 1 ca) (.int .i64 C) (.slice (some ⟨bz, oz, none⟩) 1 cz)) := aa (by rw [← hW]; exact gF w _ _ _ _ _)
 have HA : Hid (W.cell? ⟨ba, oa, none⟩ = some (.int .i64 a0)) := aa (aL ha.out HB.out)
 have HZ : Hid (W.cell? ⟨bz, oz, none⟩ = some (.int .i64 z0)) := aa (aL hz.out HB.out)
 have HS : Hid (∀ w1 w2 : World, Hid (Below W.heap.size W w1) → Below w1.heap.size w1 w2 → (w2.cell? ⟨w.heap.size, 0, none⟩ = some (.int .i64 P) ∧ w2.cell? ⟨w.heap.size, 1, none⟩ = some (.int .i64 Q) ∧ w2.cell? ⟨w.heap.size, 2, none⟩ = some (.int .i64 G) ∧ w2.cell? ⟨w.heap.size + 1, 0, none⟩ = some (.slice (some ⟨ba, oa, none⟩) 1 ca) ∧ w2.cell? ⟨w.heap.size + 1, 1, none⟩ = some (.int .i64 C) ∧ w2.cell? ⟨w.heap.size + 1, 2, none⟩ = some (.slice (some ⟨bz, oz, none⟩) 1 cz) ∧ w2.cell? ⟨ba, oa, none⟩ = some (.int .i64 a0) ∧ w2.cell? ⟨bz, oz, none⟩ = some (.int .i64 z0) ∧ Hid (Below W.heap.size W w2))) :=
  aa (fun w1 w2 h1 h2 => have h3 := af h1.out h2; ⟨(HX.out.below h3).1, (HX.out.below h3).2.1, (HX.out.below h3).2.2, (HP.out.below h3).1, (HP.out.below h3).2.1, (HP.out.below h3).2.2, aL HA.out h3, aL HZ.out h3, aa h3⟩)
 have HB0 : Hid (Below W.heap.size W W) := aa (Below.refl _ _)
 have HV : Hid (Vars W) := aa (hv.out.below HB.out)
 have MR : Hid (∀ w1 : World, Hid (Below W.heap.size W w1) → Hid (Vars w1)) := aa (fun w1 h1 => aa (HV.out.below h1.out))
 have HW := aa hW
 clear hW
 go_in
 go_wp2_with fail
 rw [HW.out]
 go_region_held3 (fun w' => w'.cell? ⟨w.heap.size, 0, none⟩ = some (.int .i64 P) ∧ w'.cell? ⟨w.heap.size, 1, none⟩ = some (.int .i64 Q) ∧ w'.cell? ⟨w.heap.size, 2, none⟩ = some (.int .i64 G) ∧ w'.cell? ⟨w.heap.size + 1, 0, none⟩ = some (.slice (some ⟨ba, oa, none⟩) 1 ca) ∧ w'.cell? ⟨w.heap.size + 1, 1, none⟩ = some (.int .i64 C) ∧ w'.cell? ⟨w.heap.size + 1, 2, none⟩ = some (.slice (some ⟨bz, oz, none⟩) 1 cz) ∧ w'.cell? ⟨ba, oa, none⟩ = some (.int .i64 a0) ∧ w'.cell? ⟨bz, oz, none⟩ = some (.int .i64 z0) ∧ Hid (Below W.heap.size W w'))
  (first | exact HS.out _ _ HB0 ((Below.refl W.heap.size W).drew) | (go_split_ands; exact HS.out _ _ (by assumption) bA) | go_keep)
  (first
   | (go_at_call 36; (refine (dJ P Q G a0 true hA hQ _ ?_).mono ?_); rotate_left; rintro e wA ⟨rfl, bA⟩; rotate_left; (go_split_ands; exact MR.out _ (by assumption)))
   | (go_at_call 81; (with_reducible refine (kM P Q G C true hC _).mono ?_); rintro e wA ⟨rfl, bA⟩)
   | (go_at_call 81; (with_reducible refine (kM P Q G z0 true hZ _).mono ?_); rintro e wA ⟨rfl, bA⟩))
 rename_i hHeld
 obtain ⟨e0, e1, e2, e3, e4, e5, e6, e7, nH⟩ := hHeld
 have hbf := af HB.out nH.out
 go_wp2
 go_ret
 exact ⟨rfl, hbf⟩
theorem q9 (P Q G : Int) (pa : Option Addr) (na ca : Nat) (a0 C : Int) (pz : Option Addr) (nz cz : Nat) (z0 : Int) (b : Bool) (hb : Hid (iB P Q na a0 C nz z0 = b)) (hval : Hid (aJ P Q G = true)) (hQ : Q < 9223372036854775808) (w : World) (hv : Hid (Vars w))
  (hA : Hid (One w pa na a0)) (hZ : Hid (One w pz nz z0)) :
  Calls Tryz.prog 37 #[gv P Q G, Ng pa na ca C pz nz cz] w fun e' w' => e' = .returned (.bool b) ∧ Below w.heap.size w w' := by
 have hb' := hb.out
 by_cases h1 : na = 1
 ·
  obtain ⟨ba, oa, rfl, ha⟩ := hA.out h1
  subst h1
  cases h2 : a_ P Q a0 with
  | false =>
   obtain rfl : b = false := by rw [← hb', iB, h2]; simp
   exact Jz P Q G ba oa ca a0 C pz nz cz z0 (aa (by rw [l_, hval.out, h2]; rfl)) hval hQ w hv (aa ha)
  | true =>
   have HA : Hid (l_ P Q G a0 = true) := aa (by rw [l_, hval.out, h2]; rfl)
   cases h3 : kQ Q C with
   | false =>
    obtain rfl : b = false := by rw [← hb', iB, h3]; simp
    exact Jy P Q G ba oa ca a0 C pz nz cz z0 HA (aa h3) hval hQ w hv (aa ha)
   | true =>
    by_cases h4 : nz = 1
    ·
     obtain ⟨bz, oz, rfl, hz⟩ := hZ.out h4
     subst h4
     cases h5 : kQ Q z0 with
     | false =>
      obtain rfl : b = false := by rw [← hb', iB, h5]; simp
      exact Jv P Q G ba oa ca a0 C bz oz cz z0 HA (aa h3) (aa h5) hval hQ w hv (aa ha) (aa hz)
     | true =>
      obtain rfl : b = true := by rw [← hb', iB, h2, h3, h5]; rfl
      exact Ju P Q G ba oa ca a0 C bz oz cz z0 HA (aa h3) (aa h5) hval hQ w hv (aa ha) (aa hz)
    ·
     obtain rfl : b = false := by rw [← hb', iB]; simp [h4]
     exact Jw P Q G ba oa ca a0 C pz nz cz z0 (by simp; omega) HA (aa h3) hval hQ w hv (aa ha)
 ·
  obtain rfl : b = false := by rw [← hb', iB]; simp [h1]
  exact JA P Q G pa na ca a0 C pz nz cz z0 (by simp; omega) hval hQ w hv
def AX (P Q G b y : Int) (na : Nat) (a0 C : Int) (nz : Nat) (z0 : Int) : Bool := aJ P Q G && (okB P Q b && (a_ P Q y && (iB P Q na a0 C nz z0 && (pw b (z0 % Q) P == a0 * pw y (C % Q) P % P))))
theorem yE {P Q : Int} {na : Nat} {a0 C : Int} {nz : Nat} {z0 : Int} (h : iB P Q na a0 C nz z0 = true) : na = 1 ∧ nz = 1 ∧ a_ P Q a0 = true ∧ kQ Q C = true ∧ kQ Q z0 = true := by
 simp [iB] at h
 exact ⟨h.1, h.2.1, h.2.2.1, h.2.2.2.1, h.2.2.2.2⟩
theorem rE (P Q G b y : Int) (pa : Option Addr) (na ca : Nat) (a0 C : Int) (pz : Option Addr) (nz cz : Nat) (z0 : Int) (r : Bool) (hr : Hid (AX P Q G b y na a0 C nz z0 = r)) (hQ : Q < 9223372036854775808) (w : World) (hv : Hid (Vars w))
  (hA : Hid (One w pa na a0)) (hZ : Hid (One w pz nz z0)) :
  Calls Tryz.prog 13 #[gv P Q G, .int .i64 b, .int .i64 y, Ng pa na ca C pz nz cz] w (Rt w (.bool r)) := by
 obtain ⟨w0, hW⟩ : ∃ W, (w.alloc (aN P Q G)).alloc (mH pa na ca C pz nz cz) = W := ⟨_, rfl⟩
 have HB : Hid (Below w.heap.size w w0) := aa (by rw [← hW]; exact aB (Below.refl _ _))
 have HX0 : Hid (eO w0 w.heap.size P Q G) := aa (by rw [← hW]; exact (az w P Q G).below (ai _ _))
 have nE : Hid (qV w0 (w.heap.size + 1) (.slice pa na ca) (.int .i64 C) (.slice pz nz cz)) := aa (by rw [← hW]; exact gF w _ _ _ _ _)
 have oL : Hid (One w0 pa na a0) := aa (hA.out.below HB.out)
 have HZ0 : Hid (One w0 pz nz z0) := aa (hZ.out.below HB.out)
 have ig : Hid (Vars w0) := aa (hv.out.below HB.out)
 have HW := aa hW
 clear hW
 have hr' := hr.out
 cases hval : aJ P Q G with
 | false =>
  obtain rfl : r = false := by rw [← hr', AX, hval]; simp
  have cB : Hid (aJ P Q G = false) := hval
  clear hr' hr hval
  go_in
  go_wp2_with fail
  rw [HW.out]
  go_wp2_with fail
  refine (bK P Q G false cB hQ _ ig).mono ?_
  rintro e w1 ⟨rfl, hb0⟩
  have hb1 := af (HB.out) hb0
  clear hb0
  go_wp2
  go_ret
  exact ⟨rfl, hb1⟩
 | true =>
  have cB : Hid (aJ P Q G = true) := hval
  obtain ⟨hp2, hp, hq3, wK⟩ := aM hval
  cases hk : okB P Q b with
  | false =>
   obtain rfl : r = false := by rw [← hr', AX, hk]; simp
   have HK : Hid (okB P Q b = false) := hk
   clear hr' hr hval hk
   go_in
   go_wp2_with fail
   rw [HW.out]
   go_wp2_with fail
   refine (bK P Q G true cB hQ _ ig).mono ?_
   rintro e w1 ⟨rfl, hb0⟩
   have hb1 := af (HB.out) hb0
   have gT := aa (ig.out.below hb0)
   have fT := aa (HX0.out.below hb0)
   have lX := aa (nE.out.below hb0)
   have HA1 := aa (oL.out.below hb0)
   have HZ1 := aa (HZ0.out.below hb0)
   clear hb0
   obtain ⟨c0, c1, c2⟩ := fT.out
   obtain ⟨d0, d1, d2⟩ := lX.out
   go_wp2_with fail
   refine (nC P Q G b false cB HK _ gT).mono ?_
   rintro e w2 ⟨rfl, hb0⟩
   have hb2 := af hb1 hb0
   clear hb0
   go_wp2
   go_ret
   exact ⟨rfl, hb2⟩
  | true =>
   have HK : Hid (okB P Q b = true) := hk
   cases hm : a_ P Q y with
   | false =>
    obtain rfl : r = false := by rw [← hr', AX, hm]; simp
    have HM : Hid (a_ P Q y = false) := hm
    have HC : Hid (l_ P Q G y = false) := aa (by rw [l_, hval, hm]; rfl)
    clear hr' hr hval hk hm
    go_in
    go_wp2_with fail
    rw [HW.out]
    go_wp2_with fail
    refine (bK P Q G true cB hQ _ ig).mono ?_
    rintro e w1 ⟨rfl, hb0⟩
    have hb1 := af (HB.out) hb0
    have gT := aa (ig.out.below hb0)
    have fT := aa (HX0.out.below hb0)
    have lX := aa (nE.out.below hb0)
    have HA1 := aa (oL.out.below hb0)
    have HZ1 := aa (HZ0.out.below hb0)
    clear hb0
    obtain ⟨c0, c1, c2⟩ := fT.out
    obtain ⟨d0, d1, d2⟩ := lX.out
    go_wp2_with fail
    refine (nC P Q G b true cB HK _ gT).mono ?_
    rintro e w2 ⟨rfl, hb0⟩
    have hb2 := af hb1 hb0
    have ko := aa (gT.out.below hb0)
    have mD := aa (fT.out.below hb0)
    have qw := aa (lX.out.below hb0)
    have HA2 := aa (HA1.out.below hb0)
    have HZ2 := aa (HZ1.out.below hb0)
    clear c0 c1 c2 d0 d1 d2 hb0
    obtain ⟨c0, c1, c2⟩ := mD.out
    obtain ⟨d0, d1, d2⟩ := qw.out
    go_wp2_with fail
    refine (dJ P Q G y false HC hQ _ ko).mono ?_
    rintro e w3 ⟨rfl, hb0⟩
    have hb3 := af hb2 hb0
    clear hb0
    go_wp2
    go_ret
    exact ⟨rfl, hb3⟩
   | true =>
    have HM : Hid (a_ P Q y = true) := hm
    have HC : Hid (l_ P Q G y = true) := aa (by rw [l_, hval, hm]; rfl)
    cases hf : iB P Q na a0 C nz z0 with
    | false =>
     obtain rfl : r = false := by rw [← hr', AX, hf]; simp
     have HF : Hid (iB P Q na a0 C nz z0 = false) := hf
     clear hr' hr hval hk hm hf
     go_in
     go_wp2_with fail
     rw [HW.out]
     go_wp2_with fail
     refine (bK P Q G true cB hQ _ ig).mono ?_
     rintro e w1 ⟨rfl, hb0⟩
     have hb1 := af (HB.out) hb0
     have gT := aa (ig.out.below hb0)
     have fT := aa (HX0.out.below hb0)
     have lX := aa (nE.out.below hb0)
     have HA1 := aa (oL.out.below hb0)
     have HZ1 := aa (HZ0.out.below hb0)
     clear hb0
     obtain ⟨c0, c1, c2⟩ := fT.out
     obtain ⟨d0, d1, d2⟩ := lX.out
     go_wp2_with fail
     refine (nC P Q G b true cB HK _ gT).mono ?_
     rintro e w2 ⟨rfl, hb0⟩
     have hb2 := af hb1 hb0
     have ko := aa (gT.out.below hb0)
     have mD := aa (fT.out.below hb0)
     have qw := aa (lX.out.below hb0)
     have HA2 := aa (HA1.out.below hb0)
     have HZ2 := aa (HZ1.out.below hb0)
     clear c0 c1 c2 d0 d1 d2 hb0
     obtain ⟨c0, c1, c2⟩ := mD.out
     obtain ⟨d0, d1, d2⟩ := qw.out
     go_wp2_with fail
     refine (dJ P Q G y true HC hQ _ ko).mono ?_
     rintro e w3 ⟨rfl, hb0⟩
     have hb3 := af hb2 hb0
     have sw := aa (ko.out.below hb0)
     have m_ := aa (mD.out.below hb0)
     have Bh := aa (qw.out.below hb0)
     have Bn := aa (HA2.out.below hb0)
     have HZ3 := aa (HZ2.out.below hb0)
     clear c0 c1 c2 d0 d1 d2 hb0
     obtain ⟨c0, c1, c2⟩ := m_.out
     obtain ⟨d0, d1, d2⟩ := Bh.out
     go_wp2_with fail
     refine (q9 P Q G pa na ca a0 C pz nz cz z0 false HF cB hQ _ sw Bn HZ3).mono ?_
     rintro e w4 ⟨rfl, hb0⟩
     have hb4 := af hb3 hb0
     clear hb0
     go_wp2
     go_ret
     exact ⟨rfl, hb4⟩
    | true =>
     have HF : Hid (iB P Q na a0 C nz z0 = true) := hf
     obtain ⟨rfl, rfl, hma, hC, Vi⟩ := yE hf
     obtain ⟨ba, oa, rfl, hca⟩ := hA.out rfl
     obtain ⟨bz, oz, rfl, hcz⟩ := hZ.out rfl
     have TG := LB hk
     have Cl := Eb hC
     have Cu := Ec hC
     have Zl := Eb Vi
     have Zu := Ec Vi
     obtain ⟨p1, hp1⟩ : ∃ p1, pw b (z0 % Q) P = p1 := ⟨_, rfl⟩
     obtain ⟨p2, Mf⟩ : ∃ p2, pw y (C % Q) P = p2 := ⟨_, rfl⟩
     obtain ⟨p3, hp3⟩ : ∃ p3, a0 * p2 % P = p3 := ⟨_, rfl⟩
     have m2 : a_ P Q p2 = true := by rw [← Mf]; exact Cf hp2 (by omega) (Int.emod_nonneg _ (by omega)) hm
     have HCb : Hid (r_ P Q G [b] = 0) := aa (yP hval (by simp [TG]))
     have HCy : Hid (r_ P Q G [y] = 0) := aa (yP hval (by simp [hm]))
     have HCm : Hid (r_ P Q G [a0, p2] = 0) := aa (yP hval (by simp [hma, m2]))
     have HG : Hid (RH P Q G b y = 0) := aa (by rw [RH, hval, hk, hm]; rfl)
     have heq : ((p1 : Int) == p3) = r := by rw [← hr', AX, hval, hk, hm, hf, hp1, Mf, hp3]; rfl
     have H1 := aa hp1
     have H2 := aa Mf
     have H3 := aa hp3
     have bl := d_ TG
     have bu := ek TG
     have yl := d_ hm
     have yu := ek hm
     have al := d_ hma
     have au := ek hma
     have l2 := d_ m2
     have u2 := ek m2
     have HCA : Hid (w.cell? ⟨ba, oa, none⟩ = some (.int .i64 a0)) := aa hca
     have Na : Hid (w.cell? ⟨bz, oz, none⟩ = some (.int .i64 z0)) := aa hcz
     clear hr' hr hval hk hm hf hma hC Vi hca hcz TG hp1 Mf hp3 m2
     go_in
     go_wp2_with fail
     rw [HW.out]
     go_wp2_with fail
     refine (bK P Q G true cB hQ _ ig).mono ?_
     rintro e w1 ⟨rfl, hb0⟩
     have hb1 := af (HB.out) hb0
     have gT := aa (ig.out.below hb0)
     have fT := aa (HX0.out.below hb0)
     have lX := aa (nE.out.below hb0)
     have HA1 := aa (oL.out.below hb0)
     have HZ1 := aa (HZ0.out.below hb0)
     clear hb0
     obtain ⟨c0, c1, c2⟩ := fT.out
     obtain ⟨d0, d1, d2⟩ := lX.out
     go_wp2_with fail
     refine (nC P Q G b true cB HK _ gT).mono ?_
     rintro e w2 ⟨rfl, hb0⟩
     have hb2 := af hb1 hb0
     have ko := aa (gT.out.below hb0)
     have mD := aa (fT.out.below hb0)
     have qw := aa (lX.out.below hb0)
     have HA2 := aa (HA1.out.below hb0)
     have HZ2 := aa (HZ1.out.below hb0)
     clear c0 c1 c2 d0 d1 d2 hb0
     obtain ⟨c0, c1, c2⟩ := mD.out
     obtain ⟨d0, d1, d2⟩ := qw.out
     go_wp2_with fail
     refine (dJ P Q G y true HC hQ _ ko).mono ?_
     rintro e w3 ⟨rfl, hb0⟩
     have hb3 := af hb2 hb0
     have sw := aa (ko.out.below hb0)
     have m_ := aa (mD.out.below hb0)
     have Bh := aa (qw.out.below hb0)
     have Bn := aa (HA2.out.below hb0)
     have HZ3 := aa (HZ2.out.below hb0)
     clear c0 c1 c2 d0 d1 d2 hb0
     obtain ⟨c0, c1, c2⟩ := m_.out
     obtain ⟨d0, d1, d2⟩ := Bh.out
     go_wp2_with fail
     refine (q9 P Q G (some ⟨ba, oa, none⟩) 1 ca a0 C (some ⟨bz, oz, none⟩) 1 cz z0 true HF cB hQ _ sw Bn HZ3).mono ?_
     rintro e w4 ⟨rfl, hb0⟩
     have hb4 := af hb3 hb0
     have ze := aa (sw.out.below hb0)
     have Ki := aa (m_.out.below hb0)
     have Dl := aa (Bh.out.below hb0)
     have KC := aa (Bn.out.below hb0)
     have Nz := aa (HZ3.out.below hb0)
     clear c0 c1 c2 d0 d1 d2 hb0
     obtain ⟨c0, c1, c2⟩ := Ki.out
     obtain ⟨d0, d1, d2⟩ := Dl.out
     clear c0 c1 c2 d0 d1 d2
     have WT : Hid (w4.cell? ⟨ba, oa, none⟩ = some (.int .i64 a0)) := aa (aL HCA.out hb4)
     have VK : Hid (w4.cell? ⟨bz, oz, none⟩ = some (.int .i64 z0)) := aa (aL Na.out hb4)
     clear KC Nz
     have KC := WT
     have Nz := VK
     have XD := aa (show ∀ v1 v2 : World, Hid (Below w4.heap.size w4 v1) → Below v1.heap.size v1 v2 → (v2.cell? ⟨w.heap.size, 0, none⟩ = some (.int .i64 P) ∧ v2.cell? ⟨w.heap.size, 1, none⟩ = some (.int .i64 Q) ∧ v2.cell? ⟨w.heap.size, 2, none⟩ = some (.int .i64 G) ∧ v2.cell? ⟨w.heap.size + 1, 0, none⟩ = some (.slice (some ⟨ba, oa, none⟩) 1 ca) ∧ v2.cell? ⟨w.heap.size + 1, 1, none⟩ = some (.int .i64 C) ∧ v2.cell? ⟨w.heap.size + 1, 2, none⟩ = some (.slice (some ⟨bz, oz, none⟩) 1 cz) ∧ v2.cell? ⟨ba, oa, none⟩ = some (.int .i64 a0) ∧ v2.cell? ⟨bz, oz, none⟩ = some (.int .i64 z0) ∧ Hid (Below w4.heap.size w4 v2)) from fun v1 v2 h1 h2 => have h3 := af h1.out h2; ⟨(Ki.out.below h3).1, (Ki.out.below h3).2.1, (Ki.out.below h3).2.2, (Dl.out.below h3).1, (Dl.out.below h3).2.1, (Dl.out.below h3).2.2, aL KC.out h3, aL Nz.out h3, aa h3⟩)
     have ZJ : Hid (Below w4.heap.size w4 w4) := aa (Below.refl _ _)
     have ZG := aa (show ∀ v1 : World, Hid (Below w4.heap.size w4 v1) → Hid (Vars v1) from fun v1 h1 => aa (ze.out.below h1.out))
     go_wp2_with fail
     go_region_held3 (fun w' => w'.cell? ⟨w.heap.size, 0, none⟩ = some (.int .i64 P) ∧ w'.cell? ⟨w.heap.size, 1, none⟩ = some (.int .i64 Q) ∧ w'.cell? ⟨w.heap.size, 2, none⟩ = some (.int .i64 G) ∧ w'.cell? ⟨w.heap.size + 1, 0, none⟩ = some (.slice (some ⟨ba, oa, none⟩) 1 ca) ∧ w'.cell? ⟨w.heap.size + 1, 1, none⟩ = some (.int .i64 C) ∧ w'.cell? ⟨w.heap.size + 1, 2, none⟩ = some (.slice (some ⟨bz, oz, none⟩) 1 cz) ∧ w'.cell? ⟨ba, oa, none⟩ = some (.int .i64 a0) ∧ w'.cell? ⟨bz, oz, none⟩ = some (.int .i64 z0) ∧ Hid (Below w4.heap.size w4 w'))
      (first | exact XD.out _ _ ZJ ((Below.refl w4.heap.size w4).drew) | (go_split_ands; exact XD.out _ _ (by assumption) bA) | go_keep)
      (first
       | (go_at_call 38; (refine (D_ P Q G b z0 p1 HCb H1 (by omega) (by omega) _ ?_).mono ?_); rotate_left; rintro e wA ⟨rfl, bA⟩; rotate_left; (go_split_ands; exact ZG.out _ (by assumption))))
     rename_i hHeld
     obtain ⟨e0, e1, e2, e3, e4, e5, e6, e7, FO⟩ := hHeld
     have hb5 := af hb4 FO.out
     have HV5 := aa (ze.out.below FO.out)
     have X9 := aa (Ki.out.below FO.out)
     have ku := aa (Dl.out.below FO.out)
     have HA5 := aa (aL KC.out FO.out)
     have VJ := aa (aL Nz.out FO.out)
     obtain ⟨w5, KH⟩ : ∃ w5, wA = w5 := ⟨_, rfl⟩
     subst KH
     obtain ⟨c0, c1, c2⟩ := X9.out
     obtain ⟨d0, d1, d2⟩ := ku.out
     clear e0 e1 e2 e3 e4 e5 e6 e7
     go_wp2_with fail
     refine (D_ P Q G y C p2 HCy H2 (by omega) (by omega) _ HV5).mono ?_
     rintro e w6 ⟨rfl, hb0⟩
     have hb6 := af hb5 hb0
     have R5 := aa (HV5.out.below hb0)
     have TY := aa (X9.out.below hb0)
     have GA := aa (ku.out.below hb0)
     have Ut := aa (aL HA5.out hb0)
     have X6 := aa (aL VJ.out hb0)
     clear hb0 c0 c1 c2 d0 d1 d2
     have hSb := aa (show ∀ v1 v2 : World, Hid (Below w6.heap.size w6 v1) → Below v1.heap.size v1 v2 → (v2.cell? ⟨w.heap.size, 0, none⟩ = some (.int .i64 P) ∧ v2.cell? ⟨w.heap.size, 1, none⟩ = some (.int .i64 Q) ∧ v2.cell? ⟨w.heap.size, 2, none⟩ = some (.int .i64 G) ∧ v2.cell? ⟨w.heap.size + 1, 0, none⟩ = some (.slice (some ⟨ba, oa, none⟩) 1 ca) ∧ v2.cell? ⟨w.heap.size + 1, 1, none⟩ = some (.int .i64 C) ∧ v2.cell? ⟨w.heap.size + 1, 2, none⟩ = some (.slice (some ⟨bz, oz, none⟩) 1 cz) ∧ v2.cell? ⟨ba, oa, none⟩ = some (.int .i64 a0) ∧ v2.cell? ⟨bz, oz, none⟩ = some (.int .i64 z0) ∧ Hid (Below w6.heap.size w6 v2)) from fun v1 v2 h1 h2 => have h3 := af h1.out h2; ⟨(TY.out.below h3).1, (TY.out.below h3).2.1, (TY.out.below h3).2.2, (GA.out.below h3).1, (GA.out.below h3).2.1, (GA.out.below h3).2.2, aL Ut.out h3, aL X6.out h3, aa h3⟩)
     have hRb : Hid (Below w6.heap.size w6 w6) := aa (Below.refl _ _)
     have ZF := aa (show ∀ v1 : World, Hid (Below w6.heap.size w6 v1) → Hid (Vars v1) from fun v1 h1 => aa (R5.out.below h1.out))
     go_wp2_with fail
     go_region_held3 (fun w' => w'.cell? ⟨w.heap.size, 0, none⟩ = some (.int .i64 P) ∧ w'.cell? ⟨w.heap.size, 1, none⟩ = some (.int .i64 Q) ∧ w'.cell? ⟨w.heap.size, 2, none⟩ = some (.int .i64 G) ∧ w'.cell? ⟨w.heap.size + 1, 0, none⟩ = some (.slice (some ⟨ba, oa, none⟩) 1 ca) ∧ w'.cell? ⟨w.heap.size + 1, 1, none⟩ = some (.int .i64 C) ∧ w'.cell? ⟨w.heap.size + 1, 2, none⟩ = some (.slice (some ⟨bz, oz, none⟩) 1 cz) ∧ w'.cell? ⟨ba, oa, none⟩ = some (.int .i64 a0) ∧ w'.cell? ⟨bz, oz, none⟩ = some (.int .i64 z0) ∧ Hid (Below w6.heap.size w6 w'))
      (first | exact hSb.out _ _ hRb ((Below.refl w6.heap.size w6).drew) | (go_split_ands; exact hSb.out _ _ (by assumption) bA) | go_keep)
      (first
       | (go_at_call 39; (refine (Mo P Q G a0 p2 p3 HCm H3 hQ _ ?_).mono ?_); rotate_left; rintro e wA ⟨rfl, bA⟩; rotate_left; (go_split_ands; exact ZF.out _ (by assumption))))
     rename_i hHeld
     obtain ⟨e0, e1, e2, e3, e4, e5, e6, e7, FO⟩ := hHeld
     have D8 := af hb6 FO.out
     have HV7 := aa (R5.out.below FO.out)
     have HX7 := aa (TY.out.below FO.out)
     have HP7 := aa (GA.out.below FO.out)
     have HA7 := aa (aL Ut.out FO.out)
     have HZ7 := aa (aL X6.out FO.out)
     obtain ⟨w7, hw7⟩ : ∃ w7, wA = w7 := ⟨_, rfl⟩
     subst hw7
     go_wp2
     go_ret
     exact ⟨rfl, D8⟩
structure P5 (w u : World) : Prop where
 g : eO u w.heap.size 23 11 4
 p : qV u (w.heap.size + 1 + 1 + 1) (.slice (some ⟨w.heap.size + 1, 0, none⟩) 1 1) (.int .i64 1) (.slice (some ⟨w.heap.size + 1 + 1, 0, none⟩) 1 1)
 a : One u (some ⟨w.heap.size + 1, 0, none⟩) 1 16
 z : One u (some ⟨w.heap.size + 1 + 1, 0, none⟩) 1 5
 b : Below w.heap.size w u
theorem P5.below {w u u' : World} (H : P5 w u) (hb : Below u.heap.size u u') : P5 w u' :=
 ⟨H.g.below hb, H.p.below hb, H.a.below hb, H.z.below hb, af H.b hb⟩
theorem P5.start (w : World) : P5 w ((((w.alloc (aN 23 11 4)).alloc (.cells #[.int .i64 16] 3)).alloc (.cells #[.int .i64 5] 3)).alloc (mH (some ⟨w.heap.size + 1, 0, none⟩) 1 1 1 (some ⟨w.heap.size + 1 + 1, 0, none⟩) 1 1)) := by
 have e1 : (w.alloc (aN 23 11 4)).heap.size = w.heap.size + 1 := by simp
 have e2 : ((w.alloc (aN 23 11 4)).alloc (.cells #[.int .i64 16] 3)).heap.size = w.heap.size + 1 + 1 := by simp
 have e3 : (((w.alloc (aN 23 11 4)).alloc (.cells #[.int .i64 16] 3)).alloc (.cells #[.int .i64 5] 3)).heap.size = w.heap.size + 1 + 1 + 1 := by simp
 have b0 := ai w (aN 23 11 4)
 have b1 := ai (w.alloc (aN 23 11 4)) (.cells #[.int .i64 16] 3)
 have b2 := ai ((w.alloc (aN 23 11 4)).alloc (.cells #[.int .i64 16] 3)) (.cells #[.int .i64 5] 3)
 have b3 := ai (((w.alloc (aN 23 11 4)).alloc (.cells #[.int .i64 16] 3)).alloc (.cells #[.int .i64 5] 3)) (mH (some ⟨w.heap.size + 1, 0, none⟩) 1 1 1 (some ⟨w.heap.size + 1 + 1, 0, none⟩) 1 1)
 refine ⟨(((az w 23 11 4).below b1).below b2).below b3, ?_, fun _ => ⟨_, _, rfl, ?_⟩, fun _ => ⟨_, _, rfl, ?_⟩, af (af (af b0 b1) b2) b3⟩
 ·
  have h : qV ((((w.alloc (aN 23 11 4)).alloc (.cells #[.int .i64 16] 3)).alloc (.cells #[.int .i64 5] 3)).alloc (mH (some ⟨w.heap.size + 1, 0, none⟩) 1 1 1 (some ⟨w.heap.size + 1 + 1, 0, none⟩) 1 1)) (((w.alloc (aN 23 11 4)).alloc (.cells #[.int .i64 16] 3)).alloc (.cells #[.int .i64 5] 3)).heap.size (.slice (some ⟨w.heap.size + 1, 0, none⟩) 1 1) (.int .i64 1) (.slice (some ⟨w.heap.size + 1 + 1, 0, none⟩) 1 1) :=
   ⟨aj (heap_alloc_new _ _) 0, aj (heap_alloc_new _ _) 1, aj (heap_alloc_new _ _) 2⟩
  rwa [e3] at h
 ·
  have h := ((jI (w.alloc (aN 23 11 4)) 3 16).below b2).below b3 0 (by simp)
  rwa [e1] at h
 ·
  have h := (jI ((w.alloc (aN 23 11 4)).alloc (.cells #[.int .i64 16] 3)) 3 5).below b3 0 (by simp)
  rwa [e2] at h
theorem RO : Hid (AX 23 11 4 4 18 1 16 1 1 5 = true) := aa (by kernel_rfl)
theorem RN : Hid (AX 23 11 4 4 2 1 16 1 1 5 = false) := aa (by kernel_rfl)
theorem qU (w : World) (hv : Hid (Vars w)) :
  Calls Tryz.prog 4 #[] w (Rt w (.bool true)) := by
 go_in
 go_upto_region 3 with (fail)
 obtain ⟨W, hW⟩ : ∃ W, (((w.alloc (aN 23 11 4)).alloc (.cells #[.int .i64 16] 3)).alloc (.cells #[.int .i64 5] 3)).alloc (mH (some ⟨w.heap.size + 1, 0, none⟩) 1 1 1 (some ⟨w.heap.size + 1 + 1, 0, none⟩) 1 1) = W := ⟨_, rfl⟩
 have HI0 : Hid (P5 w W) := aa (by rw [← hW]; exact P5.start w)
 rw [show ((((w.alloc (.cells #[.int .i64 23, .int .i64 11, .int .i64 4] 23)).alloc (.cells #[.int .i64 16] 3)).alloc (.cells #[.int .i64 5] 3)).alloc (.cells #[.slice (some ⟨w.heap.size + 1, 0, none⟩) 1 1, .int .i64 1, .slice (some ⟨w.heap.size + 1 + 1, 0, none⟩) 1 1] 36)) = W from hW]
 clear hW
 obtain ⟨⟨g0, g1, g2⟩, ⟨p0, p1, p2⟩⟩ := And.intro HI0.out.g HI0.out.p
 go_wp2_with fail
 clear g0 g1 g2 p0 p1 p2
 refine (rE 23 11 4 4 18 (some ⟨w.heap.size + 1, 0, none⟩) 1 1 16 1 (some ⟨w.heap.size + 1 + 1, 0, none⟩) 1 1 5 true RO (by decide) _ (aa (hv.out.below HI0.out.b)) (aa HI0.out.a) (aa HI0.out.z)).mono ?_
 rintro e w1 ⟨rfl, hb1⟩
 have HI1 := aa (HI0.out.below hb1)
 clear hb1 HI0
 obtain ⟨⟨g0, g1, g2⟩, ⟨p0, p1, p2⟩⟩ := And.intro HI1.out.g HI1.out.p
 go_wp2_with fail
 clear g0 g1 g2 p0 p1 p2
 refine (rE 23 11 4 4 2 (some ⟨w.heap.size + 1, 0, none⟩) 1 1 16 1 (some ⟨w.heap.size + 1 + 1, 0, none⟩) 1 1 5 false RN (by decide) _ (aa (hv.out.below HI1.out.b)) (aa HI1.out.a) (aa HI1.out.z)).mono ?_
 rintro e w2 ⟨rfl, hb2⟩
 have HI2 := aa (HI1.out.below hb2)
 clear hb2 HI1
 go_wp2
 go_ret
 exact ⟨rfl, HI2.out.b⟩
theorem CL (P Q G : Int) (f : FT) (X : Option Addr) (xs : List Int) (xn xc : Nat) (s : ByteArray) (h : List Int) (c : Int) (hQ : Q < 9223372036854775808) (mq : Hid (xs.length = xn)) (qp : xn ≤ xc) (hxb : xn ≤ 1000) (hs : s.size ≤ 1000) (hl : Hid (h.length = 32)) (Gv : Hid (aH h = true)) (w : World) (hv : Hid (Vars w)) (hd : Hid (bX w)) (zu : Hid (iP w)) (hF : Hid (dU w f)) (hX : Hid (Sl w X xs)) (hV : Hid (VF P Q G f)) :
  Calls Tryz.prog 11 #[gv P Q G, fV f, .slice X xn xc, .string s, .agg (aT h c)] w (xJ P Q G f s w) := by
 cases hr : jB (bP s) with
 | false => exact Jt P Q G f X xs xn xc s h c hQ mq qp hxb hs hl Gv w hv hd zu hF hX hV (aa hr)
 | true => exact Js P Q G f X xs xn xc s h c hQ mq qp hxb hs hl Gv w hv hd zu hF hX hV (aa hr)
structure Kg (w : World) (P Q G : Int) (kind : Int) (Y : Option Addr) (yn yc : Nat) (B : Option Addr) (bn bc : Nat) (L : Option Addr) (ln lc : Nat) (h : List Int) (c : Int) (tc : Int) (tA : Option Addr) (na ca : Nat) (pc : Int) (Zp : Option Addr) (nz cz : Nat) (TL : Option Addr) (tn fU : Nat) (u : World) : Prop where
 g : eO u w.heap.size P Q G
 f : u.heap[w.heap.size + 1]? = some (fO kind Y yn yc B bn bc L ln lc)
 d : dK u (w.heap.size + 2) h c
 t : u.heap[w.heap.size + 3]? = some (tO tc tA na ca pc Zp nz cz TL tn fU)
 b : Below w.heap.size w u
section
variable {w : World} {P Q G : Int} {kind : Int} {Y : Option Addr} {yn yc : Nat} {B : Option Addr} {bn bc : Nat} {L : Option Addr} {ln lc : Nat} {h : List Int} {c : Int} {tc : Int} {tA : Option Addr} {na ca : Nat} {pc : Int} {Zp : Option Addr} {nz cz : Nat} {TL : Option Addr} {tn fU : Nat} {u u' : World}
theorem Kg.below (H : Kg w P Q G kind Y yn yc B bn bc L ln lc h c tc tA na ca pc Zp nz cz TL tn fU u) (hb : Below u.heap.size u u') : Kg w P Q G kind Y yn yc B bn bc L ln lc h c tc tA na ca pc Zp nz cz TL tn fU u' :=
 ⟨H.g.below hb, (hb.block _ (Array.getElem?_eq_some_iff.1 H.f).1).trans H.f, H.d.below hb, (hb.block _ (Array.getElem?_eq_some_iff.1 H.t).1).trans H.t, af H.b hb⟩
theorem Kg.fc (H : Kg w P Q G kind Y yn yc B bn bc L ln lc h c tc tA na ca pc Zp nz cz TL tn fU u) : u.cell? ⟨w.heap.size + 1, 0, none⟩ = some (.int .i64 kind) ∧ u.cell? ⟨w.heap.size + 1, 1, none⟩ = some (.slice Y yn yc) ∧ u.cell? ⟨w.heap.size + 1, 2, none⟩ = some (.slice B bn bc) ∧ u.cell? ⟨w.heap.size + 1, 3, none⟩ = some (.slice L ln lc) := ⟨aj H.f 0, aj H.f 1, aj H.f 2, aj H.f 3⟩
theorem Kg.tre (H : Kg w P Q G kind Y yn yc B bn bc L ln lc h c tc tA na ca pc Zp nz cz TL tn fU u) : u.cell? ⟨w.heap.size + 1 + 1 + 1, 0, none⟩ = some (.int .i64 tc) ∧ u.cell? ⟨w.heap.size + 1 + 1 + 1, 1, none⟩ = some (.slice tA na ca) ∧ u.cell? ⟨w.heap.size + 1 + 1 + 1, 2, none⟩ = some (.int .i64 pc) ∧ u.cell? ⟨w.heap.size + 1 + 1 + 1, 3, none⟩ = some (.slice Zp nz cz) ∧ u.cell? ⟨w.heap.size + 1 + 1 + 1, 4, none⟩ = some (.slice TL tn fU) := ⟨aj H.t 0, aj H.t 1, aj H.t 2, aj H.t 3, aj H.t 4⟩
end
theorem Kg.start (w : World) (P Q G : Int) (kind : Int) (Y : Option Addr) (yn yc : Nat) (B : Option Addr) (bn bc : Nat) (L : Option Addr) (ln lc : Nat) (h : List Int) (c : Int) (tc : Int) (tA : Option Addr) (na ca : Nat) (pc : Int) (Zp : Option Addr) (nz cz : Nat) (TL : Option Addr) (tn fU : Nat) :
  Kg w P Q G kind Y yn yc B bn bc L ln lc h c tc tA na ca pc Zp nz cz TL tn fU ((((w.alloc (aN P Q G)).alloc (fO kind Y yn yc B bn bc L ln lc)).alloc (.cells (aT h c) 34)).alloc (tO tc tA na ca pc Zp nz cz TL tn fU)) := by
 have e1 : (w.alloc (aN P Q G)).heap.size = w.heap.size + 1 := by simp
 have e2 : ((w.alloc (aN P Q G)).alloc (fO kind Y yn yc B bn bc L ln lc)).heap.size = w.heap.size + 2 := by simp
 have e3 : (((w.alloc (aN P Q G)).alloc (fO kind Y yn yc B bn bc L ln lc)).alloc (.cells (aT h c) 34)).heap.size = w.heap.size + 3 := by simp
 refine ⟨?_, ?_, ?_, ?_, ?_⟩
 · exact (((az w P Q G).below (ai _ _)).below (ai _ _)).below (ai _ _)
 ·
  have h0 := heap_alloc_new (w.alloc (aN P Q G)) (fO kind Y yn yc B bn bc L ln lc)
  rw [e1] at h0
  exact ((ai _ _).block _ (by simp)).trans (((ai _ _).block _ (by simp)).trans h0)
 · rw [← e2]; exact (dK.new _ _ _).below (ai _ _)
 · rw [← e3]; exact heap_alloc_new _ _
 · exact af (af (aB (Below.refl _ _)) (ai _ _)) (ai _ _)
theorem NL (P Q G : Int) (f : FT) (X : Option Addr) (xs : List Int) (xn xc : Nat) (s : ByteArray) (h : List Int) (c : Int) (t : TT) (hQ : Q < 9223372036854775808) (mq : Hid (xs.length = xn)) (qp : xn ≤ xc) (hs : s.size < 9223372036854775808) (hxb : xn < 9223372036854775808) (hl : Hid (h.length = 32)) (Gv : Hid (aH h = true)) (w : World) (hv : Hid (Vars w)) (hd : Hid (bX w)) (zu : Hid (iP w)) (hF : Hid (dU w f)) (hT : Hid (bI w t)) (hX : Hid (Sl w X xs)) :
  Calls Tryz.prog 3 #[gv P Q G, fV f, .slice X xn xc, .string s, .agg (aT h c), tV t] w (Rt w (.bool true)) := by
 have KQ := aa (fun u hF => ug f.dp f 61 u (Nat.le_refl _) (by decide) (by decide) hF)
 have Bg := aa (fun u hT => uf t.dp t 61 u (Nat.le_refl _) (by decide) (by decide) hT)
 have cB := aa (fun u hF => rJ P Q G hQ f u hF)
 have Nb := aa (fun (hV : VF P Q G f) u hv hF hT => uO P Q G f t hQ u hv hF hT (aa hV))
 have Pv := aa (fun (hV : VF P Q G f) (t : TT) (ha : f.acc P Q t) u hv hF hT => Fh P Q G f t hQ u hv hF hT (aa hV) ha)
 have Uf := aa (fun (hV : VF P Q G f) (t : TT) (ha : f.acc P Q t) u hv hF hT => Lm P Q G hQ (aa hV.g) f.dp f t u (Nat.le_refl _) hv hF hT hV.s hV.a ha)
 have Pn := aa (fun (hV : VF P Q G f) (t : TT) (ha : f.acc P Q t) (hr) (htx : f.tx.size ≤ 8000) (hch : Kp (yI P Q G (bP s) (bP f.tx) (f.com t) = t.c)) (hs : s.size ≤ 1000) u hv hd zu hF hT => CQ P Q G f t hQ s hs hr u hv hd zu hF hT (aa hV) ha htx hch)
 have Ql := aa (fun (hV : VF P Q G f) (hxb : xn ≤ 1000) (hs : s.size ≤ 1000) u hv hd zu hF hX => CL P Q G f X xs xn xc s h c hQ mq qp hxb hs hl Gv u hv hd zu hF hX (aa hV))
 unfold xJ at Ql
 obtain ⟨vf, Xg⟩ : ∃ z, VF P Q G f = z := ⟨_, rfl⟩
 obtain ⟨acc, hacc⟩ : ∃ z, FT.acc P Q f = z := ⟨_, rfl⟩
 obtain ⟨Nu, l8⟩ : ∃ z, FT.com f = z := ⟨_, rfl⟩
 obtain ⟨Nt, yG⟩ : ∃ z, FT.tx f = z := ⟨_, rfl⟩
 simp only [Xg, hacc, l8, yG] at cB Nb Pv Uf Pn Ql
 clear Xg hacc l8 yG
 obtain ⟨kind, Y, yn, yc, ys, B, bn, bc, rows, L, ln, lc, l⟩ := f
 obtain ⟨tc, tA, na, ca, al, pc, Zp, nz, cz, zs, TL, tn, fU, tl⟩ := t
 obtain ⟨W, hW⟩ : ∃ W, ((((w.alloc (aN P Q G)).alloc (fO kind Y yn yc B bn bc L ln lc)).alloc (.cells (aT h c) 34)).alloc (tO tc tA na ca pc Zp nz cz TL tn fU)) = W := ⟨_, rfl⟩
 have HI0 : Hid (Kg w P Q G kind Y yn yc B bn bc L ln lc h c tc tA na ca pc Zp nz cz TL tn fU W) := aa (by rw [← hW]; exact Kg.start w P Q G kind Y yn yc B bn bc L ln lc h c tc tA na ca pc Zp nz cz TL tn fU)
 have HW := aa hW
 have kV := aa (fun (u : World) (h : Below w.heap.size w u) => aa (hv.out.below h))
 have kD := aa (fun (u : World) (h : Below w.heap.size w u) => aa (hd.out.below h))
 have kP := aa (fun (u : World) (h : Below w.heap.size w u) => aa (zu.out.below h))
 have kF := aa (fun (u : World) (h : Below w.heap.size w u) => aa (hF.out.below h))
 have kT := aa (fun (u : World) (h : Below w.heap.size w u) => aa (hT.out.below h))
 have kX := aa (fun (u : World) (h : Below w.heap.size w u) => aa (hX.out.below h))
 clear hW hv hd zu hF hT hX
 go_in
 go_upto_region 1 with (fail)
 rw [HW.out]
 clear HW
 go_wp2_with fail
 refine (qU _ (kV.out _ HI0.out.b)).mono ?_
 rintro e_ w1 ⟨rfl, hb1⟩
 have HI1 := aa (HI0.out.below hb1)
 clear hb1 HI0
 obtain ⟨f0, f1, f2, f3⟩ := HI1.out.fc
 go_wp2_with fail
 refine (KQ.out _ (kF.out _ HI1.out.b)).mono ?_
 rintro e_ w2 ⟨v1, rfl, v10, v11, hb2⟩
 have HI2 := aa (HI1.out.below hb2)
 clear hb2 f0 f1 f2 f3
 by_cases hv1 : 60 < v1
 case pos =>
  go_wp2_with fail
  refine (qU _ (kV.out _ HI2.out.b)).mono ?_
  rintro e_ wz ⟨rfl, hbz⟩
  have nN := aa (HI2.out.below hbz)
  clear hbz
  go_wp2
  go_ret
  exact ⟨rfl, nN.out.b⟩
 have D1 : decide (60 < v1) = false := by simp; omega
 clear HI1
 obtain ⟨x0, x1, x2, x3, x4⟩ := HI2.out.tre
 go_wp2_with fail
 refine (Bg.out _ (kT.out _ HI2.out.b)).mono ?_
 rintro e_ w3 ⟨v2, rfl, v20, v21, hb3⟩
 have HI3 := aa (HI2.out.below hb3)
 clear hb3 x0 x1 x2 x3 x4 v10
 by_cases hv2 : 60 < v2
 case pos =>
  go_wp2_with fail
  refine (qU _ (kV.out _ HI3.out.b)).mono ?_
  rintro e_ wz ⟨rfl, hbz⟩
  have nN := aa (HI3.out.below hbz)
  clear hbz
  go_wp2
  go_ret
  exact ⟨rfl, nN.out.b⟩
 have D2 : decide (60 < v2) = false := by simp; omega
 clear HI2
 by_cases hx3 : 30 < xn
 case pos =>
  go_wp2_with fail
  refine (qU _ (kV.out _ HI3.out.b)).mono ?_
  rintro e_ wz ⟨rfl, hbz⟩
  have nN := aa (HI3.out.below hbz)
  clear hbz
  go_wp2
  go_ret
  exact ⟨rfl, nN.out.b⟩
 by_cases hs6 : 60 < s.size
 case pos =>
  go_wp2_with fail
  refine (qU _ (kV.out _ HI3.out.b)).mono ?_
  rintro e_ wz ⟨rfl, hbz⟩
  have nN := aa (HI3.out.below hbz)
  clear hbz
  go_wp2
  go_ret
  exact ⟨rfl, nN.out.b⟩
 obtain ⟨g0, g1, g2⟩ := HI3.out.g
 obtain ⟨f0, f1, f2, f3⟩ := HI3.out.fc
 go_wp2_with fail
 refine (cB.out _ (kF.out _ HI3.out.b)).mono ?_
 rintro e_ w4 ⟨b4, rfl, ZY, Vw, hb4⟩
 have HI4 := aa (HI3.out.below hb4)
 clear hb4 g0 g1 g2 f0 f1 f2 f3 HI3 ZY
 cases b4 with
 | false =>
  clear Vw
  go_wp2_with fail
  refine (qU _ (kV.out _ HI4.out.b)).mono ?_
  rintro e_ wz ⟨rfl, hbz⟩
  have nN := aa (HI4.out.below hbz)
  clear hbz
  go_wp2
  go_ret
  exact ⟨rfl, nN.out.b⟩
 | true =>
  have Kj := Vw rfl
  clear Vw
  have Pn := aa (fun hV t ha hr htx hch => Pn.out hV t ha hr htx hch (by omega))
  have Ql := aa (fun hV => Ql.out hV (by omega) (by omega))
  obtain ⟨g0, g1, g2⟩ := HI4.out.g
  obtain ⟨f0, f1, f2, f3⟩ := HI4.out.fc
  obtain ⟨x0, x1, x2, x3, x4⟩ := HI4.out.tre
  go_wp2_with fail
  refine (Nb.out Kj _ (kV.out _ HI4.out.b) (kF.out _ HI4.out.b) (kT.out _ HI4.out.b)).mono ?_
  rintro e_ w5 ⟨b5, rfl, -, Vu, hb5⟩
  have qX := aa (HI4.out.below hb5)
  clear hb5 g0 g1 g2 f0 f1 f2 f3 x0 x1 x2 x3 x4 HI4
  cases b5 with
  | false =>
   clear Vu
   obtain ⟨g0, g1, g2⟩ := qX.out.g
   obtain ⟨f0, f1, f2, f3⟩ := qX.out.fc
   go_wp2_with ((with_reducible show wpList _ _ _ (⟨some 68, _, _, _, _, _⟩ :: _) _ _); refine wpList_load_row rfl 34 _ rfl (w.heap.size + 2) rfl _ _ _ _ qX.out.d Tryz.underlying34 rfl (aK hl.out) ?_)
   refine (Ql.out Kj _ (kV.out _ qX.out.b) (kD.out _ qX.out.b) (kP.out _ qX.out.b) (kF.out _ qX.out.b) (kX.out _ qX.out.b)).mono ?_
   intro e_ wp hP
   obtain ⟨e1, ⟨rc, rA, rW, qE, QH, rpc, rZ, rV, rY, Qy, rL, rX, qD, rl⟩, hh, cc, rfl, Cr, hbp, hbad, hgood⟩ := hP
   have SV := aa Cr
   have M6 := aa (qX.out.below hbp)
   have HBAD := aa hbad
   have Bj := aa hgood
   clear Cr hbp hbad hgood g0 g1 g2 f0 f1 f2 f3
   dsimp only at HBAD
   rw [show Kb (tV ⟨rc, rA, rW, qE, QH, rpc, rZ, rV, rY, Qy, rL, rX, qD, rl⟩) hh cc e1 = .tuple #[.agg #[.int .i64 rc, .slice rA rW qE, .int .i64 rpc, .slice rZ rV rY, .slice rL rX qD], .agg (aT hh cc), .int .i64 e1] from rfl]
   have Tf : Hid (dK ((wp.alloc (tO rc rA rW qE rpc rZ rV rY rL rX qD)).alloc (.cells #[.int .u8 0, .int .u8 0, .int .u8 0, .int .u8 0, .int .u8 0, .int .u8 0, .int .u8 0, .int .u8 0, .int .u8 0, .int .u8 0, .int .u8 0, .int .u8 0, .int .u8 0, .int .u8 0, .int .u8 0, .int .u8 0, .int .u8 0, .int .u8 0, .int .u8 0, .int .u8 0, .int .u8 0, .int .u8 0, .int .u8 0, .int .u8 0, .int .u8 0, .int .u8 0, .int .u8 0, .int .u8 0, .int .u8 0, .int .u8 0, .int .u8 0, .int .u8 0, .int .i64 0] 34)) (wp.heap.size + 1) (aZ 32) 0) := aa (by rw [Du]; exact heap_alloc2_new _ _ _)
   have Gm : Hid ((((wp.alloc (tO rc rA rW qE rpc rZ rV rY rL rX qD)).alloc (.cells #[.int .u8 0, .int .u8 0, .int .u8 0, .int .u8 0, .int .u8 0, .int .u8 0, .int .u8 0, .int .u8 0, .int .u8 0, .int .u8 0, .int .u8 0, .int .u8 0, .int .u8 0, .int .u8 0, .int .u8 0, .int .u8 0, .int .u8 0, .int .u8 0, .int .u8 0, .int .u8 0, .int .u8 0, .int .u8 0, .int .u8 0, .int .u8 0, .int .u8 0, .int .u8 0, .int .u8 0, .int .u8 0, .int .u8 0, .int .u8 0, .int .u8 0, .int .u8 0, .int .i64 0] 34)).setRow (wp.heap.size + 1) (aT hh cc)).heap[wp.heap.size]? = some (tO rc rA rW qE rpc rZ rV rY rL rX qD)) := aa ((setRow_other _ _ _ _ (by omega)).trans (heap_alloc2_old _ _ _))
   have hq : Below wp.heap.size wp (((wp.alloc (tO rc rA rW qE rpc rZ rV rY rL rX qD)).alloc (.cells #[.int .u8 0, .int .u8 0, .int .u8 0, .int .u8 0, .int .u8 0, .int .u8 0, .int .u8 0, .int .u8 0, .int .u8 0, .int .u8 0, .int .u8 0, .int .u8 0, .int .u8 0, .int .u8 0, .int .u8 0, .int .u8 0, .int .u8 0, .int .u8 0, .int .u8 0, .int .u8 0, .int .u8 0, .int .u8 0, .int .u8 0, .int .u8 0, .int .u8 0, .int .u8 0, .int .u8 0, .int .u8 0, .int .u8 0, .int .u8 0, .int .u8 0, .int .u8 0, .int .i64 0] 34)).setRow (wp.heap.size + 1) (aT hh cc)) := aD (aB (Below.refl _ _)) (Nat.le_succ _)
   go_upto_region 6 with ((with_reducible show wpList _ _ _ (⟨none, _, _, _, _, _⟩ :: _) _ _); refine wpList_store_row rfl 34 _ _ rfl (wp.heap.size + 1) (aT hh cc) rfl rfl _ _ Tf.out (aK SV.out) (fe (h := aZ 32) (c := 0) rfl SV.out) (bg _ _) ?_)
   obtain ⟨wq, hwq⟩ : ∃ x, ((wp.alloc (tO rc rA rW qE rpc rZ rV rY rL rX qD)).alloc (.cells #[.int .u8 0, .int .u8 0, .int .u8 0, .int .u8 0, .int .u8 0, .int .u8 0, .int .u8 0, .int .u8 0, .int .u8 0, .int .u8 0, .int .u8 0, .int .u8 0, .int .u8 0, .int .u8 0, .int .u8 0, .int .u8 0, .int .u8 0, .int .u8 0, .int .u8 0, .int .u8 0, .int .u8 0, .int .u8 0, .int .u8 0, .int .u8 0, .int .u8 0, .int .u8 0, .int .u8 0, .int .u8 0, .int .u8 0, .int .u8 0, .int .u8 0, .int .u8 0, .int .i64 0] 34)).setRow (wp.heap.size + 1) (aT hh cc) = x := ⟨_, rfl⟩
   rw [hwq] at Gm hq ⊢
   have Gq := aa (M6.out.below hq)
   have WL := aa hq
   obtain ⟨rb, hrb⟩ : ∃ z, wp.heap.size = z := ⟨_, rfl⟩
   rw [hrb] at Gm ⊢
   clear hwq hq Tf M6 hrb
   by_cases he : e1 = 0
   case neg =>
    have d1 : (e1 != 0) = true := by simp [he]
    have d2 : (e1 == 0) = false := by simp [he]
    obtain ⟨n1, n2⟩ := HBAD.out he
    subst n1
    subst n2
    clear he
    have r1 : wq.cell? ⟨rb, 1, none⟩ = some (.slice rA 0 qE) := aj Gm.out 1
    have r4 : wq.cell? ⟨rb, 4, none⟩ = some (.slice rL 0 qD) := aj Gm.out 4
    go_wp2
    go_ret
    exact ⟨rfl, Gq.out.b⟩
   subst he
   obtain ⟨k1, k2, k3, k4, k5⟩ := Bj.out rfl
   have HT : Hid (bI wq ⟨rc, rA, rW, qE, QH, rpc, rZ, rV, rY, Qy, rL, rX, qD, rl⟩) := aa (k4.below WL.out)
   have PS := Pv.out Kj _ k3
   have PR := Uf.out Kj _ k3
   have KW := Pn.out Kj _ k3 (aa k1) k2 ⟨k5⟩
   have Pt := aa PS
   have Pw := aa PR
   have Pm := aa KW
   clear k1 k2 k3 k4 k5 PS PR KW Bj HBAD
   have vT : Hid (∀ u : World, Below wq.heap.size wq u → u.heap[rb]? = some (tO rc rA rW qE rpc rZ rV rY rL rX qD)) := aa (fun u hb => (hb.block _ (Array.getElem?_eq_some_iff.1 Gm.out).1).trans Gm.out)
   obtain ⟨g0, g1, g2⟩ := Gq.out.g
   obtain ⟨f0, f1, f2, f3⟩ := Gq.out.fc
   obtain ⟨r0, r1, r2, r3, r4⟩ : (wq.cell? ⟨rb, 0, none⟩ = some (.int .i64 rc) ∧ wq.cell? ⟨rb, 1, none⟩ = some (.slice rA rW qE) ∧ wq.cell? ⟨rb, 2, none⟩ = some (.int .i64 rpc) ∧ wq.cell? ⟨rb, 3, none⟩ = some (.slice rZ rV rY) ∧ wq.cell? ⟨rb, 4, none⟩ = some (.slice rL rX qD)) := by
    have hk := vT.out wq (Below.refl _ _)
    exact ⟨aj hk 0, aj hk 1, aj hk 2, aj hk 3, aj hk 4⟩
   go_wp2_with fail
   refine (Pt.out _ (kV.out _ Gq.out.b) (kF.out _ Gq.out.b) (aa (HT.out.below (Below.refl _ _)))).mono ?_
   rintro e_ EM ⟨rfl, Cz⟩
   have oJ := aa (Gq.out.below Cz)
   have Cw := af (Below.refl _ _) Cz
   clear g0 g1 g2 f0 f1 f2 f3 r0 r1 r2 r3 r4 Cz
   obtain ⟨g0, g1, g2⟩ := oJ.out.g
   obtain ⟨f0, f1, f2, f3⟩ := oJ.out.fc
   obtain ⟨r0, r1, r2, r3, r4⟩ : (EM.cell? ⟨rb, 0, none⟩ = some (.int .i64 rc) ∧ EM.cell? ⟨rb, 1, none⟩ = some (.slice rA rW qE) ∧ EM.cell? ⟨rb, 2, none⟩ = some (.int .i64 rpc) ∧ EM.cell? ⟨rb, 3, none⟩ = some (.slice rZ rV rY) ∧ EM.cell? ⟨rb, 4, none⟩ = some (.slice rL rX qD)) := by
    have hk := vT.out EM (Cw)
    exact ⟨aj hk 0, aj hk 1, aj hk 2, aj hk 3, aj hk 4⟩
   go_wp2_with fail
   refine (Pm.out _ (kV.out _ oJ.out.b) (kD.out _ oJ.out.b) (kP.out _ oJ.out.b) (kF.out _ oJ.out.b) (aa (HT.out.below (Cw)))).mono ?_
   rintro e_ EL ⟨rfl, Cy⟩
   have ve := aa (oJ.out.below Cy)
   have Cv := af (Cw) Cy
   clear g0 g1 g2 f0 f1 f2 f3 r0 r1 r2 r3 r4 Cy
   obtain ⟨g0, g1, g2⟩ := ve.out.g
   obtain ⟨f0, f1, f2, f3⟩ := ve.out.fc
   obtain ⟨r0, r1, r2, r3, r4⟩ : (EL.cell? ⟨rb, 0, none⟩ = some (.int .i64 rc) ∧ EL.cell? ⟨rb, 1, none⟩ = some (.slice rA rW qE) ∧ EL.cell? ⟨rb, 2, none⟩ = some (.int .i64 rpc) ∧ EL.cell? ⟨rb, 3, none⟩ = some (.slice rZ rV rY) ∧ EL.cell? ⟨rb, 4, none⟩ = some (.slice rL rX qD)) := by
    have hk := vT.out EL (Cv)
    exact ⟨aj hk 0, aj hk 1, aj hk 2, aj hk 3, aj hk 4⟩
   go_wp2_with fail
   refine (Pw.out _ (kV.out _ ve.out.b) (kF.out _ ve.out.b) (aa (HT.out.below (Cv)))).mono ?_
   rintro e_ wr2 ⟨rfl, Cx⟩
   have PK := aa (ve.out.below Cx)
   have Va := af (Cv) Cx
   clear g0 g1 g2 f0 f1 f2 f3 r0 r1 r2 r3 r4 Cx
   go_wp2
   go_ret
   exact ⟨rfl, PK.out.b⟩
  | true =>
   have hac := Vu rfl
   have HR1 := Pv.out Kj _ hac
   have lX := Uf.out Kj _ hac
   have Sq := aa HR1
   have Su := aa lX
   clear Vu hac HR1 lX
   obtain ⟨g0, g1, g2⟩ := qX.out.g
   obtain ⟨f0, f1, f2, f3⟩ := qX.out.fc
   obtain ⟨x0, x1, x2, x3, x4⟩ := qX.out.tre
   go_wp2_with fail
   refine (Sq.out _ (kV.out _ qX.out.b) (kF.out _ qX.out.b) (kT.out _ qX.out.b)).mono ?_
   rintro e_ w6 ⟨rfl, hb6⟩
   have rP := aa (qX.out.below hb6)
   clear hb6 g0 g1 g2 f0 f1 f2 f3 x0 x1 x2 x3 x4 qX
   obtain ⟨g0, g1, g2⟩ := rP.out.g
   obtain ⟨f0, f1, f2, f3⟩ := rP.out.fc
   obtain ⟨x0, x1, x2, x3, x4⟩ := rP.out.tre
   go_wp2_with fail
   refine (Su.out _ (kV.out _ rP.out.b) (kF.out _ rP.out.b) (kT.out _ rP.out.b)).mono ?_
   rintro e_ w7 ⟨rfl, D8⟩
   have vg := aa (rP.out.below D8)
   clear D8 g0 g1 g2 f0 f1 f2 f3 x0 x1 x2 x3 x4 rP Sq Su
   obtain ⟨g0, g1, g2⟩ := vg.out.g
   obtain ⟨f0, f1, f2, f3⟩ := vg.out.fc
   go_wp2_with ((with_reducible show wpList _ _ _ (⟨some 68, _, _, _, _, _⟩ :: _) _ _); refine wpList_load_row rfl 34 _ rfl (w.heap.size + 2) rfl _ _ _ _ vg.out.d Tryz.underlying34 rfl (aK hl.out) ?_)
   refine (Ql.out Kj _ (kV.out _ vg.out.b) (kD.out _ vg.out.b) (kP.out _ vg.out.b) (kF.out _ vg.out.b) (kX.out _ vg.out.b)).mono ?_
   intro e_ wp hP
   obtain ⟨e1, ⟨rc, rA, rW, qE, QH, rpc, rZ, rV, rY, Qy, rL, rX, qD, rl⟩, hh, cc, rfl, Cr, hbp, hbad, hgood⟩ := hP
   have SV := aa Cr
   have M6 := aa (vg.out.below hbp)
   have HBAD := aa hbad
   have Bj := aa hgood
   clear Cr hbp hbad hgood g0 g1 g2 f0 f1 f2 f3
   dsimp only at HBAD
   rw [show Kb (tV ⟨rc, rA, rW, qE, QH, rpc, rZ, rV, rY, Qy, rL, rX, qD, rl⟩) hh cc e1 = .tuple #[.agg #[.int .i64 rc, .slice rA rW qE, .int .i64 rpc, .slice rZ rV rY, .slice rL rX qD], .agg (aT hh cc), .int .i64 e1] from rfl]
   have Tf : Hid (dK ((wp.alloc (tO rc rA rW qE rpc rZ rV rY rL rX qD)).alloc (.cells #[.int .u8 0, .int .u8 0, .int .u8 0, .int .u8 0, .int .u8 0, .int .u8 0, .int .u8 0, .int .u8 0, .int .u8 0, .int .u8 0, .int .u8 0, .int .u8 0, .int .u8 0, .int .u8 0, .int .u8 0, .int .u8 0, .int .u8 0, .int .u8 0, .int .u8 0, .int .u8 0, .int .u8 0, .int .u8 0, .int .u8 0, .int .u8 0, .int .u8 0, .int .u8 0, .int .u8 0, .int .u8 0, .int .u8 0, .int .u8 0, .int .u8 0, .int .u8 0, .int .i64 0] 34)) (wp.heap.size + 1) (aZ 32) 0) := aa (by rw [Du]; exact heap_alloc2_new _ _ _)
   have Gm : Hid ((((wp.alloc (tO rc rA rW qE rpc rZ rV rY rL rX qD)).alloc (.cells #[.int .u8 0, .int .u8 0, .int .u8 0, .int .u8 0, .int .u8 0, .int .u8 0, .int .u8 0, .int .u8 0, .int .u8 0, .int .u8 0, .int .u8 0, .int .u8 0, .int .u8 0, .int .u8 0, .int .u8 0, .int .u8 0, .int .u8 0, .int .u8 0, .int .u8 0, .int .u8 0, .int .u8 0, .int .u8 0, .int .u8 0, .int .u8 0, .int .u8 0, .int .u8 0, .int .u8 0, .int .u8 0, .int .u8 0, .int .u8 0, .int .u8 0, .int .u8 0, .int .i64 0] 34)).setRow (wp.heap.size + 1) (aT hh cc)).heap[wp.heap.size]? = some (tO rc rA rW qE rpc rZ rV rY rL rX qD)) := aa ((setRow_other _ _ _ _ (by omega)).trans (heap_alloc2_old _ _ _))
   have hq : Below wp.heap.size wp (((wp.alloc (tO rc rA rW qE rpc rZ rV rY rL rX qD)).alloc (.cells #[.int .u8 0, .int .u8 0, .int .u8 0, .int .u8 0, .int .u8 0, .int .u8 0, .int .u8 0, .int .u8 0, .int .u8 0, .int .u8 0, .int .u8 0, .int .u8 0, .int .u8 0, .int .u8 0, .int .u8 0, .int .u8 0, .int .u8 0, .int .u8 0, .int .u8 0, .int .u8 0, .int .u8 0, .int .u8 0, .int .u8 0, .int .u8 0, .int .u8 0, .int .u8 0, .int .u8 0, .int .u8 0, .int .u8 0, .int .u8 0, .int .u8 0, .int .u8 0, .int .i64 0] 34)).setRow (wp.heap.size + 1) (aT hh cc)) := aD (aB (Below.refl _ _)) (Nat.le_succ _)
   go_upto_region 6 with ((with_reducible show wpList _ _ _ (⟨none, _, _, _, _, _⟩ :: _) _ _); refine wpList_store_row rfl 34 _ _ rfl (wp.heap.size + 1) (aT hh cc) rfl rfl _ _ Tf.out (aK SV.out) (fe (h := aZ 32) (c := 0) rfl SV.out) (bg _ _) ?_)
   obtain ⟨wq, hwq⟩ : ∃ x, ((wp.alloc (tO rc rA rW qE rpc rZ rV rY rL rX qD)).alloc (.cells #[.int .u8 0, .int .u8 0, .int .u8 0, .int .u8 0, .int .u8 0, .int .u8 0, .int .u8 0, .int .u8 0, .int .u8 0, .int .u8 0, .int .u8 0, .int .u8 0, .int .u8 0, .int .u8 0, .int .u8 0, .int .u8 0, .int .u8 0, .int .u8 0, .int .u8 0, .int .u8 0, .int .u8 0, .int .u8 0, .int .u8 0, .int .u8 0, .int .u8 0, .int .u8 0, .int .u8 0, .int .u8 0, .int .u8 0, .int .u8 0, .int .u8 0, .int .u8 0, .int .i64 0] 34)).setRow (wp.heap.size + 1) (aT hh cc) = x := ⟨_, rfl⟩
   rw [hwq] at Gm hq ⊢
   have Gq := aa (M6.out.below hq)
   have WL := aa hq
   obtain ⟨rb, hrb⟩ : ∃ z, wp.heap.size = z := ⟨_, rfl⟩
   rw [hrb] at Gm ⊢
   clear hwq hq Tf M6 hrb
   by_cases he : e1 = 0
   case neg =>
    have d1 : (e1 != 0) = true := by simp [he]
    have d2 : (e1 == 0) = false := by simp [he]
    obtain ⟨n1, n2⟩ := HBAD.out he
    subst n1
    subst n2
    clear he
    have r1 : wq.cell? ⟨rb, 1, none⟩ = some (.slice rA 0 qE) := aj Gm.out 1
    have r4 : wq.cell? ⟨rb, 4, none⟩ = some (.slice rL 0 qD) := aj Gm.out 4
    go_wp2
    go_ret
    exact ⟨rfl, Gq.out.b⟩
   subst he
   obtain ⟨k1, k2, k3, k4, k5⟩ := Bj.out rfl
   have HT : Hid (bI wq ⟨rc, rA, rW, qE, QH, rpc, rZ, rV, rY, Qy, rL, rX, qD, rl⟩) := aa (k4.below WL.out)
   have PS := Pv.out Kj _ k3
   have PR := Uf.out Kj _ k3
   have KW := Pn.out Kj _ k3 (aa k1) k2 ⟨k5⟩
   have Pt := aa PS
   have Pw := aa PR
   have Pm := aa KW
   clear k1 k2 k3 k4 k5 PS PR KW Bj HBAD
   have vT : Hid (∀ u : World, Below wq.heap.size wq u → u.heap[rb]? = some (tO rc rA rW qE rpc rZ rV rY rL rX qD)) := aa (fun u hb => (hb.block _ (Array.getElem?_eq_some_iff.1 Gm.out).1).trans Gm.out)
   obtain ⟨g0, g1, g2⟩ := Gq.out.g
   obtain ⟨f0, f1, f2, f3⟩ := Gq.out.fc
   obtain ⟨r0, r1, r2, r3, r4⟩ : (wq.cell? ⟨rb, 0, none⟩ = some (.int .i64 rc) ∧ wq.cell? ⟨rb, 1, none⟩ = some (.slice rA rW qE) ∧ wq.cell? ⟨rb, 2, none⟩ = some (.int .i64 rpc) ∧ wq.cell? ⟨rb, 3, none⟩ = some (.slice rZ rV rY) ∧ wq.cell? ⟨rb, 4, none⟩ = some (.slice rL rX qD)) := by
    have hk := vT.out wq (Below.refl _ _)
    exact ⟨aj hk 0, aj hk 1, aj hk 2, aj hk 3, aj hk 4⟩
   go_wp2_with fail
   refine (Pt.out _ (kV.out _ Gq.out.b) (kF.out _ Gq.out.b) (aa (HT.out.below (Below.refl _ _)))).mono ?_
   rintro e_ EM ⟨rfl, Cz⟩
   have oJ := aa (Gq.out.below Cz)
   have Cw := af (Below.refl _ _) Cz
   clear g0 g1 g2 f0 f1 f2 f3 r0 r1 r2 r3 r4 Cz
   obtain ⟨g0, g1, g2⟩ := oJ.out.g
   obtain ⟨f0, f1, f2, f3⟩ := oJ.out.fc
   obtain ⟨r0, r1, r2, r3, r4⟩ : (EM.cell? ⟨rb, 0, none⟩ = some (.int .i64 rc) ∧ EM.cell? ⟨rb, 1, none⟩ = some (.slice rA rW qE) ∧ EM.cell? ⟨rb, 2, none⟩ = some (.int .i64 rpc) ∧ EM.cell? ⟨rb, 3, none⟩ = some (.slice rZ rV rY) ∧ EM.cell? ⟨rb, 4, none⟩ = some (.slice rL rX qD)) := by
    have hk := vT.out EM (Cw)
    exact ⟨aj hk 0, aj hk 1, aj hk 2, aj hk 3, aj hk 4⟩
   go_wp2_with fail
   refine (Pm.out _ (kV.out _ oJ.out.b) (kD.out _ oJ.out.b) (kP.out _ oJ.out.b) (kF.out _ oJ.out.b) (aa (HT.out.below (Cw)))).mono ?_
   rintro e_ EL ⟨rfl, Cy⟩
   have ve := aa (oJ.out.below Cy)
   have Cv := af (Cw) Cy
   clear g0 g1 g2 f0 f1 f2 f3 r0 r1 r2 r3 r4 Cy
   obtain ⟨g0, g1, g2⟩ := ve.out.g
   obtain ⟨f0, f1, f2, f3⟩ := ve.out.fc
   obtain ⟨r0, r1, r2, r3, r4⟩ : (EL.cell? ⟨rb, 0, none⟩ = some (.int .i64 rc) ∧ EL.cell? ⟨rb, 1, none⟩ = some (.slice rA rW qE) ∧ EL.cell? ⟨rb, 2, none⟩ = some (.int .i64 rpc) ∧ EL.cell? ⟨rb, 3, none⟩ = some (.slice rZ rV rY) ∧ EL.cell? ⟨rb, 4, none⟩ = some (.slice rL rX qD)) := by
    have hk := vT.out EL (Cv)
    exact ⟨aj hk 0, aj hk 1, aj hk 2, aj hk 3, aj hk 4⟩
   go_wp2_with fail
   refine (Pw.out _ (kV.out _ ve.out.b) (kF.out _ ve.out.b) (aa (HT.out.below (Cv)))).mono ?_
   rintro e_ wr2 ⟨rfl, Cx⟩
   have PK := aa (ve.out.below Cx)
   have Va := af (Cv) Cx
   clear g0 g1 g2 f0 f1 f2 f3 r0 r1 r2 r3 r4 Cx
   go_wp2
   go_ret
   exact ⟨rfl, PK.out.b⟩
end Go.Proofs.YtbljkkpnpcgjfaaGreatDoor