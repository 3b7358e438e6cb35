/- Contracts and lemmas: FnD, FnE, FnF, FnG, FnH, FnI, FnJ, LpA. -/
import Derived.Laws.EntriesVeiled
import Derived.Test.YtbljkkpnpcgjfaaGreatDoorTs7
set_option linter.unusedVariables false
set_option linter.unusedSimpArgs false
set_option maxRecDepth 100000
set_option maxHeartbeats 25600000
namespace Go.Proofs.YtbljkkpnpcgjfaaGreatDoor
open Go.RowKit rM
theorem DT : (Tryz.prog.info? 70).map (fun i => (i.zero, i.size, i.bytes)) = some (some (.pointer none), 1, 8) := by kernel_rfl
theorem VA (v : Nat) (n : Nat) (hn : n = 1) : Instr.fill (fun i => some (i * n, n)) ((Array.range (1 * n)).map ((Value.pointer none).cells[· % (Value.pointer none).cells.size]!)) [(0, oM v)] = some #[oM v] := by
 subst hn
 kernel_rfl
theorem NJ {P : Program} {o : Oper} {a : Act} {w : World} {K : Act → World → Prop} {Q : Exit → Act → World → Prop} (t e : TypeId) (x : Operand) (ho : o.op = .buildSlice t 1 #[(0, x)]) (T : Nat) (ie : TypeInfo) (hu : P.underlying t = some (.slice e)) (hie : P.info? e = some ie)
  (hz : ie.zero = some (.pointer none)) (hs : ie.size = 1) (hx : a.eval x = oM T)
  (h : K (a.put o.dst (.slice (some ⟨w.heap.size, 0, none⟩) 1 1)) (w.alloc (.cells #[oM T] e))) : o.wp P a w K Q := by
 refine wp_buildSlice t e 1 _ ho _ ie _ hu hie hz (by rw [hs]; decide) (by rw [hs]; decide) ?_ h
 have e1 : ((#[(0, x)] : Array (Nat × Operand)).map fun (i, x) => (i, a.eval x)).toList = [(0, a.eval x)] := by simp
 rw [e1, hx]
 exact VA T _ hs
def iR (w : World) (base : Nat) (v : Value) (ds : List PD) : Prop := w.ownsRow base 70 1 v ds.length (ds.map fun d => oM d.p)
theorem iR.agree {w w' : World} {B : Nat} {v : Value} {ds : List PD} (h : iR w B v ds) (ha : ∀ g, v.ownBlock = some g → w'.heap[g]? = w.heap[g]?) : iR w' B v ds := by
 obtain ⟨h1, h2⟩ := h
 refine ⟨h1, h2.imp id ?_⟩
 rintro ⟨g, cap, cur, rfl, hg, hh, rest⟩
 exact ⟨g, cap, cur, rfl, hg, (ha g rfl).trans hh, rest⟩
theorem iR.lt {w : World} {B : Nat} {v : Value} {ds : List PD} (h : iR w B v ds) (g : Nat) (e : v.ownBlock = some g) : B ≤ g ∧ g < w.heap.size := World.ownsRow.lt h g e
theorem iR.form {w : World} {B : Nat} {v : Value} {ds : List PD} (h : iR w B v ds) : ∃ A cap, v = .slice A ds.length cap := by
 rcases h.2 with ⟨rfl, e⟩ | ⟨g, cap, cur, rfl, _⟩
 · exact ⟨none, 0, by rw [e]⟩
 · exact ⟨_, _, rfl⟩
theorem iR.pls {w : World} {B : Nat} {A : Option Addr} {n cap : Nat} {ds : List PD} (h : iR w B (.slice A n cap) ds) : VH w A ds := fun k hk => by
 obtain ⟨h1, h2⟩ := h
 rcases h2 with ⟨_, h3⟩ | ⟨g, c2, cur, e, hg, hh, hn, hc, hs, ht⟩
 · omega
 ·
  injection e with e1 e2 e3
  subst e1
  refine ⟨g, 0, rfl, ?_⟩
  rw [Nat.zero_add, aj hh, ← Array.getElem?_toList]
  have h4 : (ds.map fun d => oM d.p)[k]? = some (oM (ds.getD k eG).p) := by
   rw [List.getElem?_map, List.getElem?_eq_getElem hk, List.getD_eq_getElem?_getD, List.getElem?_eq_getElem hk]
   rfl
  rw [← h4, ← ht, List.getElem?_take_of_lt (by omega)]
def Bz (P Q G : Int) (xs : List Int) (f : FT) (OT : Nat → Bool) (k : Nat) (ds : List PD) (g : Option Nat) (n0 : Nat) (w : World) : Prop :=
 ∀ j, j < k → (ds.getD j eG).f = f.l.getD j aY ∧ (ds.getD j eG).gd P Q G xs ∧ (ds.getD j eG).dn = OT j ∧ fB (fun q => n0 ≤ q ∧ g ≠ some q) w (fun u => jP u (ds.getD j eG))
theorem Bz.next {P Q G : Int} {xs : List Int} {f : FT} {OT : Nat → Bool} {k : Nat} {ds : List PD} {dd : PD} {g g2 : Option Nat} {n0 : Nat} {w w2 : World} (h : Bz P Q G xs f OT k ds g n0 w) (hk : ds.length = k) (hf : dd.f = f.l.getD k aY) (hgd : dd.gd P Q G xs) (hdn : dd.dn = OT k)
  (hkp : ∀ R, fB (fun q => n0 ≤ q ∧ g ≠ some q) w R → fB (fun q => n0 ≤ q ∧ g2 ≠ some q) w2 R) (ht : fB (fun q => n0 ≤ q ∧ g2 ≠ some q) w2 (fun u => jP u dd)) : Bz P Q G xs f OT (k + 1) (ds ++ [dd]) g2 n0 w2 := fun j hj => by
 rw [uJ (by rw [List.length_append, List.length_singleton]; omega)]
 by_cases hjk : j < ds.length
 ·
  rw [if_pos hjk]
  obtain ⟨b1, b2, b3, b4⟩ := h j (by omega)
  exact ⟨b1, b2, b3, hkp _ b4⟩
 ·
  rw [if_neg hjk]
  obtain rfl : j = k := by omega
  exact ⟨hf, hgd, hdn, ht⟩
theorem Bz.kp {P Q G : Int} {xs : List Int} {f : FT} {OT : Nat → Bool} {ds : List PD} {A : Option Addr} {cap n0 n1 p : Nat} {ch : Int} {w : World} (h : Bz P Q G xs f OT f.l.length ds (Value.ownBlock (.slice A ds.length cap)) n0 w) (hl : ds.length = f.l.length)
  (hO : iR w n0 (.slice A ds.length cap) ds) (hp : w.heap[p]? = some (t_ f noT none 0 0 A ds.length cap ch false)) (hn : n1 ≤ n0) (hpn : n1 ≤ p) :
  fB (fun q => n1 ≤ q) w (fun u => jP u ⟨f, noT, p, none, 0, 0, [], A, ds.length, cap, ch, false, ds⟩) := fun u hu => by
 show jP u _
 rw [jP]
 refine ⟨(hu p (Array.getElem?_eq_some_iff.1 hp).1 hpn).trans hp, ⟨rfl, rfl⟩, fun k hk => absurd hk (by simp), ?_, ?_, Ke fun k hk => ?_⟩
 ·
  rw [bI]
  exact ⟨⟨rfl, rfl, rfl, by decide⟩, fun k hk => absurd hk (by simp), fun k hk => absurd hk (by simp), fun k hk => absurd hk (by simp), by rw [xy]; trivial⟩
 · exact (hO.agree (fun g e => hu g (hO.lt g e).2 (by have := (hO.lt g e).1; omega))).pls
 · exact (h k (by omega)).2.2.2 u (fun q h1 h2 => hu q h1 (by omega))
theorem CW (P Q G : Int) (hG : Hid (aJ P Q G = true)) (W0 : World) (b : Nat) (iG : W0.heap.size ≤ b) (hv : Hid (Vars W0)) (hd : Hid (bX W0)) (X : Option Addr) (xs : List Int) (xn xc : Nat) (f : FT) (e0 : Int) (w : World) (hB : Hid (Below W0.heap.size W0 w)) (hF : Hid (dU W0 f)) (hS : Hid (gp w b P Q G e0)) (hs : f.sh) (hk : f.kind = 2) (hh : f.hld P Q G xs = true)
  (QS : Hid (∀ k, k < f.l.length → (f.l.getD k aY).hld P Q G xs = true → ∀ (e0 : Int) (u : World), Hid (Below W0.heap.size W0 u) → Hid (gp u b P Q G e0) → Calls Tryz.prog 29 #[.pointer (some ⟨b, 0, none⟩), fV (f.l.getD k aY), .slice X xn xc] u (rR P Q G xs b (f.l.getD k aY) e0 u))) :
  Calls Tryz.prog 29 #[.pointer (some ⟨b, 0, none⟩), fV f, .slice X xn xc] w (rR P Q G xs b f e0 w) := by
 obtain ⟨p1, p2, p3, p4⟩ := aM hG.out
 have hblt := hS.out.lt
 obtain ⟨hl1, Ak⟩ : 1 ≤ f.l.length ∧ f.l.length ≤ 8 := by
  rcases f.sh_eq.1 hs with ⟨h, _⟩ | ⟨_, _, _, h2, _⟩
  · omega
  · exact ⟨h2.1, h2.2⟩
 clear hs
 have hall : ∀ k, k < f.l.length → (f.l.getD k aY).hld P Q G xs = true := by
  rw [f.hld_eq, if_neg (by omega), if_pos hk] at hh
  intro k hkl
  rw [List.getD_eq_getElem?_getD, List.getElem?_eq_getElem hkl]
  exact List.all_eq_true.1 hh _ (List.getElem_mem hkl)
 have ih : Hid (∀ k, k < f.l.length → ∀ (e0 : Int) (u : World), Hid (Below W0.heap.size W0 u) → Hid (gp u b P Q G e0) → Calls Tryz.prog 29 #[.pointer (some ⟨b, 0, none⟩), fV (f.l.getD k aY), .slice X xn xc] u (rR P Q G xs b (f.l.getD k aY) e0 u)) := aa (fun k h => QS.out k h (hall k h))
 have ng := aa (fun (ds : List PD) (A : Option Addr) (cap n0 n1 p : Nat) (w : World) (h : Bz P Q G xs f (fun _ => false) f.l.length ds (Value.ownBlock (.slice A ds.length cap)) n0 w) (hl : ds.length = f.l.length) (hO : iR w n0 (.slice A ds.length cap) ds) (hp : w.heap[p]? = some (t_ f noT none 0 0 A ds.length cap 0 false)) (hn : n1 ≤ n0) (hpn : n1 ≤ p) => And.intro (show PD.gd P Q G xs ⟨f, noT, p, none, 0, 0, [], A, ds.length, cap, 0, false, ds⟩ from (PD.gd_eq _).2 (.inr ⟨rfl, .inr ⟨(show f.kind ≠ 1 by omega), hl, fun k hkl => ⟨(h k (by rw [← hl]; exact hkl)).1, (h k (by rw [← hl]; exact hkl)).2.1⟩, fun _ k hkl => (h k (by rw [← hl]; exact hkl)).2.2.1, fun hn2 => absurd hk hn2⟩⟩)) (h.kp hl hO hp hn hpn))
 have lY := aa (fun (k : Nat) (ds : List PD) (dd : PD) (g g2 : Option Nat) (n0 : Nat) (w w2 : World) (h : Bz P Q G xs f (fun _ => false) k ds g n0 w) (h1 : ds.length = k) (h2) (h3) (h4 : dd.dn = false) (h5) (h6) => Bz.next (dd := dd) (g2 := g2) (w2 := w2) h h1 h2 h3 h4 h5 h6)
 have Kt : Hid (∀ n0 u, Bz P Q G xs f (fun _ => false) 0 [] none n0 u) := aa (fun n0 u j hj => absurd hj (by omega))
 obtain ⟨cg, hcg⟩ : ∃ z, Bz P Q G xs f (fun _ => false) = z := ⟨_, rfl⟩
 rw [hcg] at ng lY Kt
 clear hcg hall hh QS
 obtain ⟨kind, Y, yn, yc, ys, B, bn, bc, rows, L, ln, lc, l⟩ := f
 obtain ⟨hyn, hbn, hln, hlb⟩ := hF.out.lens
 dsimp only at hk hl1 Ak hyn hbn hln hlb ng lY ih
 obtain ⟨w0, HW, hbw, hsz, m0, m1, m2, m3⟩ := uM w (.cells #[.pointer (some ⟨b, 0, none⟩)] 67) (fO kind Y yn yc B bn bc L ln lc) (.cells #[.slice X xn xc] 24) (t_ ⟨kind, Y, yn, yc, ys, B, bn, bc, rows, L, ln, lc, l⟩ noT none 0 0 none 0 0 0 false)
 have av := aa hbw
 have hS0 := hS.out.below hbw
 have HB0 := cZ hB hbw
 have kF := aa (fun (u : World) (h : Hid (Below W0.heap.size W0 u)) => aa (hF.out.below h.out))
 have kD := aa (fun (u : World) (h : Hid (Below W0.heap.size W0 u)) => aa (hd.out.below h.out))
 have nE := aa hS0
 have M8 := aa (aC hbw (some b))
 have M := aa (And.intro m0 (And.intro m1 (And.intro m2 m3)))
 have HN := aa (And.intro p1 (And.intro p2 (And.intro p3 (And.intro p4 (And.intro hblt hsz)))))
 have hQ : Q < 2305843009213693952 := by omega
 have hB' := hB
 obtain ⟨i0, hi, hz0, hz1, hz2⟩ := info_parts DT
 clear hS0 hS hB hbw hF hv hd p1 p2 p3 p4 hblt
 have d1 : (kind == 1) = false := by simp [hk]
 have d2 : (kind == 2) = true := by simp [hk]
 have HKK := aa hk
 clear hk
 go_in
 go_upto_region 2 with (fail)
 rw [show (((w.alloc (.cells #[.pointer (some ⟨b, 0, none⟩)] 67)).alloc (fO kind Y yn yc B bn bc L ln lc)).alloc (.cells #[.slice X xn xc] 24)).alloc (t_ ⟨kind, Y, yn, yc, ys, B, bn, bc, rows, L, ln, lc, l⟩ noT none 0 0 none 0 0 0 false) = w0 from HW.out]
 have f0 : w0.cell? ⟨w.heap.size + 1, 0, none⟩ = some (.int .i64 kind) := aj m1 0
 have f3 : w0.cell? ⟨w.heap.size + 1, 3, none⟩ = some (.slice L ln lc) := aj m1 3
 clear hsz m0 m1 m2 m3
 go_wp2_with fail
 clear f0 f3 d1 d2
 go_loopw [110] (fun vi wr => ∃ (k : Nat) (e : Int) (v : Value) (ds : List PD), k ≤ ln ∧ vi = .int .i64 k ∧ ds.length = k ∧ Hid (gp wr b P Q G e) ∧ Hid (w.grownBy wr (some b)) ∧
  Hid (wr.heap[w.heap.size]? = some (.cells #[.pointer (some ⟨b, 0, none⟩)] 67) ∧ wr.heap[w.heap.size + 1]? = some (fO kind Y yn yc B bn bc L ln lc) ∧ wr.heap[w.heap.size + 2]? = some (.cells #[.slice X xn xc] 24) ∧ wr.heap[w.heap.size + 3]? = some (.cells #[.int .i64 kind, .slice Y yn yc, .slice B bn bc, .slice L ln lc, .int .i64 0, .slice none 0 0, .int .i64 0, .slice none 0 0, .slice none 0 0, .slice none 0 0, v, .int .i64 0, .bool false] 100) ∧ w.heap.size + 4 ≤ wr.heap.size) ∧
  Hid (iR wr (w.heap.size + 4) v ds) ∧ Hid (e = 0 → e0 = 0 ∧ cg k ds v.ownBlock (w.heap.size + 4) wr)) (fun vi _ => ln - (intOf vi).toNat)
 case atStart => exact ⟨0, e0, .slice none 0 0, [], by omega, rfl, rfl, nE, M8, aa ⟨M.out.1, M.out.2.1, M.out.2.2.1, M.out.2.2.2, by have := HN.out; omega⟩, aa (World.ownsRow_nil _ _ _ _), aa (fun e => ⟨e, Kt.out _ _⟩)⟩
 case round =>
  obtain ⟨k, e, v, ds, hk, rfl, hts, HP, iq, HM, HO, HE⟩ := hrel
  by_cases hlt : k < ln
  case neg =>
   obtain rfl : k = ln := by omega
   obtain ⟨A, cap, rfl⟩ := HO.out.form
   have iW := aa hts
   have GI : Hid (e = 0 → e0 = 0 ∧ PD.gd P Q G xs ⟨⟨kind, Y, yn, yc, ys, B, bn, bc, rows, L, k, lc, l⟩, noT, w.heap.size + 3, none, 0, 0, [], A, ds.length, cap, 0, false, ds⟩ ∧ fB (fun q => w.heap.size ≤ q) wr (fun u => jP u ⟨⟨kind, Y, yn, yc, ys, B, bn, bc, rows, L, k, lc, l⟩, noT, w.heap.size + 3, none, 0, 0, [], A, ds.length, cap, 0, false, ds⟩)) := aa (fun h => by
    obtain ⟨h1, h2⟩ := HE.out h
    rw [← hln] at h2
    exact ⟨h1, ng.out _ _ _ _ _ _ _ h2 (by rw [iW.out, hln]) HO.out HM.out.2.2.2.1 (by omega) (by omega)⟩)
   clear hts HE HO ng lY ih
   go_wp2
   go_ret
   refine ⟨e, ⟨⟨kind, Y, yn, yc, ys, B, bn, bc, rows, L, k, lc, l⟩, noT, w.heap.size + 3, none, 0, 0, [], A, ds.length, cap, 0, false, ds⟩, rfl, HP.out, iq.out, fun h => ?_⟩
   obtain ⟨h1, h2, h3⟩ := GI.out h
   exact ⟨h1, rfl, rfl, h2, h3⟩
  have hkl : k < l.length := by omega
  have iW := aa hts
  have aF := dx hB' iG rfl iq.out
  obtain ⟨bb, oo, hL, j0, j1, j2, j3, -⟩ := (kF.out _ aF).out.kid (k := k) hlt
  dsimp only at hL j0 j1 j2 j3
  subst hL
  have hcl := ih.out k hkl
  obtain ⟨x, hx⟩ : ∃ x, l.getD k aY = x := ⟨_, rfl⟩
  have qm := aa (fun (ds : List PD) (dd : PD) (g g2 : Option Nat) (n0 : Nat) (w w2 : World) (h) (h1) => lY.out k ds dd g g2 n0 w w2 h h1)
  rw [hx] at hcl j0 j1 j2 j3 qm
  have fQ := aa hcl
  clear hcl
  clear hx hkl hts
  obtain ⟨xk, xY, jL, jM, xys, xB, jN, jO, fE, xL, jm, jo, xl⟩ := x
  dsimp only at j0 j1 j2 j3
  go_upto_region 19 with (fail)
  obtain ⟨w3, hw3, HB3, hs3, -, kz⟩ := su (fO xk xY jL jM xB jN jO xL jm jo) qQ wr
  have FN : w3.heap[wr.heap.size]? = some (fO xk xY jL jM xB jN jO xL jm jo) := by rw [← hw3]; exact heap_alloc_new _ _
  have I8 := hs3.out
  rw [hw3]
  clear hw3 j0 j1 j2 j3 kz
  have nW := aa (HP.out.below HB3.out)
  have vC := aa (aC HB3.out (some b))
  have dz : Hid (w3.heap[w.heap.size]? = some (.cells #[.pointer (some ⟨b, 0, none⟩)] 67) ∧ w3.heap[w.heap.size + 1]? = some (fO kind Y yn yc B bn bc (some ⟨bb, oo, none⟩) ln lc) ∧ w3.heap[w.heap.size + 2]? = some (.cells #[.slice X xn xc] 24) ∧ w3.heap[w.heap.size + 3]? = some (.cells #[.int .i64 kind, .slice Y yn yc, .slice B bn bc, .slice (some ⟨bb, oo, none⟩) ln lc, .int .i64 0, .slice none 0 0, .int .i64 0, .slice none 0 0, .slice none 0 0, .slice none 0 0, v, .int .i64 0, .bool false] 100) ∧ w3.heap[wr.heap.size]? = some (fO xk xY jL jM xB jN jO xL jm jo) ∧ w.heap.size + 4 ≤ wr.heap.size ∧ wr.heap.size < w3.heap.size) := aa (by
   have h1 := HM.out
   have h3 := HB3.out.size
   exact ⟨(HB3.out.block _ (by omega)).trans h1.1, (HB3.out.block _ (by omega)).trans h1.2.1, (HB3.out.block _ (by omega)).trans h1.2.2.1, (HB3.out.block _ (by omega)).trans h1.2.2.2.1, FN, h1.2.2.2.2, by omega⟩)
  have zh : Hid (e = 0 → e = 0) := aa (fun h => h)
  clear FN hs3 I8
  have rQ : Hid (∀ {dd : PD}, dd.dn = false → dd.dn = false) := aa (fun h => h)
  have Nc : w3.cell? ⟨w.heap.size + 1 + 1 + 1, 10, none⟩ = some v := aj dz.out.2.2.2.1 10
  have v0 : w3.cell? ⟨w.heap.size, 0, none⟩ = some (.pointer (some ⟨b, 0, none⟩)) := aj dz.out.1 0
  have x0 : w3.cell? ⟨w.heap.size + 1 + 1, 0, none⟩ = some (.slice X xn xc) := aj dz.out.2.2.1 0
  have z0 : w3.cell? ⟨wr.heap.size, 0, none⟩ = some (.int .i64 xk) := aj dz.out.2.2.2.2.1 0
  have z1 : w3.cell? ⟨wr.heap.size, 1, none⟩ = some (.slice xY jL jM) := aj dz.out.2.2.2.2.1 1
  have z2 : w3.cell? ⟨wr.heap.size, 2, none⟩ = some (.slice xB jN jO) := aj dz.out.2.2.2.2.1 2
  have z3 : w3.cell? ⟨wr.heap.size, 3, none⟩ = some (.slice xL jm jo) := aj dz.out.2.2.2.2.1 3
  have hnb : wr.heap.size ≠ b := by have := HN.out; have := dz.out; omega
  have uG : w.heap.size ≠ b := by have := HN.out; omega
  have jF : w.heap.size + 1 + 1 ≠ b := by have := HN.out; omega
  have qK : w.heap.size + 1 + 1 + 1 ≠ b := by have := HN.out; omega
  have Jh := aa (fun (u : World) (hu : Hid (w3.grownBy u (some b))) => And.intro (aI hu.out qK Nc) (And.intro (aI hu.out uG v0) (And.intro (aI hu.out jF x0) (And.intro (aI hu.out hnb z0) (And.intro (aI hu.out hnb z1) (And.intro (aI hu.out hnb z2) (aI hu.out hnb z3)))))))
  have zA := dx hB' iG rfl (ax iq.out vC.out)
  clear Nc v0 x0 z0 z1 z2 z3
  refine BK (fun _ => True) [] (aa trivial) (fun hT => ?_)
  have hO : Hid (∀ u : World, Hid True → True) := aa (fun _ _ => trivial)
  refine aQ 0 ?_
  refine jq (S := fun u => Hid (w3.grownBy u (some b))) (E := [10, 11, 12, 13]) _ _ _ _ ?_
  clear hO
  have hHeld : Hid (w3.grownBy w3.drew (some b)) := aa (aC (Below.refl _ _).drew _)
  have hO := Jh
  clear Jh hT
  refine aX 1 2 3 4 ?_
  refine aQ 5 ?_
  refine aQ 6 ?_
  refine aQ 7 ?_
  refine dO 8 fun K hK => ?_
  go_simp
  refine (fQ.out e _ (dx zA iG rfl hHeld.out) (aa (nW.out.agree rfl))).mono ?_
  rintro e_ w5 ⟨e5, dd, rfl, uD, hg5, h5⟩
  refine hK.out _ _ (aa (ax hHeld.out hg5)) (fun hHeld => ?_)
  clear hK K
  have ku := aa uD
  have H5 : Hid (e5 = 0 → e = 0 ∧ dd.f = ⟨xk, xY, jL, jM, xys, xB, jN, jO, fE, xL, jm, jo, xl⟩ ∧ dd.dn = false ∧ dd.gd P Q G xs ∧ fB (fun q => w3.heap.size ≤ q) w5 (fun u => jP u dd)) := aa h5
  clear uD hg5 h5
  obtain ⟨dp, hdp⟩ : ∃ z, dd.p = z := ⟨_, rfl⟩
  rw [hdp]
  have Tg := aa hdp
  clear hdp
  refine dO 9 fun K hK => ?_
  rw [show (if Region.wanted _ _ = true then _ else _ : Prop) = _ from if_pos rfl]
  refine NJ 98 70 _ rfl dp i0 Tryz.underlying98 hi hz0 hz1 rfl ?_
  refine hK.out _ _ (aa (bT hHeld.out _)) (fun hHeld => ?_)
  clear hK K
  obtain ⟨w6, pM, iT, -, -, k6⟩ := su (.cells #[oM dp] 70) Nv w5
  rw [pM] at hHeld ⊢
  clear pM
  have s0 := k6.out _ (dS w6)
  have cO := ax vC.out hHeld.out
  have oI : iR w6 (w.heap.size + 4) v ds := HO.out.agree (fun g hg => cO.block g (HO.out.lt g hg).2 (fun e => by injection e with e; have := (HO.out.lt g hg).1; have := HN.out; omega))
  have hs6 : w.heap.size + 4 ≤ w6.heap.size := by have := cO.size; have := dz.out; omega
  refine mo 10 fun K hK => ?_
  rw [show (if Region.wanted _ _ = true then _ else _ : Prop) = _ from if_pos rfl]
  refine wp_append_lies _ _ _ 98 rfl (w.heap.size + 4) 70 i0 _ 1 8 Tryz.underlying98 hi hz0 hz1 hz2 rfl (by decide) v ds.length (ds.map (fun d : PD => oM d.p)) rfl oI ⟨w5.heap.size, 0, none⟩ 1 1 [oM dp] rfl rfl (fun j u hj => by
   have Cq : j < 1 := (List.getElem?_eq_some_iff.1 hj).1
   rw [iK, Nat.zero_add]
   match j, Cq, hj with
   | 0, _, hj => cases hj; exact s0) (fun u hu => by simp at hu; subst hu; rfl) (by omega) (by unfold maxLen; rw [iW.out]; omega) (by rw [iW.out]; omega) hs6 w6.heap.size rfl ?_
  intro g cap w7 dM aR oC oq
  refine hK.out _ _ ?_
  clear hK K
  clear s0
  have hnew : ∀ q, v.ownBlock = some q → w.heap.size + 4 ≤ q := fun q e => (HO.out.lt q e).1
  have ji : ∀ q, q < w.heap.size + 4 → w7.heap[q]? = w6.heap[q]? := fun q hq => aR.block q (by omega) (fun e => by have := hnew q e.symm; omega)
  have kU : ∀ q, q < w.heap.size + 4 → q ≠ b → w6.heap[q]? = w3.heap[q]? := fun q hq hne => hHeld.out.block q (by have := dz.out; omega) (fun e => hne (by injection e with e))
  have lW : Hid (w7.heap[w.heap.size + 3]? = some (.cells #[.int .i64 kind, .slice Y yn yc, .slice B bn bc, .slice (some ⟨bb, oo, none⟩) ln lc, .int .i64 0, .slice none 0 0, .int .i64 0, .slice none 0 0, .slice none 0 0, .slice none 0 0, v, .int .i64 0, .bool false] 100)) := aa ((ji _ (by omega)).trans ((kU _ (by omega) qK).trans dz.out.2.2.2.1))
  have y4 : w7.cell? ⟨w.heap.size + 1 + 1 + 1, 10, none⟩ = some v := aj lW.out 10
  have y5 : w7.frozen? ⟨w.heap.size + 1 + 1 + 1, 10, none⟩ = false := aS lW.out 10
  refine mo 11 fun K hK => ?_
  go_simp
  refine hK.out _ _ ?_
  clear hK K
  refine mo 12 fun K hK => ?_
  go_simp
  refine hK.out _ _ ?_
  clear hK K
  refine mo 13 fun K hK => ?_
  go_simp
  refine hK.out _ _ ?_
  clear hK K
  refine jf ?_
  clear hO y4 y5
  obtain ⟨v2, hv2⟩ : ∃ z, Value.slice (some ⟨g, 0, none⟩) (ds.length + 1) cap = z := ⟨_, rfl⟩
  have eP : v2.ownBlock = some g := by rw [← hv2]; rfl
  rw [hv2] at dM ⊢
  have oH : Hid ((w7.setCell ⟨w.heap.size + 1 + 1 + 1, 10, none⟩ v2).heap[w.heap.size + 3]? = some (.cells #[.int .i64 kind, .slice Y yn yc, .slice B bn bc, .slice (some ⟨bb, oo, none⟩) ln lc, .int .i64 0, .slice none 0 0, .int .i64 0, .slice none 0 0, .slice none 0 0, .slice none 0 0, v2, .int .i64 0, .bool false] 100)) := aa (heap_setCell_same w7 (w.heap.size + 3) 10 _ _ _ lW.out)
  have hoth : ∀ q, q ≠ w.heap.size + 3 → (w7.setCell ⟨w.heap.size + 1 + 1 + 1, 10, none⟩ v2).heap[q]? = w7.heap[q]? := fun q hq => Go.Deep.blk_setCell_other _ _ _ _ hq
  have gG : (w7.setCell ⟨w.heap.size + 1 + 1 + 1, 10, none⟩ v2).heap.size = w7.heap.size := World.size_setCell _ _ _
  have vk : Hid (w.grownBy (w7.setCell ⟨w.heap.size + 1 + 1 + 1, 10, none⟩ v2) (some b)) := aa (dh (mR (ax iq.out cO) aR (fun q e => by have := hnew q e; omega)) (by omega) v2)
  obtain ⟨w8, hw8⟩ : ∃ u, w7.setCell ⟨w.heap.size + 1 + 1 + 1, 10, none⟩ v2 = u := ⟨_, rfl⟩
  rw [hw8] at oH hoth vk gG ⊢
  have hg3 : w.heap.size + 4 ≤ g := by
   rcases oC with h | h
   · exact hnew g h
   · omega
  have Dk : Hid (gp w8 b P Q G e5) := aa (ku.out.agree (((hoth b (by omega)).trans (ji b (by have := HN.out; omega))).trans (iT.out.block b ku.out.lt)))
  have Dn : Hid (w8.heap[w.heap.size]? = some (.cells #[.pointer (some ⟨b, 0, none⟩)] 67) ∧ w8.heap[w.heap.size + 1]? = some (fO kind Y yn yc B bn bc (some ⟨bb, oo, none⟩) ln lc) ∧ w8.heap[w.heap.size + 2]? = some (.cells #[.slice X xn xc] 24) ∧ w8.heap[w.heap.size + 3]? = some (.cells #[.int .i64 kind, .slice Y yn yc, .slice B bn bc, .slice (some ⟨bb, oo, none⟩) ln lc, .int .i64 0, .slice none 0 0, .int .i64 0, .slice none 0 0, .slice none 0 0, .slice none 0 0, v2, .int .i64 0, .bool false] 100) ∧ w.heap.size + 4 ≤ w8.heap.size) := aa ⟨(hoth _ (by omega)).trans ((ji _ (by omega)).trans ((kU _ (by omega) uG).trans dz.out.1)), (hoth _ (by omega)).trans ((ji _ (by omega)).trans ((kU _ (by omega) (by have := HN.out; omega)).trans dz.out.2.1)), (hoth _ (by omega)).trans ((ji _ (by omega)).trans ((kU _ (by omega) jF).trans dz.out.2.2.1)), oH.out, by have := aR.size; omega⟩
  have Dm : Hid (iR w8 (w.heap.size + 4) v2 (ds ++ [dd])) := aa (iR.agree (w := w7) (by
   unfold iR
   rw [List.length_append, List.length_singleton, List.map_append, List.map_singleton, Tg.out]
   exact dM) (fun q e => by rw [eP] at e; injection e with e; exact hoth q (by omega)))
  have ou : ∀ R, fB (fun q => w.heap.size + 4 ≤ q ∧ v.ownBlock ≠ some q) w6 R → fB (fun q => w.heap.size + 4 ≤ q ∧ v2.ownBlock ≠ some q) w8 R := fun R h => by
   refine fB.step h (fun q h1 h2 => (hoth q (by omega)).trans (aR.block q h1 (fun e => h2.2 e.symm))) (by rw [gG]; exact aR.size) (fun q h1 h2 => ⟨h2.1, fun e => ?_⟩)
   rw [eP] at e
   injection e with e
   subst e
   rcases oC with h | h
   · exact h2.2 h
   · omega
  have Dq : Hid (e5 = 0 → e0 = 0 ∧ cg (k + 1) (ds ++ [dd]) v2.ownBlock (w.heap.size + 4) w8) := aa (fun h0 => by
   obtain ⟨a1, a2, a3, a4, a5⟩ := H5.out h0
   obtain ⟨b1, b2⟩ := HE.out (zh.out a1)
   refine ⟨b1, qm.out ds dd _ _ _ _ _ b2 iW.out a2 a4 (rQ.out a3) (fun R h => ou R (fB.step h (fun q h1 h2 => cO.block q h1 (fun e => by injection e with e; have := HN.out; omega)) cO.size (fun _ _ h => h))) (ou _ (fB.step a5 (fun q h1 h2 => iT.out.block q h1) iT.out.size (fun q h1 h2 => ⟨by have := dz.out; omega, fun e => by have h8 := (HO.out.lt q e).2; have := dz.out; omega⟩)))⟩)
  clear hw8 hoth gG ou oH lW ji kU dM aR oC oq cO oI hs6 eP hv2 hnew H5 ku iT k6 hHeld nW vC dz zh qm fQ HE HO HM HP iq hnb uG jF qK zA rQ
  go_wp2
  go_roundw
  case rel => exact ⟨k + 1, e5, v2, ds ++ [dd], by omega, by go_num, by rw [List.length_append, List.length_singleton, iW.out], Dk, vk, Dn, Dm, Dq⟩
  case measure => simp [intOf]; omega
theorem Mx (P Q G : Int) (b : Nat) (X : Option Addr) (xn xc : Nat) (x : FT) (r : Bool) (u : World) (vb xb : Nat) (hvb : u.cell? ⟨vb, 0, none⟩ = some (.pointer (some ⟨b, 0, none⟩))) (hg : u.cell? ⟨b, 0, none⟩ = some (.int .i64 P) ∧ u.cell? ⟨b, 1, none⟩ = some (.int .i64 Q) ∧ u.cell? ⟨b, 2, none⟩ = some (.int .i64 G)) (hx : u.cell? ⟨xb, 0, none⟩ = some (.slice X xn xc))
  (HC : Hid (∀ u2 : World, Below u.heap.size u u2 → Calls Tryz.prog 27 #[gv P Q G, fV x, .slice X xn xc] u2 (Rt u2 (.bool r)))) :
  Calls Tryz.prog 70 #[fV x, .pointer (some ⟨vb, 0, none⟩), .pointer (some ⟨xb, 0, none⟩)] u (Rt u (.bool r)) := by
 obtain ⟨kind, Y, yn, yc, ys, B, bn, bc, rows, L, ln, lc, l⟩ := x
 obtain ⟨w0, HW, av, kC⟩ := st1 (fO kind Y yn yc B bn bc L ln lc) qQ u
 have aA := dS w0
 have g0 := cell_below hg.1 av.out
 have g1 := cell_below hg.2.1 av.out
 have g2 := cell_below hg.2.2 av.out
 have x0 := cell_below hx av.out
 have v0 := cell_below hvb av.out
 clear hg hx hvb
 go_in
 go_upto_region 1 with (fail)
 rw [show u.alloc (fO kind Y yn yc B bn bc L ln lc) = w0 from HW.out]
 obtain ⟨c0, c1, c2, c3⟩ := kC.out _ aA
 have hO := aa (fun (u : World) (hu : Hid (Below w0.heap.size w0 u)) => And.intro (cell_below v0 hu.out) (And.intro (cell_below g0 hu.out) (And.intro (cell_below g1 hu.out) (And.intro (cell_below g2 hu.out) (And.intro (cell_below x0 hu.out) (And.intro (cell_below c0 hu.out) (And.intro (cell_below c1 hu.out) (And.intro (cell_below c2 hu.out) (cell_below c3 hu.out)))))))))
 clear c0 c1 c2 c3 g0 g1 g2 x0 v0
 refine je [] (dS w0) (fun hHeld => ?_)
 refine aX 0 1 2 3 ?_
 refine aQ 4 ?_
 refine aQ 5 ?_
 refine dO 6 fun K hK => ?_
 go_simp
 refine (HC.out _ (af av.out hHeld.out)).mono ?_
 rintro e w2 ⟨rfl, bA⟩
 refine hK.out _ _ (cZ hHeld bA) (fun hHeld => ?_)
 clear hK K
 refine aQ 7 ?_
 refine jf ?_
 clear hO
 have HB2 := nK aA hHeld
 clear hHeld
 go_wp2
 go_ret
 exact ⟨rfl, gN av HB2⟩
theorem F8 (P Q G : Int) (hG : Hid (aJ P Q G = true)) (W0 : World) (b : Nat) (iG : W0.heap.size ≤ b) (hv : Hid (Vars W0)) (hd : Hid (bX W0)) (X : Option Addr) (xs : List Int) (xn xc : Nat) (f : FT) (e0 : Int) (w : World) (hB : Hid (Below W0.heap.size W0 w)) (hF : Hid (dU W0 f)) (hS : Hid (gp w b P Q G e0)) (hs : f.sh) (hk : f.kind = 3) (hh : f.hld P Q G xs = true) (hX : Hid (Sl W0 X xs))
  (QS : Hid (∀ k, k < f.l.length → (f.l.getD k aY).hld P Q G xs = true → ∀ (e0 : Int) (u : World), Hid (Below W0.heap.size W0 u) → Hid (gp u b P Q G e0) → Calls Tryz.prog 29 #[.pointer (some ⟨b, 0, none⟩), fV (f.l.getD k aY), .slice X xn xc] u (rR P Q G xs b (f.l.getD k aY) e0 u)))
  (UG : Hid (∀ k, k < f.l.length → ∀ (c e0 : Int) (u : World), 0 ≤ c → c < Q → Hid (Below W0.heap.size W0 u) → Hid (gp u b P Q G e0) → Calls Tryz.prog 71 #[.pointer (some ⟨b, 0, none⟩), fV (f.l.getD k aY), .int .i64 c] u (qg P Q G b (f.l.getD k aY) c e0 u)))
  (UH : Hid (∀ k, k < f.l.length → ∀ (u : World), Hid (Below W0.heap.size W0 u) → Calls Tryz.prog 27 #[gv P Q G, fV (f.l.getD k aY), .slice X xn xc] u (Rt u (.bool ((f.l.getD k aY).hld P Q G xs))))) :
  Calls Tryz.prog 29 #[.pointer (some ⟨b, 0, none⟩), fV f, .slice X xn xc] w (rR P Q G xs b f e0 w) := by
 obtain ⟨p1, p2, p3, p4⟩ := aM hG.out
 have hblt := hS.out.lt
 obtain ⟨hl1, Ak⟩ : 1 ≤ f.l.length ∧ f.l.length ≤ 8 := by
  rcases f.sh_eq.1 hs with ⟨h, _⟩ | ⟨_, _, _, h2, _⟩
  · omega
  · exact ⟨h2.1, h2.2⟩
 clear hs
 have hany : ∃ k, k < f.l.length ∧ (f.l.getD k aY).hld P Q G xs = true := by
  rw [f.hld_eq, if_neg (by omega), if_neg (by omega), List.any_eq_true] at hh
  obtain ⟨x, hx, hp⟩ := hh
  obtain ⟨k, hk, rfl⟩ := List.getElem_of_mem hx
  exact ⟨k, hk, by rw [List.getD_eq_getElem?_getD, List.getElem?_eq_getElem hk]; exact hp⟩
 have ng := aa (fun (m : Nat) (hm : m < f.l.length) (ds : List PD) (A : Option Addr) (cap n0 n1 p : Nat) (w : World) (h : Bz P Q G xs f (fun j => decide (j ≠ m)) f.l.length ds (Value.ownBlock (.slice A ds.length cap)) n0 w) (hl : ds.length = f.l.length) (hO : iR w n0 (.slice A ds.length cap) ds) (hp : w.heap[p]? = some (t_ f noT none 0 0 A ds.length cap (m : Int) false)) (hn : n1 ≤ n0) (hpn : n1 ≤ p) => And.intro (show PD.gd P Q G xs ⟨f, noT, p, none, 0, 0, [], A, ds.length, cap, (m : Int), false, ds⟩ from (PD.gd_eq _).2 (.inr ⟨rfl, .inr ⟨(show f.kind ≠ 1 by omega), hl, fun k hkl => ⟨(h k (by rw [← hl]; exact hkl)).1, (h k (by rw [← hl]; exact hkl)).2.1⟩, fun h2 => absurd h2 (show f.kind ≠ 2 by omega), fun hn2 => ⟨m, (by rw [hl]; exact hm), rfl, fun k hkl => (h k (by rw [← hl]; exact hkl)).2.2.1⟩⟩⟩)) (h.kp hl hO hp hn hpn))
 have lY := aa (fun (m : Nat) (k : Nat) (ds : List PD) (dd : PD) (g g2 : Option Nat) (n0 : Nat) (w w2 : World) (h : Bz P Q G xs f (fun j => decide (j ≠ m)) k ds g n0 w) (h1 : ds.length = k) (h2) (h3) (h4 : dd.dn = decide (k ≠ m)) (h5) (h6) => Bz.next (dd := dd) (g2 := g2) (w2 := w2) h h1 h2 h3 h4 h5 h6)
 have Kt : Hid (∀ m n0 u, Bz P Q G xs f (fun j => decide (j ≠ m)) 0 [] none n0 u) := aa (fun m n0 u j hj => absurd hj (by omega))
 obtain ⟨XY, hcg⟩ : ∃ z, (fun m => Bz P Q G xs f (fun j => decide (j ≠ m))) = z := ⟨_, rfl⟩
 have Rm : ∀ m, Bz P Q G xs f (fun j => decide (j ≠ m)) = XY m := fun m => by rw [← hcg]
 simp only [Rm] at ng lY Kt
 have ih := QS
 clear hcg Rm hh QS
 obtain ⟨kind, Y, yn, yc, ys, B, bn, bc, rows, L, ln, lc, l⟩ := f
 obtain ⟨hyn, hbn, hln, hlb⟩ := hF.out.lens
 dsimp only at hk hl1 Ak hyn hbn hln hlb ng lY ih UG UH hany
 obtain ⟨w0, HW, hbw, hsz, m0, m1, m2, m3⟩ := uM w (.cells #[.pointer (some ⟨b, 0, none⟩)] 67) (fO kind Y yn yc B bn bc L ln lc) (.cells #[.slice X xn xc] 24) (t_ ⟨kind, Y, yn, yc, ys, B, bn, bc, rows, L, ln, lc, l⟩ noT none 0 0 none 0 0 0 false)
 have av := aa hbw
 have hS0 := hS.out.below hbw
 have HB0 := cZ hB hbw
 have kF := aa (fun (u : World) (h : Hid (Below W0.heap.size W0 u)) => aa (hF.out.below h.out))
 have kD := aa (fun (u : World) (h : Hid (Below W0.heap.size W0 u)) => aa (hd.out.below h.out))
 have nE := aa hS0
 have M8 := aa (aC hbw (some b))
 have M := aa (And.intro m0 (And.intro m1 (And.intro m2 m3)))
 have HN := aa (And.intro p1 (And.intro p2 (And.intro p3 (And.intro p4 (And.intro hblt hsz)))))
 have hQ : Q < 2305843009213693952 := by omega
 have hB' := hB
 obtain ⟨i0, hi, hz0, hz1, hz2⟩ := info_parts DT
 clear hS0 hS hB hbw hF hv hd p1 p2 p3 p4 hblt
 have kX := aa (fun (u : World) (h : Hid (Below W0.heap.size W0 u)) => aa (hX.out.below h.out))
 have d1 : (kind == 1) = false := by simp [hk]
 have d2 : (kind == 2) = false := by simp [hk]
 have HKK := aa hk
 have Tv := aa hany
 clear hk hX hany
 go_in
 go_upto_region 2 with (fail)
 rw [show (((w.alloc (.cells #[.pointer (some ⟨b, 0, none⟩)] 67)).alloc (fO kind Y yn yc B bn bc L ln lc)).alloc (.cells #[.slice X xn xc] 24)).alloc (t_ ⟨kind, Y, yn, yc, ys, B, bn, bc, rows, L, ln, lc, l⟩ noT none 0 0 none 0 0 0 false) = w0 from HW.out]
 have f0 : w0.cell? ⟨w.heap.size + 1, 0, none⟩ = some (.int .i64 kind) := aj m1 0
 have f3 : w0.cell? ⟨w.heap.size + 1, 3, none⟩ = some (.slice L ln lc) := aj m1 3
 clear hsz m0 m1 m2 m3
 have v0 : w0.cell? ⟨w.heap.size, 0, none⟩ = some (.pointer (some ⟨b, 0, none⟩)) := aj M.out.1 0
 go_upto_region 3 with (fail)
 have XE : rO 70 #[.pointer (some ⟨w.heap.size, 0, none⟩), .pointer (some ⟨w.heap.size + 1 + 1, 0, none⟩)] (FT.hld P Q G xs) l w0 := fun k hk u hbu => by
  have nG := cZ HB0 hbu
  obtain ⟨z1, z2, z3⟩ := nE.out.c0
  exact Mx P Q G b X xn xc _ _ u _ _ (cell_below (aj M.out.1 0) hbu) ⟨cell_below z1 hbu, cell_below z2 hbu, cell_below z3 hbu⟩ (cell_below (aj M.out.2.2.1 0) hbu) (aa fun u2 hb2 => UH.out k hk u2 (cZ nG hb2))
 have Sa := aa XE
 have PL : Hid (GL w0 L l) := aa (kF.out _ HB0).out.fls
 have vB := aa hln
 clear XE
 go_wp2_with fail
 refine (LZ _ _ (FT.hld P Q G xs) L l ln lc vB hlb w0 PL Sa).mono ?_
 rintro e w1 ⟨ix, rfl, hix, hb1⟩
 obtain ⟨m, hml, rfl, Xl⟩ : ∃ m : Nat, m < l.length ∧ ix = (m : Int) ∧ (l.getD m aY).hld P Q G xs = true := by
  rcases hix with ⟨_, h⟩ | ⟨m, h1, h2, h3, _⟩
  ·
   obtain ⟨k, h1, h2⟩ := Tv.out
   rw [h k h1] at h2
   cases h2
  · exact ⟨m, h1, h2, h3⟩
 have qK : w.heap.size + 3 ≠ b := by have := HN.out; omega
 have HT1 : Hid (w1.heap[w.heap.size + 3]? = some (.cells #[.int .i64 kind, .slice Y yn yc, .slice B bn bc, .slice L ln lc, .int .i64 0, .slice none 0 0, .int .i64 0, .slice none 0 0, .slice none 0 0, .slice none 0 0, (.slice none 0 0), .int .i64 0, .bool false] 100)) := aa ((hb1.block _ (Array.getElem?_eq_some_iff.1 M.out.2.2.2).1).trans M.out.2.2.2)
 have t1 : w1.cell? ⟨w.heap.size + 1 + 1 + 1, 11, none⟩ = some (.int .i64 0) := aj HT1.out 11
 have t2 : w1.frozen? ⟨w.heap.size + 1 + 1 + 1, 11, none⟩ = false := aS HT1.out 11
 have Yr := aa (And.intro hml Xl)
 have Vf := hb1.size
 have lX := aa (nE.out.below hb1)
 have HB1 := aa hb1
 have SY := aa (ax M8.out (aC hb1 (some b)))
 clear hix hml Xl v0 f0 hb1 PL Sa d1 d2 Vf
 go_upto_region 4 with (fail)
 have HT2 : Hid ((w1.setCell ⟨w.heap.size + 1 + 1 + 1, 11, none⟩ (.int .i64 (m : Int))).heap[w.heap.size + 3]? = some (.cells #[.int .i64 kind, .slice Y yn yc, .slice B bn bc, .slice L ln lc, .int .i64 0, .slice none 0 0, .int .i64 0, .slice none 0 0, .slice none 0 0, .slice none 0 0, (.slice none 0 0), .int .i64 (m : Int), .bool false] 100)) := aa (heap_setCell_same w1 (w.heap.size + 3) 11 _ _ _ HT1.out)
 have uE : ∀ q, q ≠ w.heap.size + 3 → (w1.setCell ⟨w.heap.size + 1 + 1 + 1, 11, none⟩ (.int .i64 (m : Int))).heap[q]? = w1.heap[q]? := fun q hq => Go.Deep.blk_setCell_other _ _ _ _ hq
 have hsz2 : (w1.setCell ⟨w.heap.size + 1 + 1 + 1, 11, none⟩ (.int .i64 (m : Int))).heap.size = w1.heap.size := World.size_setCell _ _ _
 have HG2 : Hid (w.grownBy (w1.setCell ⟨w.heap.size + 1 + 1 + 1, 11, none⟩ (.int .i64 (m : Int))) (some b)) := aa (dh SY.out (by omega) _)
 obtain ⟨w2, hw2⟩ : ∃ u, w1.setCell ⟨w.heap.size + 1 + 1 + 1, 11, none⟩ (.int .i64 (m : Int)) = u := ⟨_, rfl⟩
 rw [hw2] at HT2 uE HG2 hsz2 ⊢
 clear hw2 t1 t2
 have qw := aa (lX.out.agree (uE b (Ne.symm qK)))
 have Yq : Hid (w2.heap[w.heap.size]? = some (.cells #[.pointer (some ⟨b, 0, none⟩)] 67) ∧ w2.heap[w.heap.size + 1]? = some (fO kind Y yn yc B bn bc L ln lc) ∧ w2.heap[w.heap.size + 2]? = some (.cells #[.slice X xn xc] 24) ∧ w2.heap[w.heap.size + 3]? = some (.cells #[.int .i64 kind, .slice Y yn yc, .slice B bn bc, .slice L ln lc, .int .i64 0, .slice none 0 0, .int .i64 0, .slice none 0 0, .slice none 0 0, .slice none 0 0, (.slice none 0 0), .int .i64 (m : Int), .bool false] 100) ∧ w.heap.size + 4 ≤ w2.heap.size) := aa ⟨(uE _ (by omega)).trans ((HB1.out.block _ (Array.getElem?_eq_some_iff.1 M.out.1).1).trans M.out.1), (uE _ (by omega)).trans ((HB1.out.block _ (Array.getElem?_eq_some_iff.1 M.out.2.1).1).trans M.out.2.1), (uE _ (by omega)).trans ((HB1.out.block _ (Array.getElem?_eq_some_iff.1 M.out.2.2.1).1).trans M.out.2.2.1), HT2.out, by have := HB1.out.size; have := HN.out; omega⟩
 have f3 : w2.cell? ⟨w.heap.size + 1, 3, none⟩ = some (.slice L ln lc) := aj Yq.out.2.1 3
 obtain ⟨cg, hcg⟩ : ∃ z, XY m = z := ⟨_, rfl⟩
 have WA : Hid (∀ n0 u, cg 0 [] none n0 u) := aa (fun n0 u => by rw [← hcg]; exact Kt.out m n0 u)
 have ng := aa (ng.out m Yr.out.1)
 have lY := aa (lY.out m)
 rw [hcg] at ng lY
 clear hcg HT1 HT2 uE hsz2 HB1 SY lX Tv vB
 go_wp2_with fail
 clear f3
 go_loopw [27] (fun vi wr => ∃ (k : Nat) (e : Int) (v : Value) (ds : List PD), k ≤ ln ∧ vi = .int .i64 k ∧ ds.length = k ∧ Hid (gp wr b P Q G e) ∧ Hid (w.grownBy wr (some b)) ∧
  Hid (wr.heap[w.heap.size]? = some (.cells #[.pointer (some ⟨b, 0, none⟩)] 67) ∧ wr.heap[w.heap.size + 1]? = some (fO kind Y yn yc B bn bc L ln lc) ∧ wr.heap[w.heap.size + 2]? = some (.cells #[.slice X xn xc] 24) ∧ wr.heap[w.heap.size + 3]? = some (.cells #[.int .i64 kind, .slice Y yn yc, .slice B bn bc, .slice L ln lc, .int .i64 0, .slice none 0 0, .int .i64 0, .slice none 0 0, .slice none 0 0, .slice none 0 0, v, .int .i64 (m : Int), .bool false] 100) ∧ w.heap.size + 4 ≤ wr.heap.size) ∧
  Hid (iR wr (w.heap.size + 4) v ds) ∧ Hid (e = 0 → e0 = 0 ∧ cg k ds v.ownBlock (w.heap.size + 4) wr)) (fun vi _ => ln - (intOf vi).toNat)
 case atStart => exact ⟨0, e0, .slice none 0 0, [], by omega, rfl, rfl, qw, HG2, Yq, aa (World.ownsRow_nil _ _ _ _), aa (fun e => ⟨e, WA.out _ _⟩)⟩
 case round =>
  obtain ⟨k, e, v, ds, hk, rfl, hts, HP, iq, HM, HO, HE⟩ := hrel
  by_cases hlt : k < ln
  case neg =>
   obtain rfl : k = ln := by omega
   obtain ⟨A, cap, rfl⟩ := HO.out.form
   have iW := aa hts
   have GI : Hid (e = 0 → e0 = 0 ∧ PD.gd P Q G xs ⟨⟨kind, Y, yn, yc, ys, B, bn, bc, rows, L, k, lc, l⟩, noT, w.heap.size + 3, none, 0, 0, [], A, ds.length, cap, (m : Int), false, ds⟩ ∧ fB (fun q => w.heap.size ≤ q) wr (fun u => jP u ⟨⟨kind, Y, yn, yc, ys, B, bn, bc, rows, L, k, lc, l⟩, noT, w.heap.size + 3, none, 0, 0, [], A, ds.length, cap, (m : Int), false, ds⟩)) := aa (fun h => by
    obtain ⟨h1, h2⟩ := HE.out h
    rw [← hln] at h2
    exact ⟨h1, ng.out _ _ _ _ _ _ _ h2 (by rw [iW.out, hln]) HO.out HM.out.2.2.2.1 (by omega) (by omega)⟩)
   clear hts HE HO ng lY ih UG UH
   go_wp2
   go_ret
   refine ⟨e, ⟨⟨kind, Y, yn, yc, ys, B, bn, bc, rows, L, k, lc, l⟩, noT, w.heap.size + 3, none, 0, 0, [], A, ds.length, cap, (m : Int), false, ds⟩, rfl, HP.out, iq.out, fun h => ?_⟩
   obtain ⟨h1, h2, h3⟩ := GI.out h
   exact ⟨h1, rfl, rfl, h2, h3⟩
  have hkl : k < l.length := by omega
  have iW := aa hts
  have aF := dx hB' iG rfl iq.out
  obtain ⟨bb, oo, hL, j0, j1, j2, j3, -⟩ := (kF.out _ aF).out.kid (k := k) hlt
  dsimp only at hL j0 j1 j2 j3
  subst hL
  have hcs := UG.out k hkl
  have hcl := fun hh => ih.out k hkl hh
  have hmk : k = m → (l.getD k aY).hld P Q G xs = true := fun e => by rw [e]; exact Yr.out.2
  obtain ⟨x, hx⟩ : ∃ x, l.getD k aY = x := ⟨_, rfl⟩
  have qm := aa (fun (ds : List PD) (dd : PD) (g g2 : Option Nat) (n0 : Nat) (w w2 : World) (h) (h1) => lY.out k ds dd g g2 n0 w w2 h h1)
  rw [hx] at hcs hcl hmk j0 j1 j2 j3 qm
  have fQ := aa (fun e => hcl (hmk e))
  have Ti := aa hcs
  clear hcl hcs hmk
  clear hx hkl hts
  obtain ⟨xk, xY, jL, jM, xys, xB, jN, jO, fE, xL, jm, jo, xl⟩ := x
  dsimp only at j0 j1 j2 j3
  go_upto_region 7 with (fail)
  obtain ⟨w3, hw3, HB3, hs3, -, kz⟩ := su (fO xk xY jL jM xB jN jO xL jm jo) qQ wr
  have FN : w3.heap[wr.heap.size]? = some (fO xk xY jL jM xB jN jO xL jm jo) := by rw [← hw3]; exact heap_alloc_new _ _
  have I8 := hs3.out
  rw [hw3]
  clear hw3 j0 j1 j2 j3 kz
  have nW := aa (HP.out.below HB3.out)
  have vC := aa (aC HB3.out (some b))
  have dz : Hid (w3.heap[w.heap.size]? = some (.cells #[.pointer (some ⟨b, 0, none⟩)] 67) ∧ w3.heap[w.heap.size + 1]? = some (fO kind Y yn yc B bn bc (some ⟨bb, oo, none⟩) ln lc) ∧ w3.heap[w.heap.size + 2]? = some (.cells #[.slice X xn xc] 24) ∧ w3.heap[w.heap.size + 3]? = some (.cells #[.int .i64 kind, .slice Y yn yc, .slice B bn bc, .slice (some ⟨bb, oo, none⟩) ln lc, .int .i64 0, .slice none 0 0, .int .i64 0, .slice none 0 0, .slice none 0 0, .slice none 0 0, v, .int .i64 (m : Int), .bool false] 100) ∧ w3.heap[wr.heap.size]? = some (fO xk xY jL jM xB jN jO xL jm jo) ∧ w.heap.size + 4 ≤ wr.heap.size ∧ wr.heap.size < w3.heap.size) := aa (by
   have h1 := HM.out
   have h3 := HB3.out.size
   exact ⟨(HB3.out.block _ (by omega)).trans h1.1, (HB3.out.block _ (by omega)).trans h1.2.1, (HB3.out.block _ (by omega)).trans h1.2.2.1, (HB3.out.block _ (by omega)).trans h1.2.2.2.1, FN, h1.2.2.2.2, by omega⟩)
  have zh : Hid (e = 0 → e = 0) := aa (fun h => h)
  clear FN hs3 I8
  have m11 : w3.cell? ⟨w.heap.size + 1 + 1 + 1, 11, none⟩ = some (.int .i64 (m : Int)) := aj dz.out.2.2.2.1 11
  by_cases hkm : k = m
  ·
   have d4 : ((k : Int) == (m : Int)) = true := by simp [hkm]
   have rQ : Hid (∀ {dd : PD}, dd.dn = false → dd.dn = decide (k ≠ m)) := aa (fun h => by rw [h]; simp [hkm])
   have fQ := aa (fQ.out hkm)
   clear hkm
   go_upto_region 8 with (fail)
   clear m11 d4
   have Nc : w3.cell? ⟨w.heap.size + 1 + 1 + 1, 10, none⟩ = some v := aj dz.out.2.2.2.1 10
   have v0 : w3.cell? ⟨w.heap.size, 0, none⟩ = some (.pointer (some ⟨b, 0, none⟩)) := aj dz.out.1 0
   have x0 : w3.cell? ⟨w.heap.size + 1 + 1, 0, none⟩ = some (.slice X xn xc) := aj dz.out.2.2.1 0
   have z0 : w3.cell? ⟨wr.heap.size, 0, none⟩ = some (.int .i64 xk) := aj dz.out.2.2.2.2.1 0
   have z1 : w3.cell? ⟨wr.heap.size, 1, none⟩ = some (.slice xY jL jM) := aj dz.out.2.2.2.2.1 1
   have z2 : w3.cell? ⟨wr.heap.size, 2, none⟩ = some (.slice xB jN jO) := aj dz.out.2.2.2.2.1 2
   have z3 : w3.cell? ⟨wr.heap.size, 3, none⟩ = some (.slice xL jm jo) := aj dz.out.2.2.2.2.1 3
   have hnb : wr.heap.size ≠ b := by have := HN.out; have := dz.out; omega
   have uG : w.heap.size ≠ b := by have := HN.out; omega
   have jF : w.heap.size + 1 + 1 ≠ b := by have := HN.out; omega
   have qK : w.heap.size + 1 + 1 + 1 ≠ b := by have := HN.out; omega
   have Jh := aa (fun (u : World) (hu : Hid (w3.grownBy u (some b))) => And.intro (aI hu.out qK Nc) (And.intro (aI hu.out uG v0) (And.intro (aI hu.out jF x0) (And.intro (aI hu.out hnb z0) (And.intro (aI hu.out hnb z1) (And.intro (aI hu.out hnb z2) (aI hu.out hnb z3)))))))
   have zA := dx hB' iG rfl (ax iq.out vC.out)
   clear Nc v0 x0 z0 z1 z2 z3
   refine BK (fun _ => True) [] (aa trivial) (fun hT => ?_)
   have hO : Hid (∀ u : World, Hid True → True) := aa (fun _ _ => trivial)
   refine aQ 0 ?_
   refine jq (S := fun u => Hid (w3.grownBy u (some b))) (E := [10, 11, 12, 13]) _ _ _ _ ?_
   clear hO
   have hHeld : Hid (w3.grownBy w3.drew (some b)) := aa (aC (Below.refl _ _).drew _)
   have hO := Jh
   clear Jh hT
   refine aX 1 2 3 4 ?_
   refine aQ 5 ?_
   refine aQ 6 ?_
   refine aQ 7 ?_
   refine dO 8 fun K hK => ?_
   go_simp
   refine (fQ.out e _ (dx zA iG rfl hHeld.out) (aa (nW.out.agree rfl))).mono ?_
   rintro e_ w5 ⟨e5, dd, rfl, uD, hg5, h5⟩
   refine hK.out _ _ (aa (ax hHeld.out hg5)) (fun hHeld => ?_)
   clear hK K
   have ku := aa uD
   have H5 : Hid (e5 = 0 → e = 0 ∧ dd.f = ⟨xk, xY, jL, jM, xys, xB, jN, jO, fE, xL, jm, jo, xl⟩ ∧ dd.dn = false ∧ dd.gd P Q G xs ∧ fB (fun q => w3.heap.size ≤ q) w5 (fun u => jP u dd)) := aa h5
   clear uD hg5 h5
   obtain ⟨dp, hdp⟩ : ∃ z, dd.p = z := ⟨_, rfl⟩
   rw [hdp]
   have Tg := aa hdp
   clear hdp
   refine dO 9 fun K hK => ?_
   rw [show (if Region.wanted _ _ = true then _ else _ : Prop) = _ from if_pos rfl]
   refine NJ 98 70 _ rfl dp i0 Tryz.underlying98 hi hz0 hz1 rfl ?_
   refine hK.out _ _ (aa (bT hHeld.out _)) (fun hHeld => ?_)
   clear hK K
   obtain ⟨w6, pM, iT, -, -, k6⟩ := su (.cells #[oM dp] 70) Nv w5
   rw [pM] at hHeld ⊢
   clear pM
   have s0 := k6.out _ (dS w6)
   have cO := ax vC.out hHeld.out
   have oI : iR w6 (w.heap.size + 4) v ds := HO.out.agree (fun g hg => cO.block g (HO.out.lt g hg).2 (fun e => by injection e with e; have := (HO.out.lt g hg).1; have := HN.out; omega))
   have hs6 : w.heap.size + 4 ≤ w6.heap.size := by have := cO.size; have := dz.out; omega
   refine mo 10 fun K hK => ?_
   rw [show (if Region.wanted _ _ = true then _ else _ : Prop) = _ from if_pos rfl]
   refine wp_append_lies _ _ _ 98 rfl (w.heap.size + 4) 70 i0 _ 1 8 Tryz.underlying98 hi hz0 hz1 hz2 rfl (by decide) v ds.length (ds.map (fun d : PD => oM d.p)) rfl oI ⟨w5.heap.size, 0, none⟩ 1 1 [oM dp] rfl rfl (fun j u hj => by
    have Cq : j < 1 := (List.getElem?_eq_some_iff.1 hj).1
    rw [iK, Nat.zero_add]
    match j, Cq, hj with
    | 0, _, hj => cases hj; exact s0) (fun u hu => by simp at hu; subst hu; rfl) (by omega) (by unfold maxLen; rw [iW.out]; omega) (by rw [iW.out]; omega) hs6 w6.heap.size rfl ?_
   intro g cap w7 dM aR oC oq
   refine hK.out _ _ ?_
   clear hK K
   clear s0
   have hnew : ∀ q, v.ownBlock = some q → w.heap.size + 4 ≤ q := fun q e => (HO.out.lt q e).1
   have ji : ∀ q, q < w.heap.size + 4 → w7.heap[q]? = w6.heap[q]? := fun q hq => aR.block q (by omega) (fun e => by have := hnew q e.symm; omega)
   have kU : ∀ q, q < w.heap.size + 4 → q ≠ b → w6.heap[q]? = w3.heap[q]? := fun q hq hne => hHeld.out.block q (by have := dz.out; omega) (fun e => hne (by injection e with e))
   have lW : Hid (w7.heap[w.heap.size + 3]? = some (.cells #[.int .i64 kind, .slice Y yn yc, .slice B bn bc, .slice (some ⟨bb, oo, none⟩) ln lc, .int .i64 0, .slice none 0 0, .int .i64 0, .slice none 0 0, .slice none 0 0, .slice none 0 0, v, .int .i64 (m : Int), .bool false] 100)) := aa ((ji _ (by omega)).trans ((kU _ (by omega) qK).trans dz.out.2.2.2.1))
   have y4 : w7.cell? ⟨w.heap.size + 1 + 1 + 1, 10, none⟩ = some v := aj lW.out 10
   have y5 : w7.frozen? ⟨w.heap.size + 1 + 1 + 1, 10, none⟩ = false := aS lW.out 10
   refine mo 11 fun K hK => ?_
   go_simp
   refine hK.out _ _ ?_
   clear hK K
   refine mo 12 fun K hK => ?_
   go_simp
   refine hK.out _ _ ?_
   clear hK K
   refine mo 13 fun K hK => ?_
   go_simp
   refine hK.out _ _ ?_
   clear hK K
   refine jf ?_
   clear hO y4 y5
   obtain ⟨v2, hv2⟩ : ∃ z, Value.slice (some ⟨g, 0, none⟩) (ds.length + 1) cap = z := ⟨_, rfl⟩
   have eP : v2.ownBlock = some g := by rw [← hv2]; rfl
   rw [hv2] at dM ⊢
   have oH : Hid ((w7.setCell ⟨w.heap.size + 1 + 1 + 1, 10, none⟩ v2).heap[w.heap.size + 3]? = some (.cells #[.int .i64 kind, .slice Y yn yc, .slice B bn bc, .slice (some ⟨bb, oo, none⟩) ln lc, .int .i64 0, .slice none 0 0, .int .i64 0, .slice none 0 0, .slice none 0 0, .slice none 0 0, v2, .int .i64 (m : Int), .bool false] 100)) := aa (heap_setCell_same w7 (w.heap.size + 3) 10 _ _ _ lW.out)
   have hoth : ∀ q, q ≠ w.heap.size + 3 → (w7.setCell ⟨w.heap.size + 1 + 1 + 1, 10, none⟩ v2).heap[q]? = w7.heap[q]? := fun q hq => Go.Deep.blk_setCell_other _ _ _ _ hq
   have gG : (w7.setCell ⟨w.heap.size + 1 + 1 + 1, 10, none⟩ v2).heap.size = w7.heap.size := World.size_setCell _ _ _
   have vk : Hid (w.grownBy (w7.setCell ⟨w.heap.size + 1 + 1 + 1, 10, none⟩ v2) (some b)) := aa (dh (mR (ax iq.out cO) aR (fun q e => by have := hnew q e; omega)) (by omega) v2)
   obtain ⟨w8, hw8⟩ : ∃ u, w7.setCell ⟨w.heap.size + 1 + 1 + 1, 10, none⟩ v2 = u := ⟨_, rfl⟩
   rw [hw8] at oH hoth vk gG ⊢
   have hg3 : w.heap.size + 4 ≤ g := by
    rcases oC with h | h
    · exact hnew g h
    · omega
   have Dk : Hid (gp w8 b P Q G e5) := aa (ku.out.agree (((hoth b (by omega)).trans (ji b (by have := HN.out; omega))).trans (iT.out.block b ku.out.lt)))
   have Dn : Hid (w8.heap[w.heap.size]? = some (.cells #[.pointer (some ⟨b, 0, none⟩)] 67) ∧ w8.heap[w.heap.size + 1]? = some (fO kind Y yn yc B bn bc (some ⟨bb, oo, none⟩) ln lc) ∧ w8.heap[w.heap.size + 2]? = some (.cells #[.slice X xn xc] 24) ∧ w8.heap[w.heap.size + 3]? = some (.cells #[.int .i64 kind, .slice Y yn yc, .slice B bn bc, .slice (some ⟨bb, oo, none⟩) ln lc, .int .i64 0, .slice none 0 0, .int .i64 0, .slice none 0 0, .slice none 0 0, .slice none 0 0, v2, .int .i64 (m : Int), .bool false] 100) ∧ w.heap.size + 4 ≤ w8.heap.size) := aa ⟨(hoth _ (by omega)).trans ((ji _ (by omega)).trans ((kU _ (by omega) uG).trans dz.out.1)), (hoth _ (by omega)).trans ((ji _ (by omega)).trans ((kU _ (by omega) (by have := HN.out; omega)).trans dz.out.2.1)), (hoth _ (by omega)).trans ((ji _ (by omega)).trans ((kU _ (by omega) jF).trans dz.out.2.2.1)), oH.out, by have := aR.size; omega⟩
   have Dm : Hid (iR w8 (w.heap.size + 4) v2 (ds ++ [dd])) := aa (iR.agree (w := w7) (by
    unfold iR
    rw [List.length_append, List.length_singleton, List.map_append, List.map_singleton, Tg.out]
    exact dM) (fun q e => by rw [eP] at e; injection e with e; exact hoth q (by omega)))
   have ou : ∀ R, fB (fun q => w.heap.size + 4 ≤ q ∧ v.ownBlock ≠ some q) w6 R → fB (fun q => w.heap.size + 4 ≤ q ∧ v2.ownBlock ≠ some q) w8 R := fun R h => by
    refine fB.step h (fun q h1 h2 => (hoth q (by omega)).trans (aR.block q h1 (fun e => h2.2 e.symm))) (by rw [gG]; exact aR.size) (fun q h1 h2 => ⟨h2.1, fun e => ?_⟩)
    rw [eP] at e
    injection e with e
    subst e
    rcases oC with h | h
    · exact h2.2 h
    · omega
   have Dq : Hid (e5 = 0 → e0 = 0 ∧ cg (k + 1) (ds ++ [dd]) v2.ownBlock (w.heap.size + 4) w8) := aa (fun h0 => by
    obtain ⟨a1, a2, a3, a4, a5⟩ := H5.out h0
    obtain ⟨b1, b2⟩ := HE.out (zh.out a1)
    refine ⟨b1, qm.out ds dd _ _ _ _ _ b2 iW.out a2 a4 (rQ.out a3) (fun R h => ou R (fB.step h (fun q h1 h2 => cO.block q h1 (fun e => by injection e with e; have := HN.out; omega)) cO.size (fun _ _ h => h))) (ou _ (fB.step a5 (fun q h1 h2 => iT.out.block q h1) iT.out.size (fun q h1 h2 => ⟨by have := dz.out; omega, fun e => by have h8 := (HO.out.lt q e).2; have := dz.out; omega⟩)))⟩)
   clear hw8 hoth gG ou oH lW ji kU dM aR oC oq cO oI hs6 eP hv2 hnew H5 ku iT k6 hHeld nW vC dz zh qm fQ HE HO HM HP iq hnb uG jF qK zA rQ
   go_wp2
   go_roundw
   case rel => exact ⟨k + 1, e5, v2, ds ++ [dd], by omega, by go_num, by rw [List.length_append, List.length_singleton, iW.out], Dk, vk, Dn, Dm, Dq⟩
   case measure => simp [intOf]; omega
  ·
   have d4 : ((k : Int) == (m : Int)) = false := by simp; omega
   have rQ : Hid (∀ {dd : PD}, dd.dn = true → dd.dn = decide (k ≠ m)) := aa (fun h => by rw [h]; simp [hkm])
   clear hkm
   go_upto_region 9 with (fail)
   clear m11 d4
   have Nc : w3.cell? ⟨w.heap.size + 1 + 1 + 1, 10, none⟩ = some v := aj dz.out.2.2.2.1 10
   have v0 : w3.cell? ⟨w.heap.size, 0, none⟩ = some (.pointer (some ⟨b, 0, none⟩)) := aj dz.out.1 0
   have x0 : w3.cell? ⟨w.heap.size + 1 + 1, 0, none⟩ = some (.slice X xn xc) := aj dz.out.2.2.1 0
   have z0 : w3.cell? ⟨wr.heap.size, 0, none⟩ = some (.int .i64 xk) := aj dz.out.2.2.2.2.1 0
   have z1 : w3.cell? ⟨wr.heap.size, 1, none⟩ = some (.slice xY jL jM) := aj dz.out.2.2.2.2.1 1
   have z2 : w3.cell? ⟨wr.heap.size, 2, none⟩ = some (.slice xB jN jO) := aj dz.out.2.2.2.2.1 2
   have z3 : w3.cell? ⟨wr.heap.size, 3, none⟩ = some (.slice xL jm jo) := aj dz.out.2.2.2.2.1 3
   have hnb : wr.heap.size ≠ b := by have := HN.out; have := dz.out; omega
   have uG : w.heap.size ≠ b := by have := HN.out; omega
   have jF : w.heap.size + 1 + 1 ≠ b := by have := HN.out; omega
   have qK : w.heap.size + 1 + 1 + 1 ≠ b := by have := HN.out; omega
   have Jh := aa (fun (u : World) (hu : Hid (w3.grownBy u (some b))) => And.intro (aI hu.out qK Nc) (And.intro (aI hu.out uG v0) (And.intro (aI hu.out jF x0) (And.intro (aI hu.out hnb z0) (And.intro (aI hu.out hnb z1) (And.intro (aI hu.out hnb z2) (aI hu.out hnb z3)))))))
   have zA := dx hB' iG rfl (ax iq.out vC.out)
   clear Nc v0 x0 z0 z1 z2 z3
   refine BK (fun _ => True) [] (aa trivial) (fun hT => ?_)
   have hO : Hid (∀ u : World, Hid True → True) := aa (fun _ _ => trivial)
   refine aQ 0 ?_
   refine jq (S := fun u => Hid (w3.grownBy u (some b))) (E := [14, 15, 16, 17]) _ _ _ _ ?_
   clear hO
   have hHeld : Hid (w3.grownBy w3.drew (some b)) := aa (aC (Below.refl _ _).drew _)
   have hO := Jh
   clear Jh hT
   refine aX 1 2 3 4 ?_
   refine aX 5 6 7 8 ?_
   refine dO 9 fun K hK => ?_
   go_simp
   refine (mM P Q G b e (by have := HN.out; omega) hQ _ (kD.out _ (dx zA iG rfl hHeld.out)) (aa (nW.out.agree rfl))).mono ?_
   rintro e_ w4 ⟨e4, x4, rfl, Q4, hg4, hee, hx0, hx1⟩
   refine hK.out _ _ (aa (ax hHeld.out hg4)) (fun hHeld => ?_)
   clear hK K
   have M_ := aa hee
   have vS := aa hHeld.out.size
   refine dO 10 fun K hK => ?_
   go_simp
   refine (Ti.out x4 e4 _ hx0 hx1 (dx zA iG rfl hHeld.out) (aa Q4)).mono ?_
   rintro e_ P7 ⟨e5, t, rfl, uD, hg5, h5⟩
   refine hK.out _ _ (aa (ax hHeld.out hg5)) (fun hHeld => ?_)
   clear hK K
   have Sw := aa uD
   have YR := aa h5
   have Ua := aa hg5.size
   clear uD hg5 h5 Q4 hg4 hee hx0 hx1
   refine aQ 11 ?_
   refine dO 12 fun K hK => ?_
   go_simp
   refine hK.out _ _ (aa (bT hHeld.out _)) (fun hHeld => ?_)
   clear hK K
   have FN : (P7.alloc (t_ ⟨xk, xY, jL, jM, xys, xB, jN, jO, fE, xL, jm, jo, xl⟩ t none 0 0 none 0 0 0 true)).heap[P7.heap.size]? = some (t_ ⟨xk, xY, jL, jM, xys, xB, jN, jO, fE, xL, jm, jo, xl⟩ t none 0 0 none 0 0 0 true) := heap_alloc_new _ _
   obtain ⟨w5, KH, mh, -, -, -⟩ := su (t_ ⟨xk, xY, jL, jM, xys, xB, jN, jO, fE, xL, jm, jo, xl⟩ t none 0 0 none 0 0 0 true) bq0 P7
   rw [KH] at hHeld FN ⊢
   clear KH
   have ku := aa (Sw.out.below mh.out)
   obtain ⟨dd, hdd⟩ : ∃ z : PD, z = ⟨⟨xk, xY, jL, jM, xys, xB, jN, jO, fE, xL, jm, jo, xl⟩, t, P7.heap.size, none, 0, 0, [], none, 0, 0, 0, true, []⟩ := ⟨_, rfl⟩
   have H5 : Hid (e5 = 0 → e = 0 ∧ dd.f = ⟨xk, xY, jL, jM, xys, xB, jN, jO, fE, xL, jm, jo, xl⟩ ∧ dd.dn = true ∧ dd.gd P Q G xs ∧ fB (fun q => w3.heap.size ≤ q) w5 (fun u => jP u dd)) := aa (fun h0 => by
    obtain ⟨a1, a2, a3, a4⟩ := YR.out h0
    have hs0 : w3.drew.heap.size = w3.heap.size := rfl
    have hs1 := vS.out
    have hs2 := Ua.out
    have hs3 := mh.out.size
    have Zg := (Array.getElem?_eq_some_iff.1 FN).1
    refine ⟨M_.out a1, by rw [hdd], by rw [hdd], (PD.gd_eq _).2 (.inl ⟨by rw [hdd], by rw [hdd]; exact a3⟩), fun u hu => ?_⟩
    rw [hdd]
    show jP u _
    rw [jP]
    exact ⟨(hu _ Zg (by omega)).trans FN, ⟨rfl, rfl⟩, fun k hk => absurd hk (by simp), a4 u (fun q h1 h2 _ => (hu q (by omega) (by omega)).trans (mh.out.block q h2)), fun k hk => absurd hk (by simp), by rw [xE]; trivial⟩)
   have Rj : dd.p = P7.heap.size := by rw [hdd]
   clear hdd FN YR Sw M_ vS Ua Ti
   obtain ⟨dp, hdp⟩ : ∃ z, P7.heap.size = z := ⟨_, rfl⟩
   rw [hdp]
   have Tg := aa (Rj.trans hdp)
   clear hdp Rj
   refine dO 13 fun K hK => ?_
   rw [show (if Region.wanted _ _ = true then _ else _ : Prop) = _ from if_pos rfl]
   refine NJ 98 70 _ rfl dp i0 Tryz.underlying98 hi hz0 hz1 rfl ?_
   refine hK.out _ _ (aa (bT hHeld.out _)) (fun hHeld => ?_)
   clear hK K
   obtain ⟨w6, pM, iT, -, -, k6⟩ := su (.cells #[oM dp] 70) Nv w5
   rw [pM] at hHeld ⊢
   clear pM
   have s0 := k6.out _ (dS w6)
   have cO := ax vC.out hHeld.out
   have oI : iR w6 (w.heap.size + 4) v ds := HO.out.agree (fun g hg => cO.block g (HO.out.lt g hg).2 (fun e => by injection e with e; have := (HO.out.lt g hg).1; have := HN.out; omega))
   have hs6 : w.heap.size + 4 ≤ w6.heap.size := by have := cO.size; have := dz.out; omega
   refine mo 14 fun K hK => ?_
   rw [show (if Region.wanted _ _ = true then _ else _ : Prop) = _ from if_pos rfl]
   refine wp_append_lies _ _ _ 98 rfl (w.heap.size + 4) 70 i0 _ 1 8 Tryz.underlying98 hi hz0 hz1 hz2 rfl (by decide) v ds.length (ds.map (fun d : PD => oM d.p)) rfl oI ⟨w5.heap.size, 0, none⟩ 1 1 [oM dp] rfl rfl (fun j u hj => by
    have Cq : j < 1 := (List.getElem?_eq_some_iff.1 hj).1
    rw [iK, Nat.zero_add]
    match j, Cq, hj with
    | 0, _, hj => cases hj; exact s0) (fun u hu => by simp at hu; subst hu; rfl) (by omega) (by unfold maxLen; rw [iW.out]; omega) (by rw [iW.out]; omega) hs6 w6.heap.size rfl ?_
   intro g cap w7 dM aR oC oq
   refine hK.out _ _ ?_
   clear hK K
   clear s0
   have hnew : ∀ q, v.ownBlock = some q → w.heap.size + 4 ≤ q := fun q e => (HO.out.lt q e).1
   have ji : ∀ q, q < w.heap.size + 4 → w7.heap[q]? = w6.heap[q]? := fun q hq => aR.block q (by omega) (fun e => by have := hnew q e.symm; omega)
   have kU : ∀ q, q < w.heap.size + 4 → q ≠ b → w6.heap[q]? = w3.heap[q]? := fun q hq hne => hHeld.out.block q (by have := dz.out; omega) (fun e => hne (by injection e with e))
   have lW : Hid (w7.heap[w.heap.size + 3]? = some (.cells #[.int .i64 kind, .slice Y yn yc, .slice B bn bc, .slice (some ⟨bb, oo, none⟩) ln lc, .int .i64 0, .slice none 0 0, .int .i64 0, .slice none 0 0, .slice none 0 0, .slice none 0 0, v, .int .i64 (m : Int), .bool false] 100)) := aa ((ji _ (by omega)).trans ((kU _ (by omega) qK).trans dz.out.2.2.2.1))
   have y4 : w7.cell? ⟨w.heap.size + 1 + 1 + 1, 10, none⟩ = some v := aj lW.out 10
   have y5 : w7.frozen? ⟨w.heap.size + 1 + 1 + 1, 10, none⟩ = false := aS lW.out 10
   refine mo 15 fun K hK => ?_
   go_simp
   refine hK.out _ _ ?_
   clear hK K
   refine mo 16 fun K hK => ?_
   go_simp
   refine hK.out _ _ ?_
   clear hK K
   refine mo 17 fun K hK => ?_
   go_simp
   refine hK.out _ _ ?_
   clear hK K
   refine jf ?_
   clear hO y4 y5
   obtain ⟨v2, hv2⟩ : ∃ z, Value.slice (some ⟨g, 0, none⟩) (ds.length + 1) cap = z := ⟨_, rfl⟩
   have eP : v2.ownBlock = some g := by rw [← hv2]; rfl
   rw [hv2] at dM ⊢
   have oH : Hid ((w7.setCell ⟨w.heap.size + 1 + 1 + 1, 10, none⟩ v2).heap[w.heap.size + 3]? = some (.cells #[.int .i64 kind, .slice Y yn yc, .slice B bn bc, .slice (some ⟨bb, oo, none⟩) ln lc, .int .i64 0, .slice none 0 0, .int .i64 0, .slice none 0 0, .slice none 0 0, .slice none 0 0, v2, .int .i64 (m : Int), .bool false] 100)) := aa (heap_setCell_same w7 (w.heap.size + 3) 10 _ _ _ lW.out)
   have hoth : ∀ q, q ≠ w.heap.size + 3 → (w7.setCell ⟨w.heap.size + 1 + 1 + 1, 10, none⟩ v2).heap[q]? = w7.heap[q]? := fun q hq => Go.Deep.blk_setCell_other _ _ _ _ hq
   have gG : (w7.setCell ⟨w.heap.size + 1 + 1 + 1, 10, none⟩ v2).heap.size = w7.heap.size := World.size_setCell _ _ _
   have vk : Hid (w.grownBy (w7.setCell ⟨w.heap.size + 1 + 1 + 1, 10, none⟩ v2) (some b)) := aa (dh (mR (ax iq.out cO) aR (fun q e => by have := hnew q e; omega)) (by omega) v2)
   obtain ⟨w8, hw8⟩ : ∃ u, w7.setCell ⟨w.heap.size + 1 + 1 + 1, 10, none⟩ v2 = u := ⟨_, rfl⟩
   rw [hw8] at oH hoth vk gG ⊢
   have hg3 : w.heap.size + 4 ≤ g := by
    rcases oC with h | h
    · exact hnew g h
    · omega
   have Dk : Hid (gp w8 b P Q G e5) := aa (ku.out.agree (((hoth b (by omega)).trans (ji b (by have := HN.out; omega))).trans (iT.out.block b ku.out.lt)))
   have Dn : Hid (w8.heap[w.heap.size]? = some (.cells #[.pointer (some ⟨b, 0, none⟩)] 67) ∧ w8.heap[w.heap.size + 1]? = some (fO kind Y yn yc B bn bc (some ⟨bb, oo, none⟩) ln lc) ∧ w8.heap[w.heap.size + 2]? = some (.cells #[.slice X xn xc] 24) ∧ w8.heap[w.heap.size + 3]? = some (.cells #[.int .i64 kind, .slice Y yn yc, .slice B bn bc, .slice (some ⟨bb, oo, none⟩) ln lc, .int .i64 0, .slice none 0 0, .int .i64 0, .slice none 0 0, .slice none 0 0, .slice none 0 0, v2, .int .i64 (m : Int), .bool false] 100) ∧ w.heap.size + 4 ≤ w8.heap.size) := aa ⟨(hoth _ (by omega)).trans ((ji _ (by omega)).trans ((kU _ (by omega) uG).trans dz.out.1)), (hoth _ (by omega)).trans ((ji _ (by omega)).trans ((kU _ (by omega) (by have := HN.out; omega)).trans dz.out.2.1)), (hoth _ (by omega)).trans ((ji _ (by omega)).trans ((kU _ (by omega) jF).trans dz.out.2.2.1)), oH.out, by have := aR.size; omega⟩
   have Dm : Hid (iR w8 (w.heap.size + 4) v2 (ds ++ [dd])) := aa (iR.agree (w := w7) (by
    unfold iR
    rw [List.length_append, List.length_singleton, List.map_append, List.map_singleton, Tg.out]
    exact dM) (fun q e => by rw [eP] at e; injection e with e; exact hoth q (by omega)))
   have ou : ∀ R, fB (fun q => w.heap.size + 4 ≤ q ∧ v.ownBlock ≠ some q) w6 R → fB (fun q => w.heap.size + 4 ≤ q ∧ v2.ownBlock ≠ some q) w8 R := fun R h => by
    refine fB.step h (fun q h1 h2 => (hoth q (by omega)).trans (aR.block q h1 (fun e => h2.2 e.symm))) (by rw [gG]; exact aR.size) (fun q h1 h2 => ⟨h2.1, fun e => ?_⟩)
    rw [eP] at e
    injection e with e
    subst e
    rcases oC with h | h
    · exact h2.2 h
    · omega
   have Dq : Hid (e5 = 0 → e0 = 0 ∧ cg (k + 1) (ds ++ [dd]) v2.ownBlock (w.heap.size + 4) w8) := aa (fun h0 => by
    obtain ⟨a1, a2, a3, a4, a5⟩ := H5.out h0
    obtain ⟨b1, b2⟩ := HE.out (zh.out a1)
    refine ⟨b1, qm.out ds dd _ _ _ _ _ b2 iW.out a2 a4 (rQ.out a3) (fun R h => ou R (fB.step h (fun q h1 h2 => cO.block q h1 (fun e => by injection e with e; have := HN.out; omega)) cO.size (fun _ _ h => h))) (ou _ (fB.step a5 (fun q h1 h2 => iT.out.block q h1) iT.out.size (fun q h1 h2 => ⟨by have := dz.out; omega, fun e => by have h8 := (HO.out.lt q e).2; have := dz.out; omega⟩)))⟩)
   clear hw8 hoth gG ou oH lW ji kU dM aR oC oq cO oI hs6 eP hv2 hnew H5 ku iT k6 hHeld nW vC dz zh qm fQ HE HO HM HP iq hnb uG jF qK zA rQ
   go_wp2
   go_roundw
   case rel => exact ⟨k + 1, e5, v2, ds ++ [dd], by omega, by go_num, by rw [List.length_append, List.length_singleton, iW.out], Dk, vk, Dn, Dm, Dq⟩
   case measure => simp [intOf]; omega
theorem ru (P Q G : Int) (hG : Hid (aJ P Q G = true)) (W0 : World) (b : Nat) (iG : W0.heap.size ≤ b) (hv : Hid (Vars W0)) (hd : Hid (bX W0)) (X : Option Addr) (xs : List Int) (xn xc : Nat) (hX : Hid (Sl W0 X xs)) (mq : Hid (xs.length = xn)) (qp : xn ≤ xc) (hxb : xn ≤ 1000) :
  ∀ (d : Nat) (f : FT) (e0 : Int) (w : World), f.dp ≤ d → Hid (dU W0 f) → f.sh → f.at_ P Q G → f.unk ≤ xn → f.hld P Q G xs = true → Hid (Below W0.heap.size W0 w) → Hid (gp w b P Q G e0) →
  Calls Tryz.prog 29 #[.pointer (some ⟨b, 0, none⟩), fV f, .slice X xn xc] w (rR P Q G xs b f e0 w)
 | 0, f, _, _, h, _, _, _, _, _, _, _ => by have := f.dp_eq; omega
 | d + 1, f, e0, w, h, hF, hs, ha, hu, hh, hB, hS => by
  have hQ : Q < 9223372036854775808 := by have := aM hG.out; omega
  by_cases hk : f.kind = 1
  ·
   have hl : f.l = [] := by
    rcases f.sh_eq.1 hs with ⟨_, h⟩ | ⟨h, _⟩
    · exact h
    · omega
   exact AP P Q G hG W0 b iG hv hd X xs xn xc f e0 w hB hF hS hk ha hl hh
  ·
   have Co : f.kind = 2 ∨ f.kind = 3 := by
    rcases f.sh_eq.1 hs with ⟨h, _⟩ | ⟨h, _⟩
    · exact absurd h hk
    · exact h
   have hsub : ∀ k, k < f.l.length → (f.l.getD k aY).sh ∧ (f.l.getD k aY).at_ P Q G ∧ dU W0 (f.l.getD k aY) ∧ (f.l.getD k aY).unk ≤ xn ∧ (f.l.getD k aY).dp ≤ d := fun k hkl => by
    refine ⟨?_, ?_, ?_, ?_, FT.kid_dp h hkl⟩
    ·
     rcases f.sh_eq.1 hs with ⟨h, _⟩ | ⟨_, _, _, _, h⟩
     · exact absurd h hk
     · exact h k hkl
    ·
     rcases f.at_eq.1 ha with ⟨h, _⟩ | ⟨_, h⟩
     · exact absurd h hk
     · exact h k hkl
    ·
     obtain ⟨_, _, _, _, _, _, _, hX⟩ := hF.out.kid (k := k) (by have := hF.out.lens; omega)
     exact hX
    ·
     have h1 := tH hkl
     have h2 := f.unk_eq
     rw [if_neg hk] at h2
     omega
   have ih : Hid (∀ k, k < f.l.length → (f.l.getD k aY).hld P Q G xs = true → ∀ (e0 : Int) (u : World), Hid (Below W0.heap.size W0 u) → Hid (gp u b P Q G e0) → Calls Tryz.prog 29 #[.pointer (some ⟨b, 0, none⟩), fV (f.l.getD k aY), .slice X xn xc] u (rR P Q G xs b (f.l.getD k aY) e0 u)) := aa fun k hkl hhk e' u Jj OG => by
    obtain ⟨h1, h2, h3, h4, h5⟩ := hsub k hkl
    exact ru P Q G hG W0 b iG hv hd X xs xn xc hX mq qp hxb d _ e' u h5 (aa h3) h1 h2 h4 hhk Jj OG
   rcases Co with hk2 | hk3
   · exact CW P Q G hG W0 b iG hv hd X xs xn xc f e0 w hB hF hS hs hk2 hh ih
   ·
    refine F8 P Q G hG W0 b iG hv hd X xs xn xc f e0 w hB hF hS hs hk3 hh hX ih (aa fun k hkl c' e' u h0 h1 Jj OG => ?_) (aa fun k hkl u Jj => ?_)
    ·
     obtain ⟨g1, g2, g3, g4, g5⟩ := hsub k hkl
     exact zK P Q G hG W0 b iG hv hd d _ c' e' u g5 (aa g3) g1 g2 h0 h1 Jj OG
    ·
     obtain ⟨g1, g2, g3, g4, g5⟩ := hsub k hkl
     exact wL P Q G hQ hG X xs xn xc mq qp hxb d _ u g5 (aa (hv.out.below Jj.out)) (aa (g3.below Jj.out)) (aa (hX.out.below Jj.out)) g1 g2 g4
theorem xm : ∀ (l : List PD) (k : Nat), k < l.length → iC (l.take (k + 1)) = iC (l.take k) ++ (l.getD k eG).com
 | [], k, h => by simp at h
 | d :: l, 0, _ => by simp [iC]
 | d :: l, k + 1, h => by
  rw [List.take_succ_cons, iC, xm l k (by simpa using h), List.take_succ_cons, iC, List.append_assoc, List.getD_cons_succ]
theorem AV : ∀ (fs : List FT) (ds : List PD), (∀ j, j < ds.length → 1 ≤ (ds.getD j eG).com.length ∧ (ds.getD j eG).com.length ≤ (fs.getD j aY).nd) → ds.length = fs.length → 0 < ds.length → 1 ≤ (iC ds).length ∧ (iC ds).length ≤ lQ fs
 | _, [], _, _, h => by simp at h
 | [], _ :: _, _, h, _ => by simp at h
 | f :: fs, d :: ds, h, hl, _ => by
  have h0 := h 0 (by simp)
  rw [iC, List.length_append, lQ]
  simp only [List.getD_cons_zero] at h0
  by_cases hz : 0 < ds.length
  ·
   have ih := AV fs ds (fun j hj => by have := h (j + 1) (by simpa using hj); rwa [List.getD_cons_succ, List.getD_cons_succ] at this) (by simpa using hl) hz
   omega
  ·
   have e : ds = [] := List.eq_nil_of_length_eq_zero (by omega)
   subst e
   rw [iC]
   simp only [List.length_nil]
   omega
theorem uS {P Q G : Int} {xs : List Int} : ∀ (n : Nat) (d : PD), d.f.dp ≤ n → d.f.sh → d.gd P Q G xs → 1 ≤ d.com.length ∧ d.com.length ≤ d.f.nd
 | 0, d, h, _, _ => by have := d.f.dp_eq; omega
 | n + 1, d, h, hs, hg => by
  rw [d.com_eq]
  rcases (PD.gd_eq d).1 hg with ⟨h1, h2⟩ | ⟨h1, h2⟩
  ·
   rw [if_pos h1]
   exact sS (n + 1) d.f d.t h hs h2
  ·
   rw [if_neg (by rw [h1]; decide)]
   rcases h2 with ⟨k1, _⟩ | ⟨k1, k2, k3, _⟩
   · rw [if_pos k1]; exact ⟨Nat.le_refl _, uq d.f⟩
   ·
    rw [if_neg k1]
    rcases d.f.sh_eq.1 hs with ⟨k4, _⟩ | ⟨_, _, _, k4, k5⟩
    · exact absurd k4 k1
    ·
     have := AV d.f.l d.l (fun j hj => by
      obtain ⟨e1, e2⟩ := k3 j hj
      have hjl : j < d.f.l.length := by omega
      have hd1 := FT.kid_dp h hjl
      have hs1 := k5 j hjl
      rw [← e1] at hd1 hs1 ⊢
      exact uS n _ hd1 hs1 e2) k2 (by omega)
     have e := d.f.nd_eq
     omega
theorem JL (P Q G : Int) (xs : List Int) : ∀ (n : Nat) (d : PD) (w : World), d.f.dp ≤ n → d.f.nd ≤ 30 → Hid (dU w d.f) → Hid (jP w d) → d.f.sh → d.gd P Q G xs →
  Calls Tryz.prog 31 #[oM d.p] w (fun e w' => ∃ v, e = .returned v ∧ gH w' w.heap.size v d.com ∧ Below w.heap.size w w') := by
 intro n
 induction n with
 | zero => intro d _ h; have := d.f.dp_eq; omega
 | succ n ih =>
  intro d w hdp Ox hF hP hs hg
  have ih := aa ih
  have HCM := aa d.com_eq
  have Ji := (PD.gd_eq d).1 hg
  have OJ := d.f.nd_eq
  have HDK : Hid (∀ k, k < d.f.l.length → (d.f.l.getD k aY).dp ≤ n) := aa (fun k hk => FT.kid_dp hdp hk)
  have R7 := aa (fun u hF hT ha => zI P Q (n + 1) d.f d.t u hdp Ox hF hT hs ha)
  have KJ := d.f.sh_eq.1 hs
  have eP := hP.out.parts.1
  have Sr : Hid (bI w d.t) := aa hP.out.parts.2.2.2.1
  obtain ⟨cm, hcm⟩ : ∃ z, d.com = z := ⟨_, rfl⟩
  rw [hcm] at HCM ⊢
  clear hcm hg hs hdp
  obtain ⟨f, t, p, K, kn, kc, ks, A, an, ac, ch, dn, l⟩ := d
  dsimp only at Ox hF HCM Ji OJ HDK R7 KJ eP Sr
  obtain ⟨hlen1, Ja⟩ := hP.out.parts.2.1
  dsimp only at hlen1 Ja
  obtain ⟨kind, Y, yn, yc, ys, B, bn, bc, rows, L, ln, lc, fl⟩ := f
  obtain ⟨tc, tA, na, ca, al, pc, Zp, nz, cz, zs, TL, tn, fU, tl⟩ := t
  have LD : w.cell? ⟨p, 12, none⟩ = some (.bool dn) := aj eP 12
  have o0 : w.cell? ⟨p, 0, none⟩ = some (.int .i64 kind) := aj eP 0
  have o1 : w.cell? ⟨p, 1, none⟩ = some (.slice Y yn yc) := aj eP 1
  have o2 : w.cell? ⟨p, 2, none⟩ = some (.slice B bn bc) := aj eP 2
  have o3 : w.cell? ⟨p, 3, none⟩ = some (.slice L ln lc) := aj eP 3
  have o4 : w.cell? ⟨p, 4, none⟩ = some (.int .i64 tc) := aj eP 4
  have o5 : w.cell? ⟨p, 5, none⟩ = some (.slice tA na ca) := aj eP 5
  have o6 : w.cell? ⟨p, 6, none⟩ = some (.int .i64 pc) := aj eP 6
  have o7 : w.cell? ⟨p, 7, none⟩ = some (.slice Zp nz cz) := aj eP 7
  have o8 : w.cell? ⟨p, 8, none⟩ = some (.slice TL tn fU) := aj eP 8
  have Nh : w.cell? ⟨p, 10, none⟩ = some (.slice A an ac) := aj eP 10
  clear eP
  go_in
  cases dn with
  | true =>
   have ha : FT.acc P Q ⟨kind, Y, yn, yc, ys, B, bn, bc, rows, L, ln, lc, fl⟩ ⟨tc, tA, na, ca, al, pc, Zp, nz, cz, zs, TL, tn, fU, tl⟩ := by
    rcases Ji with ⟨_, h⟩ | ⟨h, _⟩
    · exact h
    · cases h
   have HCE : Hid (cm = FT.com ⟨kind, Y, yn, yc, ys, B, bn, bc, rows, L, ln, lc, fl⟩ ⟨tc, tA, na, ca, al, pc, Zp, nz, cz, zs, TL, tn, fU, tl⟩) := aa (by rw [HCM.out, if_pos rfl])
   have fQ := aa (fun u hF hT => R7.out u hF hT ha)
   clear Ji KJ HCM R7 ha hlen1 Ja OJ HDK Nh
   go_upto_region 2 with (fail)
   clear LD
   have hO := aa (fun (u : World) (hu : Hid (Below w.heap.size w u)) => And.intro (cell_below o0 hu.out) (And.intro (cell_below o1 hu.out) (And.intro (cell_below o2 hu.out) (And.intro (cell_below o3 hu.out) (And.intro (cell_below o4 hu.out) (And.intro (cell_below o5 hu.out) (And.intro (cell_below o6 hu.out) (And.intro (cell_below o7 hu.out) (cell_below o8 hu.out)))))))))
   clear o0 o1 o2 o3 o4 o5 o6 o7 o8
   refine je [] (dS w) (fun hHeld => ?_)
   refine aX 0 1 2 3 ?_
   refine aX 4 5 6 7 ?_
   refine dO 8 fun K hK => ?_
   go_simp
   refine (fQ.out _ (aa (hF.out.below hHeld.out)) (aa (Sr.out.below hHeld.out))).mono ?_
   rintro e wA ⟨v, rfl, hov, bA⟩
   have HOV := aa hov
   refine hK.out _ _ (cZ hHeld bA) (fun hHeld => ?_)
   clear hK K hov
   refine aQ 9 ?_
   refine jf ?_
   clear hO
   have fH := aa hHeld.out
   clear hHeld
   go_wp2
   go_ret
   exact ⟨v, rfl, by rw [HCE.out]; exact HOV.out, fH.out⟩
  | false =>
   rcases Ji with ⟨h, _⟩ | ⟨_, Ji⟩
   · cases h
   by_cases hk1 : kind = 1
   ·
    have d1 : (kind == 1) = true := by simp [hk1]
    have HR : Hid (cm = [⟨tA, na, ca, al⟩]) := aa (by rw [HCM.out, if_neg (by decide), if_pos hk1])
    clear hk1 Ji KJ HCM R7 hlen1 Ja OJ HDK
    go_wp2
    go_ret
    exact ⟨_, rfl, by rw [HR.out]; exact gH.one w w.heap.size (Nat.le_refl _) ⟨tA, na, ca, al⟩, ai _ _⟩
   have d1 : (kind == 1) = false := by simp [hk1]
   obtain ⟨hl1, Ak, Ah⟩ : 1 ≤ fl.length ∧ fl.length ≤ 8 ∧ ∀ k, k < fl.length → (fl.getD k aY).sh := by
    rcases KJ with ⟨h, _⟩ | ⟨_, _, _, b, c⟩
    · exact absurd h hk1
    · exact ⟨b.1, b.2, c⟩
   obtain ⟨hdl, Nl⟩ : l.length = fl.length ∧ ∀ k, k < l.length → (l.getD k eG).f = fl.getD k aY ∧ (l.getD k eG).gd P Q G xs := by
    rcases Ji with ⟨h, _⟩ | ⟨_, a, b, _⟩
    · exact absurd h hk1
    · exact ⟨a, b⟩
   have Gl := aa Ah
   have YJ := aa Nl
   have PO : Hid (cm = iC l) := aa (by rw [HCM.out, if_neg (by decide), if_neg hk1])
   have Q6 : lQ fl ≤ 29 := by dsimp only at OJ; omega
   have PL : Hid (∀ k, k < l.length → (l.getD k eG).com.length ≤ (fl.getD k aY).nd ∧ 1 ≤ (l.getD k eG).com.length) := aa (fun k hk => by
    obtain ⟨e1, e2⟩ := YJ.out k hk
    have h1 := HDK.out k (by dsimp only; omega)
    have h2 := Gl.out k (by omega)
    dsimp only at h1
    rw [← e1] at h1 h2 ⊢
    have := uS (P := P) (Q := Q) (G := G) (xs := xs) n _ h1 h2 e2
    exact ⟨this.2, this.1⟩)
   obtain ⟨i0, hi, hz0, hz1, hz2⟩ := info_parts DF
   clear hk1 Ji KJ HCM Ah Nl R7 o1 o2 o3 o4 o5 o6 o7 o8
   have ql := aa (fun (u : World) (h : Hid (Below w.heap.size w u)) => aa (hP.out.below h.out))
   have HFX := aa (fun (u : World) (h : Hid (Below w.heap.size w u)) => aa (hF.out.below h.out))
   have U5 := hF.out.lens.2.2.1
   dsimp only at U5
   clear hP hF Sr
   go_wp2_with fail
   clear o0 Nh LD d1
   go_loopw [3, 37] (fun vp vi wr => ∃ (k : Nat), k ≤ an ∧ vi = .int .i64 k ∧ Hid (gH wr w.heap.size vp (iC (l.take k))) ∧ (iC (l.take k)).length ≤ lQ (fl.take k) ∧ Hid (Below w.heap.size w wr)) (fun _ vi _ => an - (intOf vi).toNat)
   case atStart => exact ⟨0, by omega, rfl, aa (by simpa [iC] using zT _ _), by simp [iC], dS w⟩
   case round =>
    obtain ⟨k, hk, rfl, HO, hcl, aF⟩ := hrel
    by_cases hlt : k < an
    case neg =>
     obtain rfl : k = an := by omega
     rw [List.take_of_length_le (by omega)] at HO
     have HOF : Hid (gH wr w.heap.size u3 cm) := aa (by rw [PO.out]; exact HO.out)
     clear HO hcl
     go_wp2
     go_ret
     exact ⟨_, rfl, HOF.out, aF.out⟩
    have hkl : k < l.length := by omega
    have Jd : k < fl.length := by omega
    obtain ⟨_, _, _, _, OH, OI⟩ := (ql.out _ aF).out.parts
    dsimp only at OH OI
    obtain ⟨bb, oo, hA, j0⟩ := OH k hkl
    have VL := aa (OI.get hkl)
    subst hA
    have Qc : dU wr (fl.getD k aY) := by
     obtain ⟨_, _, _, _, _, _, _, hX⟩ := (HFX.out _ aF).out.kid (k := k) (by dsimp only; omega)
     exact hX
    obtain ⟨e1, e2⟩ := YJ.out k hkl
    have Gw := HDK.out k Jd
    have hsx := Gl.out k Jd
    have htk := xm l k hkl
    have hcx := PL.out k hkl
    have hnk := pq Jd
    have UR := jU (l := fl) (k + 1)
    rw [← e1] at Qc Gw hsx hcx hnk
    obtain ⟨x, hx⟩ : ∃ x, l.getD k eG = x := ⟨_, rfl⟩
    rw [hx] at Qc Gw hsx hcx hnk e2 htk VL j0
    have fQ := aa (ih.out x wr Gw (by omega) (aa Qc) VL hsx e2)
    obtain ⟨rx, hrx⟩ : ∃ z, x.com = z := ⟨_, rfl⟩
    rw [hrx] at htk hcx fQ
    have Et := aa htk
    obtain ⟨xp, hxp⟩ : ∃ z, x.p = z := ⟨_, rfl⟩
    rw [hxp] at fQ j0
    clear OH OI Qc e1 e2 Gw hsx hx hrx hxp htk hkl Jd VL
    go_wp2_with fail
    refine fQ.out.mono ?_
    rintro e wA ⟨vA, rfl, I_, bA⟩
    obtain ⟨gA, C_, Oj, -, -, hcA⟩ := gH.form I_ (by omega)
    subst Oj
    have sG : gH wA w.heap.size u3 (iC (l.take k)) := HO.out.keep bA
    have nH := cZ aF bA
    have hbs := nH.out.size
    clear j0
    go_wp2_with (at_builtin; refine wpList_append_own _ rfl _ _ 25 rfl w.heap.size 24 i0 (.slice none 0 0) 1 24 Tryz.underlying25 hi hz0 hz1 hz2 rfl (by decide) u3 _ _ rfl sG ⟨gA, 0, none⟩ rx.length C_ (rx.map Row.val) rfl (by simp) (fun j u hj => by
      have h := hcA j u hj
      by_cases e : j = 0
      · subst e; simpa [Addr.add] using h
      · simpa [Addr.add, e] using h) (fun v hv => by obtain ⟨r, _, rfl⟩ := List.mem_map.1 hv; rfl) (by unfold maxLen; omega) (by omega) hbs ?_)
    intro v5 w5 hown5 ow _
    have zy : Hid (gH w5 w.heap.size v5 (iC (l.take (k + 1)))) := aa (by
     rw [Et.out]
     exact gH.app rfl rfl hown5)
    have mh : Hid (Below w.heap.size w w5) := aa (nH.out.grown ow hbs (fun j hj => (World.ownsRow.lt sG j hj).1))
    have OD : (iC (l.take (k + 1))).length ≤ lQ (fl.take (k + 1)) := by rw [Et.out, List.length_append]; omega
    clear hown5 ow hbs sG I_ hcA bA nH
    go_wp2
    go_roundw
    case rel => exact ⟨k + 1, by omega, by go_num, zy, OD, mh⟩
    case measure => simp [intOf]; omega
def g_ (P Q G : Int) (b s : Nat) (d : PD) (c e0 : Int) (w : World) (e : Ending) (w' : World) : Prop :=
 ∃ (e1 : Int) (t : TT), e = .returned (tV t) ∧ gp w' b P Q G e1 ∧ w.grownBy w' (some b) ∧ (e1 = 0 → e0 = 0 ∧ (d.dn = true → t = d.t) ∧ (d.dn = false → t.c = c ∧ d.f.acc P Q t) ∧ d.f.com t = d.com ∧ fB (fun q => b < q ∧ (q < s ∨ w.heap.size ≤ q)) w' (fun u => bI u t))
theorem xS (P Q G : Int) (hG : Hid (aJ P Q G = true)) (W0 : World) (b : Nat) (iG : W0.heap.size ≤ b) (hv : Hid (Vars W0)) (X : Option Addr) (xs : List Int) (xn xc : Nat) (hX : Hid (Sl W0 X xs)) (mq : Hid (xs.length = xn)) (qp : xn ≤ xc) (s : Nat) (d : PD) (c e0 : Int) (hc0 : 0 ≤ c) (hc1 : c < Q) (w : World) (hB : Hid (Below W0.heap.size W0 w)) (hF : Hid (dU W0 d.f)) (hP : Hid (fB (fun q => b < q ∧ q < s) w (fun u => jP u d))) (hs : s ≤ w.heap.size) (hS : Hid (gp w b P Q G e0)) (hdn : d.dn = true) :
  Calls Tryz.prog 32 #[.pointer (some ⟨b, 0, none⟩), oM d.p, .int .i64 c, .slice X xn xc] w (g_ P Q G b s d c e0 w) := by
 have D9 := hP.out.here
 have eP := D9.parts.1
 have hblt := hS.out.lt
 have SG : Hid (fB (fun q => b < q ∧ q < s) w (fun u => bI u d.t)) := aa (fun u hu => (hP.out u hu).parts.2.2.2.1)
 have KV : Hid (d.f.com d.t = d.com) := aa (by rw [d.com_eq, if_pos hdn])
 unfold g_
 have ng := aa hdn
 obtain ⟨p, hp⟩ : ∃ z, d.p = z := ⟨_, rfl⟩
 obtain ⟨t, ht⟩ : ∃ z, d.t = z := ⟨_, rfl⟩
 obtain ⟨f, hf⟩ : ∃ z, d.f = z := ⟨_, rfl⟩
 obtain ⟨cm, hcm⟩ : ∃ z, d.com = z := ⟨_, rfl⟩
 rw [hp, ht, hf, hdn] at eP
 rw [ht] at SG KV ⊢
 rw [hf, hcm] at KV ⊢
 rw [hp]
 obtain ⟨tc, tA, na, ca, al, pc, Zp, nz, cz, zs, TL, tn, fU, tl⟩ := t
 obtain ⟨w0, hw0, hb0, hs0⟩ : ∃ w0, w.alloc (tO 0 none 0 0 0 none 0 0 none 0 0) = w0 ∧ Below w.heap.size w w0 ∧ w0.heap.size = w.heap.size + 1 := ⟨_, rfl, ai _ _, by simp⟩
 have HR : Hid (w0.heap[w.heap.size]? = some (tO 0 none 0 0 0 none 0 0 none 0 0)) := aa (by rw [← hw0]; exact heap_alloc_new _ _)
 have j_ := (hb0.block p (Array.getElem?_eq_some_iff.1 eP).1).trans eP
 have LD : w0.cell? ⟨p, 12, none⟩ = some (.bool true) := aj j_ 12
 have o4 : w0.cell? ⟨p, 4, none⟩ = some (.int .i64 tc) := aj j_ 4
 have o5 : w0.cell? ⟨p, 5, none⟩ = some (.slice tA na ca) := aj j_ 5
 have o6 : w0.cell? ⟨p, 6, none⟩ = some (.int .i64 pc) := aj j_ 6
 have o7 : w0.cell? ⟨p, 7, none⟩ = some (.slice Zp nz cz) := aj j_ 7
 have o8 : w0.cell? ⟨p, 8, none⟩ = some (.slice TL tn fU) := aj j_ 8
 have HW := aa hw0
 have HB0 := aa hb0
 have sD := aa (hS.out.below hb0)
 have HN := aa (And.intro hblt hs0)
 clear hw0 hb0 hs0 eP j_ D9 hP hS hB hF hv hdn hp ht hf hcm hblt
 go_in
 go_upto_region 1 with (fail)
 rw [show w.alloc (tO 0 none 0 0 0 none 0 0 none 0 0) = w0 from HW.out]
 go_wp2_with (first | ((with_reducible show wpList _ _ _ (⟨none, Op.store _ (Operand.tmp 8) _, _, _, _, _⟩ :: _) _ _); refine wpList_store_row rfl 39 _ _ rfl w.heap.size (iU tc tA na ca pc Zp nz cz TL tn fU) rfl rfl _ _ HR.out bE rfl (dP _ _ _ _ _ _ _ _ _ _ _) ?_) | fail)
 refine bodyPost_ret (v := .agg (iU tc tA na ca pc Zp nz cz TL tn fU)) (bM (p := 8) (ty := 39) rfl _ _ ⟨w.heap.size, 0, none⟩ _ rfl (run_loadVar_row _ _ _ _ _ _ _ (setRow_heap _ _ _ _ _ _ HR.out) Tryz.underlying39 rfl bE)) rfl ?_
 refine ⟨e0, ⟨tc, tA, na, ca, al, pc, Zp, nz, cz, zs, TL, tn, fU, tl⟩, rfl, sD.out.agree (setRow_other _ _ _ _ (by have := HN.out; omega)), bS (aC HB0.out _) _ (Nat.le_refl _) _, fun h => ⟨h, fun _ => rfl, fun h => (by rw [ng.out] at h; cases h), KV.out, ?_⟩⟩
 exact SG.out.step (fun q h1 h2 => (setRow_other _ _ _ _ (by omega)).trans (HB0.out.block q h1)) (by rw [setRow_size]; have := HN.out; omega) (fun q h1 h2 => ⟨h2.1, .inl h2.2⟩)
theorem xU (P Q G : Int) (hG : Hid (aJ P Q G = true)) (W0 : World) (b : Nat) (iG : W0.heap.size ≤ b) (hv : Hid (Vars W0)) (X : Option Addr) (xs : List Int) (xn xc : Nat) (hX : Hid (Sl W0 X xs)) (mq : Hid (xs.length = xn)) (qp : xn ≤ xc) (s : Nat) (d : PD) (c e0 : Int) (hc0 : 0 ≤ c) (hc1 : c < Q) (w : World) (hB : Hid (Below W0.heap.size W0 w)) (hF : Hid (dU W0 d.f)) (hP : Hid (fB (fun q => b < q ∧ q < s) w (fun u => jP u d))) (hs : s ≤ w.heap.size) (hS : Hid (gp w b P Q G e0)) (hdn : d.dn = false) (hk : d.f.kind = 1) (hgd : d.gd P Q G xs) :
  Calls Tryz.prog 32 #[.pointer (some ⟨b, 0, none⟩), oM d.p, .int .i64 c, .slice X xn xc] w (g_ P Q G b s d c e0 w) := by
 have D9 := hP.out.here
 have eP := D9.parts.1
 have hblt := hS.out.lt
 obtain ⟨p1, p2, p3, p4⟩ := aM hG.out
 have SG : Hid (fB (fun q => b < q ∧ q < s) w (fun u => bI u d.t)) := aa (fun u hu => (hP.out u hu).parts.2.2.2.1)
 have MZ : Hid (fB (fun q => b < q ∧ q < s) w (fun u => u.heap[d.p]? = some (t_ d.f d.t d.K d.kn d.kc d.A d.an d.ac d.ch d.dn))) := aa (fun u hu => (hP.out u hu).parts.1)
 have HKK : Hid (fB (fun q => b < q ∧ q < s) w (fun u => Sl u d.K d.ks)) := aa (fun u hu => (hP.out u hu).parts.2.2.1)
 have hkn := D9.parts.2.1.1
 obtain ⟨g1, g2, g3, g4, g5, g6, g7⟩ : d.f.kind = 1 ∧ d.l = [] ∧ d.ks.length = aU d.f.rows ∧ d.ks.all (cu Q) = true ∧ d.t.al = (d.f.rows.map fun r => aO P 1 r.xs d.ks) ∧ d.t.na = d.t.al.length ∧ lS P Q G d.f.ys d.f.rows (xs.take (aU d.f.rows)) = true := by
  rcases (PD.gd_eq d).1 hgd with ⟨h, _⟩ | ⟨_, h | ⟨h, _⟩⟩
  · rw [hdn] at h; cases h
  · exact h
  · exact absurd hk h
 have hcom := d.com_eq
 rw [if_neg (by rw [hdn]; decide), if_pos hk] at hcom
 have ng := aa hdn
 have HDK := aa (And.intro hcom hk)
 unfold g_
 have qx := aa (fun t => d.f.acc_eq (P := P) (Q := Q) t)
 have Um := aa (fun t => d.f.com_eq t)
 obtain ⟨f, hf⟩ : ∃ z, d.f = z := ⟨_, rfl⟩
 obtain ⟨p, hp⟩ : ∃ z, d.p = z := ⟨_, rfl⟩
 obtain ⟨t, ht⟩ : ∃ z, d.t = z := ⟨_, rfl⟩
 obtain ⟨K, hK⟩ : ∃ z, d.K = z := ⟨_, rfl⟩
 obtain ⟨ks, hks⟩ : ∃ z, d.ks = z := ⟨_, rfl⟩
 obtain ⟨kn, hkn2⟩ : ∃ z, d.kn = z := ⟨_, rfl⟩
 obtain ⟨cm, hcm⟩ : ∃ z, d.com = z := ⟨_, rfl⟩
 obtain ⟨kc, hkc⟩ : ∃ z, d.kc = z := ⟨_, rfl⟩
 rw [hp, ht, hf, hdn, hK, hkn2, hkc] at eP MZ
 rw [hf] at qx Um g1 g3 g5 g7 hF HDK ⊢
 rw [ht] at SG g5 g6 HDK
 rw [hK, hks] at HKK
 rw [hks, hkn2] at hkn
 rw [hks] at g3 g4 g5
 rw [hcm] at HDK ⊢
 rw [hp]
 obtain ⟨acc, hacc⟩ : ∃ z, FT.acc P Q f = z := ⟨_, rfl⟩
 rw [hacc] at qx ⊢
 obtain ⟨Nu, l8⟩ : ∃ z, FT.com f = z := ⟨_, rfl⟩
 rw [l8] at Um ⊢
 obtain ⟨A, hA⟩ : ∃ z, d.A = z := ⟨_, rfl⟩
 obtain ⟨an, iV⟩ : ∃ z, d.an = z := ⟨_, rfl⟩
 obtain ⟨ac, hac⟩ : ∃ z, d.ac = z := ⟨_, rfl⟩
 obtain ⟨ch, hch⟩ : ∃ z, d.ch = z := ⟨_, rfl⟩
 rw [hA, iV, hac, hch] at eP MZ
 clear hA iV hac hch l8 hacc hkc hp ht hK hks hkn2 hcm hcom hk hf hgd
 obtain ⟨tc, tA, na, ca, al, pc, Zp, nz, cz, zs, TL, tn, fU, tl⟩ := t
 obtain ⟨kind, Y, yn, yc, ys, B, bn, bc, rows, L, ln, lc, fl⟩ := f
 dsimp only at g1 g3 g5 g6 g7 qx Um HDK
 obtain ⟨kr, Xr⟩ : aP P Q G ys rows = true ∧ (decide ((xs.take (aU rows)).length = aU rows) && ((xs.take (aU rows)).all (cu Q) && ((rows.map fun r => aO P 1 r.xs (xs.take (aU rows))) == ys))) = true := by
  have h := g7
  unfold lS at h
  rw [Bool.and_eq_true] at h
  exact h
 rw [Bool.and_eq_true, Bool.and_eq_true, decide_eq_true_eq] at Xr
 obtain ⟨hh3, TF, U1⟩ := Xr
 have hvp := ak kr
 rw [← g3, hkn] at hh3 TF U1
 have Bg : Hid (∀ u : World, Hid (w.grownBy u (some b)) → Hid (fB (fun q => b < q ∧ q < s) u (fun v => v.heap[p]? = some (t_ ⟨kind, Y, yn, yc, ys, B, bn, bc, rows, L, ln, lc, fl⟩ ⟨tc, tA, na, ca, al, pc, Zp, nz, cz, zs, TL, tn, fU, tl⟩ K kn kc A an ac ch false)))) := aa (fun u hu => aa (MZ.out.step (fun q h1 h2 => hu.out.block q h1 (fun e => by injection e with e; have h9 : b < q := h2.1; omega)) hu.out.size (fun _ _ h => h)))
 clear MZ
 have hx1 : kn ≤ xn := by have := mq.out; rw [List.length_take] at hh3; omega
 have hn1 : 1 ≤ kn := by have := hvp.2.2.2.2.2.1; omega
 have hn2 : kn ≤ 12 := by have := hvp.2.2.2.2.2.2.1; omega
 have hnr : aU rows = kn := by omega
 have hqq : 1 ≤ Q := by omega
 have Wz : Hid (∀ Y3, Y3 = kn → bN P Q c ys rows al (lI Q c ks (xs.take kn) kn) = true) := aa (fun _ _ => by
  have hrel := hF.out.rel
  have UN := GN (n := c) kr hnr hc0 hc1 hkn hh3 g4 TF U1 (fun i hi => by
   exact (hrel.2 i hi).2.1)
  rw [g5]
  have U7 : cu Q c = true := by simp [cu]; omega
  simp only [bN, UN, List.length_map, jS, hnr, U7, Ik hqq, decide_true, Bool.and_true, Bool.true_and, beq_self_eq_true])
 have HNA := aa (And.intro g5 g6)
 have Bi := aa (And.intro g4 (And.intro hkn (And.intro hh3 TF)))
 have mD : Hid (Sl W0 X (xs.take kn)) := aa (fun k hk => by
  have hk2 : k < kn := by rw [hh3] at hk; exact hk
  obtain ⟨b', o', e', h'⟩ := hX.out k (by rw [mq.out]; omega)
  refine ⟨b', o', e', ?_⟩
  rw [h']
  simp [List.getD_eq_getElem?_getD, List.getElem?_take_of_lt hk2])
 clear g1 g3 g4 g5 g6 g7 kr hh3 TF U1 hvp hnr hdn hkn D9 hX mq
 obtain ⟨w1, hw1, hb1, hs1⟩ : ∃ w0, w.alloc (tO 0 none 0 0 0 none 0 0 none 0 0) = w0 ∧ Below w.heap.size w w0 ∧ w0.heap.size = w.heap.size + 1 := ⟨_, rfl, ai _ _, by simp⟩
 have hr1 : w1.heap[w.heap.size]? = some (tO 0 none 0 0 0 none 0 0 none 0 0) := by rw [← hw1]; exact heap_alloc_new _ _
 have uF := (hb1.block p (Array.getElem?_eq_some_iff.1 eP).1).trans eP
 have LD : w1.cell? ⟨p, 12, none⟩ = some (.bool false) := aj uF 12
 have Me := (Array.getElem?_eq_some_iff.1 eP).1
 have HW := aa hw1
 have hQ : Q < 9223372036854775808 := by omega
 have hxk : kn ≤ xc := by omega
 have hK1 : K = K := rfl
 have kV := aa (fun (u : World) (h : Hid (Below W0.heap.size W0 u)) => aa (hv.out.below h.out))
 have HOB := aa eP
 have HN := aa (And.intro hblt (And.intro hs1 Me))
 have HB1 := aa hb1
 have HR1 := aa hr1
 have uZ := aa uF
 have av := hB
 clear hw1 hb1 hs1 eP uF hP hF hB hv hr1 hK1 hblt p1 p2 p3 p4 Me
 go_in
 go_upto_region 1 with (fail)
 rw [show w.alloc (tO 0 none 0 0 0 none 0 0 none 0 0) = w1 from HW.out]
 go_upto_region 4 with (fail)
 obtain ⟨w0, hw0, HB2, hs2, -, -⟩ := su (tO c none 0 0 0 none 0 0 none 0 0) Br w1
 have ht0 : w0.heap[w1.heap.size]? = some (tO c none 0 0 0 none 0 0 none 0 0) := by rw [← hw0]; exact heap_alloc_new _ _
 rw [hw0]
 clear hw0 LD hs2
 obtain ⟨tb, htb⟩ : ∃ z, w1.heap.size = z := ⟨_, rfl⟩
 have nV : Hid (tb = w.heap.size + 1) := aa (by have := HN.out; omega)
 rw [htb] at ht0 ⊢
 have j_ := (HB2.out.block p (Array.getElem?_eq_some_iff.1 uZ.out).1).trans uZ.out
 have o0 : w0.cell? ⟨p, 0, none⟩ = some (.int .i64 1) := by rw [← HDK.out.2]; exact aj j_ 0
 have o5 : w0.cell? ⟨p, 5, none⟩ = some (.slice tA na ca) := aj j_ 5
 have HT0 := aa ht0
 have HT1 : Hid ((w0.setCell ⟨tb, 1, none⟩ (.slice tA na ca)).heap[tb]? = some (tO c tA na ca 0 none 0 0 none 0 0)) := aa (heap_setCell_same w0 tb 1 _ _ _ ht0)
 have HT2 : Hid (((w0.setCell ⟨tb, 1, none⟩ (.slice tA na ca)).setCell ⟨tb, 2, none⟩ (.int .i64 c)).heap[tb]? = some (tO c tA na ca c none 0 0 none 0 0)) := aa (heap_setCell_same _ tb 2 _ _ _ HT1.out)
 have k1 : w0.cell? ⟨tb, 1, none⟩ = some (.slice none 0 0) := aj ht0 1
 have k2 : w0.frozen? ⟨tb, 1, none⟩ = false := aS ht0 1
 have k3 : (w0.setCell ⟨tb, 1, none⟩ (.slice tA na ca)).cell? ⟨tb, 2, none⟩ = some (.int .i64 0) := aj HT1.out 2
 have k4 : (w0.setCell ⟨tb, 1, none⟩ (.slice tA na ca)).frozen? ⟨tb, 2, none⟩ = false := aS HT1.out 2
 have uE : ∀ q, q ≠ tb → ((w0.setCell ⟨tb, 1, none⟩ (.slice tA na ca)).setCell ⟨tb, 2, none⟩ (.int .i64 c)).heap[q]? = w0.heap[q]? := fun q hq => (Go.Deep.blk_setCell_other _ _ _ _ hq).trans (Go.Deep.blk_setCell_other _ _ _ _ hq)
 have HG2 : Hid (w.grownBy ((w0.setCell ⟨tb, 1, none⟩ (.slice tA na ca)).setCell ⟨tb, 2, none⟩ (.int .i64 c)) (some b)) := aa (dh (dh (ax (aC HB1.out (some b)) (aC HB2.out (some b))) (by have := nV.out; omega) _) (by have := nV.out; omega) _)
 have hsz2 : ((w0.setCell ⟨tb, 1, none⟩ (.slice tA na ca)).setCell ⟨tb, 2, none⟩ (.int .i64 c)).heap.size = w0.heap.size := (World.size_setCell _ _ _).trans (World.size_setCell _ _ _)
 have hr0 := (HB2.out.block _ (Array.getElem?_eq_some_iff.1 HR1.out).1).trans HR1.out
 have RD := (hS.out.below HB1.out).below HB2.out
 clear htb j_ ht0
 go_upto_region 19 with (fail)
 obtain ⟨w2, hw2⟩ : ∃ u, (w0.setCell ⟨tb, 1, none⟩ (.slice tA na ca)).setCell ⟨tb, 2, none⟩ (.int .i64 c) = u := ⟨_, rfl⟩
 rw [hw2] at HT2 uE HG2 hsz2 ⊢
 clear hw2 k1 k2 k3 k4 HT1 o0 o5
 have hbw : b < w.heap.size := HN.out.1
 have HR2 : Hid (w2.heap[w.heap.size]? = some (tO 0 none 0 0 0 none 0 0 none 0 0)) := aa ((uE _ (by have := nV.out; omega)).trans hr0)
 have qw : Hid (gp w2 b P Q G e0) := aa (RD.agree (uE b (by have := nV.out; omega)))
 have HZ2 : Hid (w.heap.size + 2 ≤ w2.heap.size) := aa (by have := (Array.getElem?_eq_some_iff.1 HT2.out).1; have := nV.out; omega)
 clear uE hsz2 hr0 RD HT0 HB2 HB1 HR1 uZ hS
 obtain ⟨q1, q2⟩ := qw.out.ce
 have Pz : Hid (w2.heap[p]? = some (t_ ⟨kind, Y, yn, yc, ys, B, bn, bc, rows, L, ln, lc, fl⟩ ⟨tc, tA, na, ca, al, pc, Zp, nz, cz, zs, TL, tn, fU, tl⟩ K kn kc A an ac ch false)) := aa ((Bg.out _ HG2).out.here)
 by_cases he0 : e0 = 0
 case neg =>
  have d1 : (e0 == 0) = false := by simp [he0]
  have KU := aa he0
  have HR := HR2
  clear he0
  have t0 : w2.cell? ⟨tb, 0, none⟩ = some (.int .i64 c) := aj HT2.out 0
  have t1 : w2.cell? ⟨tb, 1, none⟩ = some (.slice tA na ca) := aj HT2.out 1
  have t2 : w2.cell? ⟨tb, 2, none⟩ = some (.int .i64 c) := aj HT2.out 2
  have t3 : w2.cell? ⟨tb, 3, none⟩ = some (.slice none 0 0) := aj HT2.out 3
  have t4 : w2.cell? ⟨tb, 4, none⟩ = some (.slice none 0 0) := aj HT2.out 4
  go_wp2_with (first | ((with_reducible show wpList _ _ _ (⟨none, Op.store _ (Operand.tmp 8) _, _, _, _, _⟩ :: _) _ _); refine wpList_store_row rfl 39 _ _ rfl w.heap.size (iU c tA na ca c none 0 0 none 0 0) rfl rfl _ _ HR.out bE rfl (dP _ _ _ _ _ _ _ _ _ _ _) ?_) | fail)
  refine bodyPost_ret (v := .agg (iU c tA na ca c none 0 0 none 0 0)) (bM (p := 8) (ty := 39) rfl _ _ ⟨w.heap.size, 0, none⟩ _ rfl (run_loadVar_row _ _ _ _ _ _ _ (setRow_heap _ _ _ _ _ _ HR.out) Tryz.underlying39 rfl bE)) rfl ?_
  exact ⟨e0, ⟨c, tA, na, ca, al, c, none, 0, 0, [], none, 0, 0, []⟩, rfl, qw.out.agree (setRow_other _ _ _ _ (by omega)), bS HG2.out _ (by omega) _, fun h => absurd h KU.out⟩
 subst he0
 go_upto_region 20 with (fail)
 clear q1 q2
 obtain ⟨z1, z2, z3⟩ := qw.out.c0
 have Jh := aa (fun (u : World) (hu : Hid ((u.cell? ⟨b, 0, none⟩ = some (.int .i64 P) ∧ u.cell? ⟨b, 1, none⟩ = some (.int .i64 Q) ∧ u.cell? ⟨b, 2, none⟩ = some (.int .i64 G)) ∧ u.cell? ⟨p, 9, none⟩ = some (.slice K kn kc))) => hu.out)
 refine BK (fun u => (u.cell? ⟨b, 0, none⟩ = some (.int .i64 P) ∧ u.cell? ⟨b, 1, none⟩ = some (.int .i64 Q) ∧ u.cell? ⟨b, 2, none⟩ = some (.int .i64 G)) ∧ u.cell? ⟨p, 9, none⟩ = some (.slice K kn kc)) [] (aa ⟨⟨z1, z2, z3⟩, aj Pz.out 9⟩) (fun hHeld => ?_)
 have hO := Jh
 clear Jh z1 z2 z3
 refine aX 0 1 2 3 ?_
 refine aX 4 5 6 7 ?_
 refine aX 8 9 10 11 ?_
 refine aX 12 13 14 15 ?_
 refine aQ 16 ?_
 refine dO 17 fun K1 hK1 => ?_
 go_simp
 have PY : Hid (Below W0.heap.size W0 w2.drew) := dx av iG rfl (ax HG2.out (aC (Below.refl _ _).drew (some b)))
 have Yv : Hid (Sl w2.drew K ks) := aa (HKK.out.step (D2 := fun _ => True) (fun q h1 h2 => HG2.out.block q h1 (fun e => by injection e with e; have h9 : b < q := h2.1; omega)) HG2.out.size (fun _ _ _ => trivial)).here
 refine (z_ P Q G K ks kn kc c X (xs.take kn) xc hG (aa Bi.out.2.1) (aa Bi.out.2.2.1) hn1 hn2 (aa Bi.out.1) (aa Bi.out.2.2.2) hc0 hc1 hQ _ (kV.out _ PY) Yv (aa (mD.out.below PY.out))).mono ?_
 rintro e w4 ⟨v4, rfl, nT, hb4⟩
 obtain ⟨A2, n2, c2, hv2, Q8, hA2, hf2⟩ := qF nT
 subst hv2
 have KR := aa Q8
 clear Q8
 have FP : Below w2.heap.size w2 w4 := af ((Below.refl _ _).drew) hb4
 have KP : Hid (w4.heap[tb]? = some (tO c tA na ca c none 0 0 none 0 0)) := aa ((FP.block _ (Array.getElem?_eq_some_iff.1 HT2.out).1).trans HT2.out)
 have HR4 := aa ((FP.block _ (Array.getElem?_eq_some_iff.1 HR2.out).1).trans HR2.out)
 have SB := aa ((FP.block _ (Array.getElem?_eq_some_iff.1 Pz.out).1).trans Pz.out)
 have Dl := aa (qw.out.below FP)
 have GH := aa (ax HG2.out (aC FP (some b)))
 have Me : p < w.heap.size := HN.out.2.2
 refine hK1.out _ _ (aa ⟨Dl.out.c0, aj SB.out 9⟩) (fun hHeld => ?_)
 clear hK1 K1 nT Yv PY
 refine aX 18 19 20 21 ?_
 refine aQ 22 ?_
 have k1 : w4.cell? ⟨tb, 3, none⟩ = some (.slice none 0 0) := aj KP.out 3
 have k2 : w4.frozen? ⟨tb, 3, none⟩ = false := aS KP.out 3
 refine dO 23 fun K1 hK1 => ?_
 go_simp
 have Bu : Hid ((w4.setCell ⟨tb, 3, none⟩ (.slice A2 n2 c2)).heap[tb]? = some (tO c tA na ca c A2 n2 c2 none 0 0)) := aa (heap_setCell_same w4 tb 3 _ _ _ KP.out)
 have pQ : ∀ k, k ≠ tb → (w4.setCell ⟨tb, 3, none⟩ (.slice A2 n2 c2)).heap[k]? = w4.heap[k]? := fun k hk => Go.Deep.blk_setCell_other _ _ _ _ hk
 have S9 : Hid (w.grownBy (w4.setCell ⟨tb, 3, none⟩ (.slice A2 n2 c2)) (some b)) := aa (dh GH.out (by have := nV.out; omega) _)
 have Si : Hid (w4.heap.size ≤ (w4.setCell ⟨tb, 3, none⟩ (.slice A2 n2 c2)).heap.size) := aa (by rw [World.size_setCell]; exact Nat.le_refl _)
 obtain ⟨w5, KH⟩ : ∃ u, w4.setCell ⟨tb, 3, none⟩ (.slice A2 n2 c2) = u := ⟨_, rfl⟩
 rw [KH] at Bu pQ S9 Si ⊢
 clear KH k1 k2
 have ku := aa (Dl.out.agree (pQ b (by have := nV.out; omega)))
 have xH := aa ((pQ (w.heap.size) (by have := nV.out; omega)).trans HR4.out)
 have V7 := aa ((pQ p (by have := nV.out; omega)).trans SB.out)
 refine hK1.out _ _ (aa ⟨ku.out.c0, aj V7.out 9⟩) (fun hHeld => ?_)
 clear hK1 K1
 refine aQ 24 ?_
 refine aQ 25 ?_
 obtain ⟨q1, q2⟩ := ku.out.ce
 refine dO 26 fun K1 hK1 => ?_
 go_simp
 have GA := aa (ku.out.setE 0 (fun h => h))
 have Sg : Hid (w4.heap.size ≤ (w5.setCell ⟨b, 36, none⟩ (.int .i64 0)).heap.size) := aa (by rw [World.size_setCell]; exact Si.out)
 have om : ∀ k, k ≠ b → (w5.setCell ⟨b, 36, none⟩ (.int .i64 0)).heap[k]? = w5.heap[k]? := fun k hk => Go.Deep.blk_setCell_other _ _ _ _ hk
 have ND := aa (ax S9.out (eF b 36 (.int .i64 0)))
 obtain ⟨w6, pM⟩ : ∃ u, w5.setCell ⟨b, 36, none⟩ (.int .i64 0) = u := ⟨_, rfl⟩
 rw [pM] at GA om ND Sg ⊢
 clear pM q1 q2
 have V6 : Hid (w6.heap[p]? = some (t_ ⟨kind, Y, yn, yc, ys, B, bn, bc, rows, L, ln, lc, fl⟩ ⟨tc, tA, na, ca, al, pc, Zp, nz, cz, zs, TL, tn, fU, tl⟩ K kn kc A an ac ch false)) := aa ((Bg.out _ ND).out.here)
 refine hK1.out _ _ (aa ⟨GA.out.c0, aj V6.out 9⟩) (fun hHeld => ?_)
 clear hK1 K1
 refine jf ?_
 clear hO
 have HR : Hid (w6.heap[w.heap.size]? = some (tO 0 none 0 0 0 none 0 0 none 0 0)) := aa ((om _ (by omega)).trans xH.out)
 have Eu : Hid (w6.heap[tb]? = some (tO c tA na ca c A2 n2 c2 none 0 0)) := aa ((om _ (by have := nV.out; omega)).trans Bu.out)
 obtain ⟨zl, hzl⟩ : ∃ z, lI Q c ks (xs.take kn) kn = z := ⟨_, rfl⟩
 have X5 : Hid (zl.length = n2 ∧ bN P Q c ys rows al zl = true) := aa ⟨by rw [← hzl]; exact KR.out.symm, by rw [← hzl]; exact Wz.out kn rfl⟩
 rw [hzl] at hA2 hf2
 have qo : Hid (fB (fun q => b < q ∧ (q < s ∨ w.heap.size + 2 ≤ q)) w6 (fun u => bI u ⟨c, tA, na, ca, al, c, A2, n2, c2, zl, none, 0, 0, []⟩)) := aa (fun u hu => by
  show bI u ⟨c, tA, na, ca, al, c, A2, n2, c2, zl, none, 0, 0, []⟩
  rw [bI]
  refine ⟨⟨HNA.out.2.symm, X5.out.1, rfl, by decide⟩, ?_, ?_, fun k hk => absurd hk (by simp), by rw [xy]; trivial⟩
  ·
   have h1 : bI u ⟨tc, tA, na, ca, al, pc, Zp, nz, cz, zs, TL, tn, fU, tl⟩ := (SG.out.step (D2 := fun q => b < q ∧ q < s) (fun q h1 h2 => ND.out.block q h1 (fun e => by injection e with e; have h9 : b < q := h2.1; omega)) ND.out.size (fun _ _ h => h)) u (fun q h1 h2 => hu q h1 ⟨h2.1, .inl h2.2⟩)
   rw [bI] at h1
   exact h1.2.1
  ·
   refine hA2.agree (fun bb o e h0 => ?_)
   obtain ⟨g, g1, g2⟩ := hf2 h0
   rw [e] at g1
   cases g1
   obtain ⟨_, _, e2, hc2⟩ := hA2 0 h0
   rw [e] at e2
   cases e2
   have hlt : bb < w4.heap.size := World.block_lt_of_cell? _ _ hc2
   have hdr : w2.drew.heap.size = w2.heap.size := rfl
   have hZ := HZ2.out
   have hT := nV.out
   have h46 : w4.heap.size ≤ w6.heap.size := Sg.out
   exact (hu bb (by omega) ⟨by omega, .inr (by omega)⟩).trans ((om bb (by omega)).trans (pQ bb (by omega))))
 have YM := aa hbw
 clear om pQ hA2 hf2 FP hb4 hHeld hzl hbw Me
 have t0 : w6.cell? ⟨tb, 0, none⟩ = some (.int .i64 c) := aj Eu.out 0
 have t1 : w6.cell? ⟨tb, 1, none⟩ = some (.slice tA na ca) := aj Eu.out 1
 have t2 : w6.cell? ⟨tb, 2, none⟩ = some (.int .i64 c) := aj Eu.out 2
 have t3 : w6.cell? ⟨tb, 3, none⟩ = some (.slice A2 n2 c2) := aj Eu.out 3
 have t4 : w6.cell? ⟨tb, 4, none⟩ = some (.slice none 0 0) := aj Eu.out 4
 go_wp2_with (first | ((with_reducible show wpList _ _ _ (⟨none, Op.store _ (Operand.tmp 8) _, _, _, _, _⟩ :: _) _ _); refine wpList_store_row rfl 39 _ _ rfl w.heap.size (iU c tA na ca c A2 n2 c2 none 0 0) rfl rfl _ _ HR.out bE rfl (dP _ _ _ _ _ _ _ _ _ _ _) ?_) | fail)
 refine bodyPost_ret (v := .agg (iU c tA na ca c A2 n2 c2 none 0 0)) (bM (p := 8) (ty := 39) rfl _ _ ⟨w.heap.size, 0, none⟩ _ rfl (run_loadVar_row _ _ _ _ _ _ _ (setRow_heap _ _ _ _ _ _ HR.out) Tryz.underlying39 rfl bE)) rfl ?_
 refine ⟨0, ⟨c, tA, na, ca, al, c, A2, n2, c2, zl, none, 0, 0, []⟩, rfl, GA.out.agree (setRow_other _ _ _ _ (by have := YM.out; omega)), bS ND.out _ (by omega) _, fun _ => ⟨fun h => (by rw [ng.out] at h; cases h), fun _ => ⟨rfl, (qx.out _).2 ⟨⟨hc0, hc1⟩, .inl ⟨HDK.out.2, rfl, rfl, X5.out.2⟩⟩⟩, ?_, ?_⟩⟩
 · rw [Um.out, if_pos HDK.out.2, HDK.out.1]
 · exact qo.out.step (fun q k1 k2 => setRow_other _ _ _ _ (by have h9 : q < s ∨ w.heap.size + 2 ≤ q := k2.2; omega)) (by rw [setRow_size]; exact Nat.le_refl _) (fun q k1 k2 => ⟨k2.1, by have h9 : q < s ∨ w.heap.size + 2 ≤ q := k2.2; omega⟩)
theorem w_ : ∀ (fs : List FT) (ts : List TT) (ds : List PD), ts.length = fs.length → ds.length = fs.length → (∀ j, j < ds.length → (fs.getD j aY).com (ts.getD j noT) = (ds.getD j eG).com) → iO fs ts = iC ds
 | [], _, [], _, _, _ => by rw [kR, iC]
 | [], _, _ :: _, _, h, _ => by simp at h
 | _ :: _, [], _, h, _, _ => by simp at h
 | _ :: _, _ :: _, [], _, h, _ => by simp at h
 | f :: fs, t :: ts, d :: ds, h1, h2, h => by
  rw [iO, iC, w_ fs ts ds (by simpa using h1) (by simpa using h2) (fun j hj => by have := h (j + 1) (by simpa using hj); rwa [List.getD_cons_succ, List.getD_cons_succ, List.getD_cons_succ] at this)]
  have := h 0 (by simp)
  rw [List.getD_cons_zero, List.getD_cons_zero, List.getD_cons_zero] at this
  rw [this]
def qI (Q c : Int) (j : Nat) (ds : List PD) : Nat → Int
 | 0 => c
 | k + 1 => if k = j then qI Q c j ds k else (qI Q c j ds k - (ds.getD k eG).t.c + Q) % Q
theorem Ci {Q c : Int} {j : Nat} {ds : List PD} (h0 : 0 ≤ c) (h1 : c < Q) : ∀ k, 0 ≤ qI Q c j ds k ∧ qI Q c j ds k < Q
 | 0 => ⟨h0, h1⟩
 | k + 1 => by
  rw [qI]
  by_cases h : k = j
  · rw [if_pos h]; exact Ci h0 h1 k
  · rw [if_neg h]; exact ⟨Int.emod_nonneg _ (by omega), Int.emod_lt_of_pos _ (by omega)⟩
theorem DY {Q c : Int} {j : Nat} {ds : List PD} {ts : List TT} (hQ : 0 < Q) (h : ∀ i, i < ts.length → i ≠ j → (ts.getD i noT).c = (ds.getD i eG).t.c) : ∀ k, k ≤ ts.length → ∃ m : Int, fu Q (ts.take k) + qI Q c j ds k = c + (if j < k then (ts.getD j noT).c else 0) + Q * m
 | 0, _ => ⟨0, by simp [fu, qI]⟩
 | k + 1, hk => by
  obtain ⟨m, hm⟩ := DY (c := c) hQ h k (by omega)
  rw [jg (by omega), qI, Int.emod_def]
  obtain ⟨t, ht⟩ : ∃ t, (ts.getD k noT).c = t := ⟨_, rfl⟩
  obtain ⟨S, hS⟩ : ∃ t, fu Q (ts.take k) = t := ⟨_, rfl⟩
  obtain ⟨L, hL⟩ : ∃ t, qI Q c j ds k = t := ⟨_, rfl⟩
  by_cases hkj : k = j
  ·
   subst hkj
   rw [hS, hL, if_neg (by omega)] at hm
   rw [if_pos rfl, if_pos (by omega), ht, hS, hL]
   refine ⟨m - (S + t) / Q, ?_⟩
   rw [Int.mul_sub]
   omega
  ·
   have h2 := h k (by omega) hkj
   rw [if_neg hkj, Int.emod_def, ← h2, ht, hS, hL]
   rw [hS, hL] at hm
   have e : (if j < k + 1 then (ts.getD j noT).c else 0) = if j < k then (ts.getD j noT).c else 0 := by
    by_cases hj : j < k
    · rw [if_pos hj, if_pos (by omega)]
    · rw [if_neg hj, if_neg (by omega)]
   rw [e]
   refine ⟨m + 1 - (S + t) / Q - (L - t + Q) / Q, ?_⟩
   rw [Int.mul_sub, Int.mul_sub, Int.mul_add, Int.mul_one]
   omega
theorem K_ {Q : Int} (hQ : 0 < Q) : ∀ (l : List TT), 0 < l.length → 0 ≤ fu Q l ∧ fu Q l < Q := fun l hl => by
 have e := jg (Q := Q) (l := l) (k := l.length - 1) (by omega)
 rw [show l.length - 1 + 1 = l.length by omega, List.take_length] at e
 rw [e]
 exact ⟨Int.emod_nonneg _ (by omega), Int.emod_lt_of_pos _ hQ⟩
theorem IK {Q c : Int} {j : Nat} {ds : List PD} {ts : List TT} (h0 : 0 ≤ c) (h1 : c < Q) (hj : j < ts.length) (h : ∀ i, i < ts.length → i ≠ j → (ts.getD i noT).c = (ds.getD i eG).t.c) (hl : (ts.getD j noT).c = qI Q c j ds ts.length) : fu Q ts = c := by
 obtain ⟨m, hm⟩ := DY (Q := Q) (c := c) (by omega) h ts.length (Nat.le_refl _)
 rw [List.take_length, if_pos hj, ← hl] at hm
 obtain ⟨a, b⟩ := K_ (Q := Q) (by omega) ts (by omega)
 have e : fu Q ts = c + Q * m := by omega
 rw [← Int.emod_eq_of_lt a b, e, Int.add_mul_emod_self_left, Int.emod_eq_of_lt h0 h1]
def vP (P Q lf : Int) (fs : List FT) (ds : List PD) (b s k : Nat) (ts : List TT) (g : Option Nat) (n0 : Nat) (w : World) : Prop :=
 ∀ j, j < k → (fs.getD j aY).acc P Q (ts.getD j noT) ∧ (fs.getD j aY).com (ts.getD j noT) = (ds.getD j eG).com ∧ ((ds.getD j eG).dn = true → ts.getD j noT = (ds.getD j eG).t) ∧ ((ds.getD j eG).dn = false → (ts.getD j noT).c = lf) ∧ fB (fun q => b < q ∧ (q < s ∨ (n0 ≤ q ∧ g ≠ some q))) w (fun u => bI u (ts.getD j noT))
theorem vP.next {P Q lf : Int} {fs : List FT} {ds : List PD} {b s k : Nat} {ts : List TT} {t : TT} {g g2 : Option Nat} {n0 : Nat} {w w2 : World} (h : vP P Q lf fs ds b s k ts g n0 w) (hk : ts.length = k)
  (ha : (fs.getD k aY).acc P Q t) (hc : (fs.getD k aY).com t = (ds.getD k eG).com) (h1 : (ds.getD k eG).dn = true → t = (ds.getD k eG).t) (h2 : (ds.getD k eG).dn = false → t.c = lf)
  (hkp : ∀ R, fB (fun q => b < q ∧ (q < s ∨ (n0 ≤ q ∧ g ≠ some q))) w R → fB (fun q => b < q ∧ (q < s ∨ (n0 ≤ q ∧ g2 ≠ some q))) w2 R) (ht : fB (fun q => b < q ∧ (q < s ∨ (n0 ≤ q ∧ g2 ≠ some q))) w2 (fun u => bI u t)) : vP P Q lf fs ds b s (k + 1) (ts ++ [t]) g2 n0 w2 := fun j hj => by
 rw [uJ (by rw [List.length_append, List.length_singleton]; omega)]
 by_cases hjk : j < ts.length
 ·
  rw [if_pos hjk]
  obtain ⟨b1, b2, b3, b4, b5⟩ := h j (by omega)
  exact ⟨b1, b2, b3, b4, hkp _ b5⟩
 ·
  rw [if_neg hjk]
  obtain rfl : j = k := by omega
  exact ⟨ha, hc, h1, h2, ht⟩
theorem vP.kp {P Q lf c : Int} {fs : List FT} {ds : List PD} {b s : Nat} {ts : List TT} {A : Option Addr} {cap n0 : Nat} {w : World} (h : vP P Q lf fs ds b s ts.length ts (Value.ownBlock (.slice A ts.length cap)) n0 w) (hO : fq w n0 (.slice A ts.length cap) ts) (hb : b < n0) (h8 : ts.length ≤ 8) :
  fB (fun q => b < q ∧ (q < s ∨ n0 ≤ q)) w (fun u => bI u ⟨c, none, 0, 0, [], 0, none, 0, 0, [], A, ts.length, cap, ts⟩) := fun u hu => by
 show bI u _
 rw [bI]
 have hag : fq u n0 (.slice A ts.length cap) ts := hO.agree (fun g e => hu g (hO.lt g e).2 (by have := (hO.lt g e).1; omega))
 refine ⟨⟨rfl, rfl, rfl, by omega⟩, fun k hk => absurd hk (by simp), fun k hk => absurd hk (by simp), hag.tls rfl, y8 fun k hk => ?_⟩
 exact (h k hk).2.2.2.2 u (fun q h1 h2 => hu q h1 (by omega))
theorem vP.com {P Q lf c : Int} {f : FT} {ds : List PD} {b s : Nat} {ts : List TT} {A : Option Addr} {cap n0 : Nat} {g : Option Nat} {w : World} (h : vP P Q lf f.l ds b s ts.length ts g n0 w) (hl : ts.length = f.l.length) (hd : ds.length = f.l.length) (hk : f.kind ≠ 1) : f.com ⟨c, none, 0, 0, [], 0, none, 0, 0, [], A, ts.length, cap, ts⟩ = iC ds := by
 rw [f.com_eq, if_neg hk]
 exact w_ f.l ts ds hl hd (fun j hj => (h j (by omega)).2.1)
theorem vP.andA {P Q c : Int} {f : FT} {ds : List PD} {b s : Nat} {ts : List TT} {A : Option Addr} {cap n0 : Nat} {g : Option Nat} {w : World} (h : vP P Q c f.l ds b s ts.length ts g n0 w) (hl : ts.length = f.l.length) (hd : ds.length = f.l.length) (hc0 : 0 ≤ c) (hc1 : c < Q) (hk : f.kind = 2) (hdn : ∀ k, k < ds.length → (ds.getD k eG).dn = false) :
  f.acc P Q ⟨c, none, 0, 0, [], 0, none, 0, 0, [], A, ts.length, cap, ts⟩ := by
 rw [f.acc_eq]
 exact ⟨⟨hc0, hc1⟩, .inr ⟨by omega, ⟨rfl, rfl, rfl⟩, hl, fun k hk => (h k (by rw [hl]; exact hk)).1, fun _ k hk => (h k (by rw [hl]; exact hk)).2.2.2.1 (hdn k (by rw [hd]; exact hk)), .inl hk⟩⟩
theorem vP.orA {P Q c : Int} {f : FT} {ds : List PD} {b s j : Nat} {ts : List TT} {A : Option Addr} {cap n0 : Nat} {g : Option Nat} {w : World} (h : vP P Q (qI Q c j ds ds.length) f.l ds b s ts.length ts g n0 w) (hl : ts.length = f.l.length) (hd : ds.length = f.l.length) (hc0 : 0 ≤ c) (hc1 : c < Q) (hk : f.kind = 3) (hj : j < ds.length) (hdn : ∀ k, k < ds.length → (ds.getD k eG).dn = decide (k ≠ j)) :
  f.acc P Q ⟨c, none, 0, 0, [], 0, none, 0, 0, [], A, ts.length, cap, ts⟩ := by
 rw [f.acc_eq]
 refine ⟨⟨hc0, hc1⟩, .inr ⟨by omega, ⟨rfl, rfl, rfl⟩, hl, fun k hk => (h k (by rw [hl]; exact hk)).1, fun e => by omega, .inr ?_⟩⟩
 have hdl : ds.length = ts.length := by omega
 show fu Q ts = c
 refine IK (j := j) (ds := ds) (ts := ts) hc0 hc1 (by omega) (fun i hi hij => ?_) ?_
 · rw [(h i hi).2.2.1 ((hdn i (by omega)).trans (by simp [hij]))]
 · rw [(h j (by omega)).2.2.2.1 ((hdn j hj).trans (by simp)), hdl]
theorem PD.gd.gdacc {P Q G : Int} {xs : List Int} {d : PD} (h : d.gd P Q G xs) (hd : d.dn = true) : d.f.acc P Q d.t := by
 rcases (PD.gd_eq d).1 h with ⟨_, h⟩ | ⟨h, _⟩
 · exact h
 · rw [hd] at h; cases h
theorem zP (P Q G : Int) (hG : Hid (aJ P Q G = true)) (W0 : World) (b : Nat) (iG : W0.heap.size ≤ b) (hv : Hid (Vars W0)) (X : Option Addr) (xs : List Int) (xn xc : Nat) (hX : Hid (Sl W0 X xs)) (mq : Hid (xs.length = xn)) (qp : xn ≤ xc) (s : Nat) (d : PD) (c e0 : Int) (hc0 : 0 ≤ c) (hc1 : c < Q) (w : World) (hB : Hid (Below W0.heap.size W0 w)) (hF : Hid (dU W0 d.f)) (hP : Hid (fB (fun q => b < q ∧ q < s) w (fun u => jP u d))) (hs : s ≤ w.heap.size) (hS : Hid (gp w b P Q G e0)) (hdn : d.dn = false) (hk : d.f.kind = 2) (hsh : d.f.sh) (hgd : d.gd P Q G xs)
  (ih : Hid (∀ k, k < d.l.length → ∀ (c e0 : Int) (u : World), 0 ≤ c → c < Q → Hid (Below W0.heap.size W0 u) → Hid (fB (fun q => b < q ∧ q < s) u (fun v => jP v (d.l.getD k eG))) → s ≤ u.heap.size → Hid (gp u b P Q G e0) → Calls Tryz.prog 32 #[.pointer (some ⟨b, 0, none⟩), oM (d.l.getD k eG).p, .int .i64 c, .slice X xn xc] u (g_ P Q G b s (d.l.getD k eG) c e0 u))) :
  Calls Tryz.prog 32 #[.pointer (some ⟨b, 0, none⟩), oM d.p, .int .i64 c, .slice X xn xc] w (g_ P Q G b s d c e0 w) := by
 have D9 := hP.out.here
 have eP := D9.parts.1
 have hlen := D9.parts.2.1.2
 have hblt := hS.out.lt
 obtain ⟨p1, p2, p3, p4⟩ := aM hG.out
 obtain ⟨hl1, Ak⟩ : 1 ≤ d.f.l.length ∧ d.f.l.length ≤ 8 := by
  rcases d.f.sh_eq.1 hsh with ⟨h, _⟩ | ⟨_, _, _, h2, _⟩
  · omega
  · exact ⟨h2.1, h2.2⟩
 obtain ⟨g1, g2', g3⟩ : d.l.length = d.f.l.length ∧ (∀ k, k < d.l.length → (d.l.getD k eG).f = d.f.l.getD k aY ∧ (d.l.getD k eG).gd P Q G xs) ∧ ∀ k, k < d.l.length → (d.l.getD k eG).dn = false := by
  rcases (PD.gd_eq d).1 hgd with ⟨h, _⟩ | ⟨_, ⟨h, _⟩ | ⟨_, a, b, c, _⟩⟩
  · rw [hdn] at h; cases h
  · omega
  · exact ⟨a, b, c hk⟩
 have hcom := d.com_eq
 rw [if_neg (by rw [hdn]; decide), if_neg (by omega)] at hcom
 have Bg : Hid (∀ u : World, Hid (w.grownBy u (some b)) → Hid (fB (fun q => b < q ∧ q < s) u (fun v => jP v d))) := aa (fun u hu => aa (hP.out.step (fun q h1 h2 => hu.out.block q h1 (fun e => by injection e with e; omega)) hu.out.size (fun _ _ h => h)))
 have ng := aa (fun (ts : List TT) (A : Option Addr) (cap n0 : Nat) (u : World) (hr : vP P Q (c) d.f.l d.l b s ts.length ts (Value.ownBlock (.slice A ts.length cap)) n0 u) (hl : ts.length = d.l.length) (hO : fq u n0 (.slice A ts.length cap) ts) (hbn : b < n0) => And.intro (hr.andA (A := A) (cap := cap) (hl.trans g1) g1 hc0 hc1 hk g3) (And.intro ((hr.com (c := c) (A := A) (cap := cap) (hl.trans g1) g1 (by omega)).trans hcom.symm) (hr.kp (c := c) hO hbn (by omega))))
 have lY := aa (fun (k : Nat) (hk : k < d.l.length) (ts : List TT) (t : TT) (g g2 : Option Nat) (n0 : Nat) (w1 w2 : World) (h : vP P Q (c) d.f.l d.l b s k ts g n0 w1) (h1 : ts.length = k) (h2 : ((d.l.getD k eG).dn = true → t = (d.l.getD k eG).t) ∧ ((d.l.getD k eG).dn = false → t.c = (c) ∧ (d.l.getD k eG).f.acc P Q t) ∧ (d.l.getD k eG).f.com t = (d.l.getD k eG).com) (h3) (h4) => vP.next (t := t) (g2 := g2) (w2 := w2) h h1 (by
  rw [← (g2' k hk).1]
  cases hdk : (d.l.getD k eG).dn with
  | true => rw [h2.1 hdk]; exact (g2' k hk).2.gdacc hdk
  | false => exact (h2.2.1 hdk).2) (by rw [← (g2' k hk).1]; exact h2.2.2) h2.1 (fun e => (h2.2.1 e).1) h3 h4)
 have Be : Hid (∀ n0 u, vP P Q (c) d.f.l d.l b s 0 [] none n0 u) := aa (fun n0 u j hj => absurd hj (by omega))
 have zg : Hid (0 ≤ (c) ∧ (c) < Q) := aa ⟨hc0, hc1⟩
 obtain ⟨rg, hrg⟩ : ∃ z, vP P Q (c) d.f.l d.l b s = z := ⟨_, rfl⟩
 rw [hrg] at ng lY Be
 have PN := aa hdn
 unfold g_
 unfold g_ at ih
 obtain ⟨acc, hacc⟩ : ∃ z, FT.acc P Q d.f = z := ⟨_, rfl⟩
 obtain ⟨Nu, l8⟩ : ∃ z, FT.com d.f = z := ⟨_, rfl⟩
 obtain ⟨cm, hcm⟩ : ∃ z, d.com = z := ⟨_, rfl⟩
 rw [hacc, l8, hcm] at ng ⊢
 obtain ⟨f, t, p, K, kn, kc, ks, A, an, ac, ch, dn, l⟩ := d
 dsimp only at hdn hk eP hlen Ak hl1 g1 ng lY Be PN zg ih ⊢
 subst hdn
 obtain ⟨kind, Y, yn, yc, ys, B, bn, bc, rows, L, ln, lc, fl⟩ := f
 dsimp only at hk Ak hl1 g1
 obtain ⟨w1, hw1, hb1, hs1⟩ : ∃ w0, w.alloc (tO 0 none 0 0 0 none 0 0 none 0 0) = w0 ∧ Below w.heap.size w w0 ∧ w0.heap.size = w.heap.size + 1 := ⟨_, rfl, ai _ _, by simp⟩
 have hr1 : w1.heap[w.heap.size]? = some (tO 0 none 0 0 0 none 0 0 none 0 0) := by rw [← hw1]; exact heap_alloc_new _ _
 have uF := (hb1.block p (Array.getElem?_eq_some_iff.1 eP).1).trans eP
 have LD : w1.cell? ⟨p, 12, none⟩ = some (.bool false) := aj uF 12
 have HW := aa hw1
 have hQ : Q < 9223372036854775808 := by omega
 have HN := aa (And.intro hblt (And.intro hs1 (And.intro p2 (And.intro p3 p4))))
 have HB1 := aa hb1
 have HR1 := aa hr1
 have uZ := aa uF
 have hB' := hB
 have sD := hS
 have hbw : b < w.heap.size := hblt
 have d1 : (kind == 1) = false := by simp [hk]
 have d2 : (kind == 2) = true := by simp [hk]
 have hlA : l.length = an := hlen
 have ZV : an ≤ 8 := by omega
 clear hw1 hb1 hs1 eP uF hP hF hB hS hv hblt hr1 p1 p2 p3 p4 hrg hacc l8 hcm hcom hsh hgd D9 hX mq hlen g2' hG g1 hl1 g3
 obtain ⟨i0, hi, hz0, hz1, hz2⟩ := info_parts tK
 go_in
 go_upto_region 1 with (fail)
 rw [show w.alloc (tO 0 none 0 0 0 none 0 0 none 0 0) = w1 from HW.out]
 go_upto_region 4 with (fail)
 obtain ⟨w0, hw0, HB2, hs2, -, -⟩ := su (tO c none 0 0 0 none 0 0 none 0 0) Br w1
 have ht0 : w0.heap[w1.heap.size]? = some (tO c none 0 0 0 none 0 0 none 0 0) := by rw [← hw0]; exact heap_alloc_new _ _
 rw [hw0]
 clear hw0 LD hs2
 obtain ⟨tb, htb⟩ : ∃ z, w1.heap.size = z := ⟨_, rfl⟩
 have j_ := (HB2.out.block p (Array.getElem?_eq_some_iff.1 uZ.out).1).trans uZ.out
 have S_ : Hid (w.grownBy w0 (some b)) := aa (ax (aC HB1.out (some b)) (aC HB2.out (some b)))
 have HT0 : Hid (w0.heap[w.heap.size]? = some (tO 0 none 0 0 0 none 0 0 none 0 0) ∧ w0.heap[tb]? = some (tO c none 0 0 0 none 0 0 none 0 0) ∧ w.heap.size + 2 ≤ w0.heap.size) := aa (by
  have := HB2.out.size
  have h2 := HN.out
  have hlt := (Array.getElem?_eq_some_iff.1 ht0).1
  exact ⟨(HB2.out.block _ (by omega)).trans HR1.out, by rw [← htb]; exact ht0, by omega⟩)
 have nV : Hid (tb = w.heap.size + 1) := aa (by have := HN.out; omega)
 have nE : Hid (gp w0 b P Q G e0) := aa ((sD.out.below HB1.out).below HB2.out)
 rw [htb]
 clear htb ht0
 have o0 : w0.cell? ⟨p, 0, none⟩ = some (.int .i64 kind) := aj j_ 0
 have Nh : w0.cell? ⟨p, 10, none⟩ = some (.slice A an ac) := aj j_ 10
 have V8 := aa j_
 clear j_ HB1 HB2 sD uZ HR1 HW
 go_wp2_with fail
 clear o0 Nh d1 d2 hk
 go_loopw [139] (fun vi wr => ∃ (k : Nat) (e : Int) (v : Value) (ts : List TT), k ≤ an ∧ vi = .int .i64 k ∧ ts.length = k ∧ Hid (gp wr b P Q G e) ∧ Hid (w.grownBy wr (some b)) ∧
  Hid (wr.heap[w.heap.size]? = some (tO 0 none 0 0 0 none 0 0 none 0 0) ∧ wr.heap[tb]? = some (.cells #[.int .i64 c, .slice none 0 0, .int .i64 0, .slice none 0 0, v] 39) ∧ w.heap.size + 2 ≤ wr.heap.size) ∧
  Hid (fq wr (w.heap.size + 2) v ts) ∧ Hid (e = 0 → e0 = 0 ∧ rg k ts v.ownBlock (w.heap.size + 2) wr)) (fun vi _ => an - (intOf vi).toNat)
 case atStart => exact ⟨0, e0, .slice none 0 0, [], by omega, rfl, rfl, nE, S_, HT0, aa (World.ownsRow_nil _ _ _ _), aa (fun e => ⟨e, Be.out _ _⟩)⟩
 case round =>
  obtain ⟨k, e, v, ts, hk, rfl, hts, HP, iq, HM, HO, HE⟩ := hrel
  clear nE S_ HT0
  by_cases hlt : k < an
  case neg =>
   obtain rfl : k = an := by omega
   obtain ⟨A2, cap, rfl⟩ := HO.out.form
   have iW := aa hts
   have HR := aa HM.out.1
   have t0 : wr.cell? ⟨tb, 0, none⟩ = some (.int .i64 c) := aj HM.out.2.1 0
   have t1 : wr.cell? ⟨tb, 1, none⟩ = some (.slice none 0 0) := aj HM.out.2.1 1
   have t2 : wr.cell? ⟨tb, 2, none⟩ = some (.int .i64 0) := aj HM.out.2.1 2
   have t3 : wr.cell? ⟨tb, 3, none⟩ = some (.slice none 0 0) := aj HM.out.2.1 3
   have t4 : wr.cell? ⟨tb, 4, none⟩ = some (.slice A2 ts.length cap) := aj HM.out.2.1 4
   have GI : Hid (e = 0 → e0 = 0 ∧ acc ⟨c, none, 0, 0, [], 0, none, 0, 0, [], A2, ts.length, cap, ts⟩ ∧ Nu ⟨c, none, 0, 0, [], 0, none, 0, 0, [], A2, ts.length, cap, ts⟩ = cm ∧ fB (fun q => b < q ∧ (q < s ∨ w.heap.size + 2 ≤ q)) wr (fun u => bI u ⟨c, none, 0, 0, [], 0, none, 0, 0, [], A2, ts.length, cap, ts⟩)) := aa (fun h => by
    obtain ⟨h1, h2⟩ := HE.out h
    rw [← iW.out] at h2
    exact ⟨h1, ng.out _ _ _ _ _ h2 (by rw [iW.out, hlA]) HO.out (by omega)⟩)
   clear hts HE HO ng lY ih Bg
   go_wp2_with (first | ((with_reducible show wpList _ _ _ (⟨none, Op.store _ (Operand.tmp 8) _, _, _, _, _⟩ :: _) _ _); refine wpList_store_row rfl 39 _ _ rfl w.heap.size (iU c none 0 0 0 none 0 0 A2 ts.length cap) rfl rfl _ _ HR.out bE rfl (dP _ _ _ _ _ _ _ _ _ _ _) ?_) | fail)
   refine bodyPost_ret (v := .agg (iU c none 0 0 0 none 0 0 A2 ts.length cap)) (bM (p := 8) (ty := 39) rfl _ _ ⟨w.heap.size, 0, none⟩ _ rfl (run_loadVar_row _ _ _ _ _ _ _ (setRow_heap _ _ _ _ _ _ HR.out) Tryz.underlying39 rfl bE)) rfl ?_
   refine ⟨e, ⟨c, none, 0, 0, [], 0, none, 0, 0, [], A2, ts.length, cap, ts⟩, rfl, HP.out.agree (setRow_other _ _ _ _ (by omega)), bS iq.out _ (by omega) _, fun h => ?_⟩
   obtain ⟨h1, h2, h3, h4⟩ := GI.out h
   exact ⟨h1, fun h => (by cases h), fun _ => ⟨rfl, h2⟩, h3, h4.step (fun q k1 k2 => setRow_other _ _ _ _ (by have h9 : q < s ∨ w.heap.size + 2 ≤ q := k2.2; omega)) (by rw [setRow_size]; exact Nat.le_refl _) (fun q k1 k2 => ⟨k2.1, by have h9 : q < s ∨ w.heap.size + 2 ≤ q := k2.2; omega⟩)⟩
  have hkl : k < l.length := by omega
  have iW := aa hts
  obtain ⟨bb, oo, hA, j0⟩ := (Bg.out _ iq).out.here.parts.2.2.2.2.1 k hkl
  dsimp only at hA j0
  subst hA
  have hcl := ih.out k hkl
  have hkc : ∀ u : World, Hid (w.grownBy u (some b)) → Hid (fB (fun q => b < q ∧ q < s) u (fun v => jP v (l.getD k eG))) := fun u hu => aa (fun v hv => ((Bg.out u hu).out v hv).parts.2.2.2.2.2.get hkl)
  have hnk := lY.out k hkl
  obtain ⟨x, hx⟩ : ∃ x, l.getD k eG = x := ⟨_, rfl⟩
  rw [hx] at hcl hkc hnk j0
  obtain ⟨xp, hxp⟩ : ∃ z, x.p = z := ⟨_, rfl⟩
  rw [hxp] at hcl j0
  have fQ := aa hcl
  have SH := aa hkc
  have qm := aa hnk
  clear hcl hkc hnk hx hxp hkl hts
  go_upto_region 25 with (fail)
  clear j0
  have hnb : tb ≠ b := by have := nV.out; omega
  have hO : Hid (∀ u : World, Hid (wr.grownBy u (some b)) → (u.cell? ⟨tb, 4, none⟩ = some v ∧ u.cell? ⟨tb, 0, none⟩ = some (.int .i64 c))) := aa (fun u hu => ⟨aI hu.out hnb (aj HM.out.2.1 4), aI hu.out hnb (aj HM.out.2.1 0)⟩)
  refine BK (fun u => wr.grownBy u (some b)) [8, 9, 10] (aa (aC (Below.refl _ _).drew _)) (fun hHeld => ?_)
  refine aX 0 1 2 3 ?_
  refine aQ 4 ?_
  refine aQ 5 ?_
  refine dO 6 fun K hK => ?_
  go_simp
  refine (fQ.out (c) e _ zg.out.1 zg.out.2 (dx hB' iG rfl (ax iq.out hHeld.out)) (SH.out _ (aa (ax iq.out hHeld.out))) (Nat.le_trans hs (ax iq.out hHeld.out).size) (aa (HP.out.agree rfl))).mono ?_
  rintro e_ w5 ⟨e5, t, rfl, uD, hg5, h5⟩
  refine hK.out _ _ (aa (ax hHeld.out hg5)) (fun hHeld => ?_)
  clear hK K
  have ku := aa uD
  have H5 := aa h5
  clear uD hg5 h5
  refine dO 7 fun K hK => ?_
  rw [show (if Region.wanted _ _ = true then _ else _ : Prop) = _ from if_pos rfl]
  refine GX 37 39 _ rfl t i0 Tryz.underlying37 hi hz0 hz1 rfl ?_
  refine hK.out _ _ (aa (bT hHeld.out _)) (fun hHeld => ?_)
  clear hK K
  obtain ⟨w6, pM, iT, -, -, k6⟩ := su (.cells #[.int .i64 t.c, .slice t.A t.na t.ca, .int .i64 t.pc, .slice t.Z t.nz t.cz, .slice t.L t.ln t.lc] 39) Br w5
  rw [pM] at hHeld ⊢
  clear pM
  obtain ⟨s0, s1, s2, s3, s4⟩ := k6.out _ (dS w6)
  have cO := hHeld.out
  have oI : fq w6 (w.heap.size + 2) v ts := HO.out.agree (fun g hg => cO.block g (HO.out.lt g hg).2 (fun e => by injection e with e; have := (HO.out.lt g hg).1; omega))
  have hs6 : w.heap.size + 2 ≤ w6.heap.size := by have := cO.size; have := HM.out.2.2; omega
  refine mo 8 fun K hK => ?_
  rw [show (if Region.wanted _ _ = true then _ else _ : Prop) = _ from if_pos rfl]
  refine wp_append_lies _ _ _ 37 rfl (w.heap.size + 2) 39 i0 _ 5 88 Tryz.underlying37 hi hz0 hz1 hz2 rfl (by decide) v ts.length (ts.flatMap tC) rfl oI ⟨w5.heap.size, 0, none⟩ 1 1 (tC t) rfl rfl (fun j u hj => by
   have Cq : j < 5 := (List.getElem?_eq_some_iff.1 hj).1
   rw [iK, Nat.zero_add]
   match j, Cq, hj with
   | 0, _, hj => cases hj; exact s0
   | 1, _, hj => cases hj; exact s1
   | 2, _, hj => cases hj; exact s2
   | 3, _, hj => cases hj; exact s3
   | 4, _, hj => cases hj; exact s4) (fun u hu => tN [t] u (by simpa using hu)) (by omega) (by unfold maxLen; rw [iW.out]; omega) (by rw [iW.out]; omega) hs6 w6.heap.size rfl ?_
  intro g cap w7 dM aR oC oq
  refine hK.out _ _ ?_
  clear hK K
  clear s0 s1 s2 s3 s4
  have hnew : ∀ q, v.ownBlock = some q → w.heap.size + 2 ≤ q := fun q e => (HO.out.lt q e).1
  have ji : ∀ q, q < w.heap.size + 2 → w7.heap[q]? = w6.heap[q]? := fun q hq => aR.block q (by omega) (fun e => by have := hnew q e.symm; omega)
  have kU : ∀ q, q < w.heap.size + 2 → q ≠ b → w6.heap[q]? = wr.heap[q]? := fun q hq hne => cO.block q (by have := HM.out.2.2; omega) (fun e => hne (by injection e with e))
  have lW : Hid (w7.heap[tb]? = some (.cells #[.int .i64 c, .slice none 0 0, .int .i64 0, .slice none 0 0, v] 39)) := aa ((ji _ (by have := nV.out; omega)).trans ((kU _ (by have := nV.out; omega) hnb).trans HM.out.2.1))
  have y4 : w7.cell? ⟨tb, 4, none⟩ = some v := aj lW.out 4
  have y5 : w7.frozen? ⟨tb, 4, none⟩ = false := aS lW.out 4
  refine mo 9 fun K hK => ?_
  go_simp
  refine hK.out _ _ ?_
  clear hK K
  refine mo 10 fun K hK => ?_
  go_simp
  refine hK.out _ _ ?_
  clear hK K
  refine jf ?_
  clear hO y4 y5
  obtain ⟨v2, hv2⟩ : ∃ z, Value.slice (some ⟨g, 0, none⟩) (ts.length + 1) cap = z := ⟨_, rfl⟩
  have eP : v2.ownBlock = some g := by rw [← hv2]; rfl
  rw [hv2] at dM ⊢
  have oH : Hid ((w7.setCell ⟨tb, 4, none⟩ v2).heap[tb]? = some (.cells #[.int .i64 c, .slice none 0 0, .int .i64 0, .slice none 0 0, v2] 39)) := aa (heap_setCell_same w7 tb 4 _ _ _ lW.out)
  have hoth : ∀ q, q ≠ tb → (w7.setCell ⟨tb, 4, none⟩ v2).heap[q]? = w7.heap[q]? := fun q hq => Go.Deep.blk_setCell_other _ _ _ _ hq
  have gG : (w7.setCell ⟨tb, 4, none⟩ v2).heap.size = w7.heap.size := World.size_setCell _ _ _
  have vk : Hid (w.grownBy (w7.setCell ⟨tb, 4, none⟩ v2) (some b)) := aa (dh (mR (ax iq.out cO) aR (fun q e => by have := hnew q e; omega)) (by have := nV.out; omega) v2)
  obtain ⟨w8, hw8⟩ : ∃ u, w7.setCell ⟨tb, 4, none⟩ v2 = u := ⟨_, rfl⟩
  rw [hw8] at oH hoth vk gG ⊢
  have hg3 : w.heap.size + 2 ≤ g := by
   rcases oC with h | h
   · exact hnew g h
   · omega
  have Dk : Hid (gp w8 b P Q G e5) := aa (ku.out.agree (((hoth b (Ne.symm hnb)).trans (ji b (by omega))).trans (iT.out.block b ku.out.lt)))
  have Dn : Hid (w8.heap[w.heap.size]? = some (tO 0 none 0 0 0 none 0 0 none 0 0) ∧ w8.heap[tb]? = some (.cells #[.int .i64 c, .slice none 0 0, .int .i64 0, .slice none 0 0, v2] 39) ∧ w.heap.size + 2 ≤ w8.heap.size) := aa ⟨(hoth _ (by have := nV.out; omega)).trans ((ji _ (by omega)).trans ((kU _ (by omega) (by omega)).trans HM.out.1)), oH.out, by have := aR.size; omega⟩
  have Dm : Hid (fq w8 (w.heap.size + 2) v2 (ts ++ [t])) := aa (fq.agree (w := w7) (by
   unfold fq
   rw [List.length_append, List.length_singleton, List.flatMap_append, List.flatMap_singleton]
   exact dM) (fun q e => by rw [eP] at e; injection e with e; exact hoth q (by have := nV.out; omega)))
  have ou : ∀ R, fB (fun q => b < q ∧ (q < s ∨ (w.heap.size + 2 ≤ q ∧ v.ownBlock ≠ some q))) w6 R → fB (fun q => b < q ∧ (q < s ∨ (w.heap.size + 2 ≤ q ∧ v2.ownBlock ≠ some q))) w8 R := fun R h => by
   have hT := nV.out
   refine fB.step h (fun q h1 h2 => (hoth q (by have h9 : q < s ∨ (w.heap.size + 2 ≤ q ∧ v.ownBlock ≠ some q) := h2.2; omega)).trans (aR.block q h1 (fun e => ?_))) (by rw [gG]; exact aR.size) (fun q h1 h2 => ⟨h2.1, ?_⟩)
   ·
    rcases h2.2 with h3 | h3
    · have := hnew q e.symm; omega
    · exact h3.2 e.symm
   ·
    rcases h2.2 with h3 | h3
    · exact .inl h3
    ·
     refine .inr ⟨h3.1, fun e => ?_⟩
     rw [eP] at e
     injection e with e
     subst e
     rcases oC with h | h
     · exact h3.2 h
     · omega
  have Dq : Hid (e5 = 0 → e0 = 0 ∧ rg (k + 1) (ts ++ [t]) v2.ownBlock (w.heap.size + 2) w8) := aa (fun h0 => by
   obtain ⟨a1, a2, a3, a4, a5⟩ := H5.out h0
   obtain ⟨b1, b2⟩ := HE.out a1
   refine ⟨b1, qm.out ts t _ _ _ _ _ b2 iW.out ⟨a2, a3, a4⟩ (fun R h => ou R (fB.step h (fun q h1 h2 => cO.block q h1 (fun e => by injection e with e; omega)) cO.size (fun _ _ h => h))) (ou _ (fB.step a5 (fun q h1 h2 => iT.out.block q h1) iT.out.size (fun q h1 h2 => ⟨h2.1, ?_⟩)))⟩
   rcases h2.2 with h3 | h3
   · exact .inl h3
   ·
    have h9 : wr.drew.heap.size = wr.heap.size := rfl
    exact .inr ⟨by have := HM.out.2.2; omega, fun e => by have h8 := (HO.out.lt q e).2; omega⟩)
  clear hw8 hoth gG ou oH lW ji kU dM aR oC oq cO oI hs6 eP hv2 hnew H5 ku iT k6 hHeld qm fQ SH HE HO HM HP iq hnb
  go_wp2
  go_roundw
  case rel => exact ⟨k + 1, e5, v2, ts ++ [t], by omega, by go_num, by rw [List.length_append, List.length_singleton, iW.out], Dk, vk, Dn, Dm, Dq⟩
  case measure => simp [intOf]; omega
theorem BL (P Q G : Int) (hG : Hid (aJ P Q G = true)) (W0 : World) (b : Nat) (iG : W0.heap.size ≤ b) (hv : Hid (Vars W0)) (X : Option Addr) (xs : List Int) (xn xc : Nat) (hX : Hid (Sl W0 X xs)) (mq : Hid (xs.length = xn)) (qp : xn ≤ xc) (s : Nat) (d : PD) (c e0 : Int) (hc0 : 0 ≤ c) (hc1 : c < Q) (w : World) (hB : Hid (Below W0.heap.size W0 w)) (hF : Hid (dU W0 d.f)) (hP : Hid (fB (fun q => b < q ∧ q < s) w (fun u => jP u d))) (hs : s ≤ w.heap.size) (hS : Hid (gp w b P Q G e0)) (hdn : d.dn = false) (hk : d.f.kind = 3) (hsh : d.f.sh) (hgd : d.gd P Q G xs)
  (ih : Hid (∀ k, k < d.l.length → ∀ (c e0 : Int) (u : World), 0 ≤ c → c < Q → Hid (Below W0.heap.size W0 u) → Hid (fB (fun q => b < q ∧ q < s) u (fun v => jP v (d.l.getD k eG))) → s ≤ u.heap.size → Hid (gp u b P Q G e0) → Calls Tryz.prog 32 #[.pointer (some ⟨b, 0, none⟩), oM (d.l.getD k eG).p, .int .i64 c, .slice X xn xc] u (g_ P Q G b s (d.l.getD k eG) c e0 u))) :
  Calls Tryz.prog 32 #[.pointer (some ⟨b, 0, none⟩), oM d.p, .int .i64 c, .slice X xn xc] w (g_ P Q G b s d c e0 w) := by
 have D9 := hP.out.here
 have eP := D9.parts.1
 have hlen := D9.parts.2.1.2
 have hblt := hS.out.lt
 obtain ⟨p1, p2, p3, p4⟩ := aM hG.out
 obtain ⟨hl1, Ak⟩ : 1 ≤ d.f.l.length ∧ d.f.l.length ≤ 8 := by
  rcases d.f.sh_eq.1 hsh with ⟨h, _⟩ | ⟨_, _, _, h2, _⟩
  · omega
  · exact ⟨h2.1, h2.2⟩
 obtain ⟨g1, g2', j, hj, hch, g3⟩ : d.l.length = d.f.l.length ∧ (∀ k, k < d.l.length → (d.l.getD k eG).f = d.f.l.getD k aY ∧ (d.l.getD k eG).gd P Q G xs) ∧ ∃ j, j < d.l.length ∧ d.ch = (j : Int) ∧ ∀ k, k < d.l.length → (d.l.getD k eG).dn = decide (k ≠ j) := by
  rcases (PD.gd_eq d).1 hgd with ⟨h, _⟩ | ⟨_, ⟨h, _⟩ | ⟨_, a, b, _, c⟩⟩
  · rw [hdn] at h; cases h
  · omega
  · exact ⟨a, b, c (by omega)⟩
 have hcom := d.com_eq
 rw [if_neg (by rw [hdn]; decide), if_neg (by omega)] at hcom
 have Bg : Hid (∀ u : World, Hid (w.grownBy u (some b)) → Hid (fB (fun q => b < q ∧ q < s) u (fun v => jP v d))) := aa (fun u hu => aa (hP.out.step (fun q h1 h2 => hu.out.block q h1 (fun e => by injection e with e; omega)) hu.out.size (fun _ _ h => h)))
 have ng := aa (fun (ts : List TT) (A : Option Addr) (cap n0 : Nat) (u : World) (hr : vP P Q (qI Q c j d.l d.l.length) d.f.l d.l b s ts.length ts (Value.ownBlock (.slice A ts.length cap)) n0 u) (hl : ts.length = d.l.length) (hO : fq u n0 (.slice A ts.length cap) ts) (hbn : b < n0) => And.intro (hr.orA (A := A) (cap := cap) (hl.trans g1) g1 hc0 hc1 hk hj g3) (And.intro ((hr.com (c := c) (A := A) (cap := cap) (hl.trans g1) g1 (by omega)).trans hcom.symm) (hr.kp (c := c) hO hbn (by omega))))
 have lY := aa (fun (k : Nat) (hk : k < d.l.length) (ts : List TT) (t : TT) (g g2 : Option Nat) (n0 : Nat) (w1 w2 : World) (h : vP P Q (qI Q c j d.l d.l.length) d.f.l d.l b s k ts g n0 w1) (h1 : ts.length = k) (h2 : ((d.l.getD k eG).dn = true → t = (d.l.getD k eG).t) ∧ ((d.l.getD k eG).dn = false → t.c = (qI Q c j d.l d.l.length) ∧ (d.l.getD k eG).f.acc P Q t) ∧ (d.l.getD k eG).f.com t = (d.l.getD k eG).com) (h3) (h4) => vP.next (t := t) (g2 := g2) (w2 := w2) h h1 (by
  rw [← (g2' k hk).1]
  cases hdk : (d.l.getD k eG).dn with
  | true => rw [h2.1 hdk]; exact (g2' k hk).2.gdacc hdk
  | false => exact (h2.2.1 hdk).2) (by rw [← (g2' k hk).1]; exact h2.2.2) h2.1 (fun e => (h2.2.1 e).1) h3 h4)
 have Be : Hid (∀ n0 u, vP P Q (qI Q c j d.l d.l.length) d.f.l d.l b s 0 [] none n0 u) := aa (fun n0 u j hj => absurd hj (by omega))
 have zg : Hid (0 ≤ (qI Q c j d.l d.l.length) ∧ (qI Q c j d.l d.l.length) < Q) := aa Ci hc0 hc1 _
 have vB : Hid (qI Q c j d.l 0 = c ∧ (∀ k, 0 ≤ qI Q c j d.l k ∧ qI Q c j d.l k < Q) ∧ (∀ k, k = j → qI Q c j d.l (k + 1) = qI Q c j d.l k) ∧ (∀ k, k ≠ j → qI Q c j d.l (k + 1) = (qI Q c j d.l k - (d.l.getD k eG).t.c + Q) % Q) ∧ ∀ k, k < d.l.length → k ≠ j → 0 ≤ (d.l.getD k eG).t.c ∧ (d.l.getD k eG).t.c < Q) := aa ⟨rfl, fun k => Ci hc0 hc1 k, fun k h => by rw [qI, if_pos h], fun k h => by rw [qI, if_neg h], fun k hk hkj => En ((g2' k hk).2.gdacc ((g3 k hk).trans (by simp [hkj])))⟩
 obtain ⟨UF, Ra⟩ : ∃ z, qI Q c j d.l = z := ⟨_, rfl⟩
 rw [Ra] at ng lY Be zg vB
 obtain ⟨rg, hrg⟩ : ∃ z, vP P Q (UF d.l.length) d.f.l d.l b s = z := ⟨_, rfl⟩
 rw [hrg] at ng lY Be
 have PN := aa hdn
 unfold g_
 unfold g_ at ih
 obtain ⟨acc, hacc⟩ : ∃ z, FT.acc P Q d.f = z := ⟨_, rfl⟩
 obtain ⟨Nu, l8⟩ : ∃ z, FT.com d.f = z := ⟨_, rfl⟩
 obtain ⟨cm, hcm⟩ : ∃ z, d.com = z := ⟨_, rfl⟩
 rw [hacc, l8, hcm] at ng ⊢
 obtain ⟨f, t, p, K, kn, kc, ks, A, an, ac, ch, dn, l⟩ := d
 dsimp only at hdn hk eP hlen Ak hl1 g1 ng lY Be PN zg ih hch vB ⊢
 subst hdn
 obtain ⟨kind, Y, yn, yc, ys, B, bn, bc, rows, L, ln, lc, fl⟩ := f
 dsimp only at hk Ak hl1 g1
 obtain ⟨w1, hw1, hb1, hs1⟩ : ∃ w0, w.alloc (tO 0 none 0 0 0 none 0 0 none 0 0) = w0 ∧ Below w.heap.size w w0 ∧ w0.heap.size = w.heap.size + 1 := ⟨_, rfl, ai _ _, by simp⟩
 have hr1 : w1.heap[w.heap.size]? = some (tO 0 none 0 0 0 none 0 0 none 0 0) := by rw [← hw1]; exact heap_alloc_new _ _
 have uF := (hb1.block p (Array.getElem?_eq_some_iff.1 eP).1).trans eP
 have LD : w1.cell? ⟨p, 12, none⟩ = some (.bool false) := aj uF 12
 have HW := aa hw1
 have hQ : Q < 9223372036854775808 := by omega
 have HN := aa (And.intro hblt (And.intro hs1 (And.intro p2 (And.intro p3 p4))))
 have HB1 := aa hb1
 have HR1 := aa hr1
 have uZ := aa uF
 have hB' := hB
 have sD := hS
 have hbw : b < w.heap.size := hblt
 have d1 : (kind == 1) = false := by simp [hk]
 have d2 : (kind == 2) = false := by simp [hk]
 have hlA : l.length = an := hlen
 have ZV : an ≤ 8 := by omega
 clear Ra hj
 clear hw1 hb1 hs1 eP uF hP hF hB hS hv hblt hr1 p1 p2 p3 p4 hrg hacc l8 hcm hcom hsh hgd D9 hX mq hlen g2' hG g1 hl1 g3
 obtain ⟨i0, hi, hz0, hz1, hz2⟩ := info_parts tK
 go_in
 go_upto_region 1 with (fail)
 rw [show w.alloc (tO 0 none 0 0 0 none 0 0 none 0 0) = w1 from HW.out]
 go_upto_region 4 with (fail)
 obtain ⟨w0, hw0, HB2, hs2, -, -⟩ := su (tO c none 0 0 0 none 0 0 none 0 0) Br w1
 have ht0 : w0.heap[w1.heap.size]? = some (tO c none 0 0 0 none 0 0 none 0 0) := by rw [← hw0]; exact heap_alloc_new _ _
 rw [hw0]
 clear hw0 LD hs2
 obtain ⟨tb, htb⟩ : ∃ z, w1.heap.size = z := ⟨_, rfl⟩
 have j_ := (HB2.out.block p (Array.getElem?_eq_some_iff.1 uZ.out).1).trans uZ.out
 have S_ : Hid (w.grownBy w0 (some b)) := aa (ax (aC HB1.out (some b)) (aC HB2.out (some b)))
 have HT0 : Hid (w0.heap[w.heap.size]? = some (tO 0 none 0 0 0 none 0 0 none 0 0) ∧ w0.heap[tb]? = some (tO c none 0 0 0 none 0 0 none 0 0) ∧ w.heap.size + 2 ≤ w0.heap.size) := aa (by
  have := HB2.out.size
  have h2 := HN.out
  have hlt := (Array.getElem?_eq_some_iff.1 ht0).1
  exact ⟨(HB2.out.block _ (by omega)).trans HR1.out, by rw [← htb]; exact ht0, by omega⟩)
 have nV : Hid (tb = w.heap.size + 1) := aa (by have := HN.out; omega)
 have nE : Hid (gp w0 b P Q G e0) := aa ((sD.out.below HB1.out).below HB2.out)
 rw [htb]
 clear htb ht0
 have o0 : w0.cell? ⟨p, 0, none⟩ = some (.int .i64 kind) := aj j_ 0
 have Nh : w0.cell? ⟨p, 10, none⟩ = some (.slice A an ac) := aj j_ 10
 have V8 := aa j_
 clear j_ HB1 HB2 sD uZ HR1 HW
 go_wp2_with fail
 clear o0 Nh d1 d2 hk
 go_loopw [12, 38] (fun vl vi wr => ∃ (k : Nat) (y : Int), k ≤ an ∧ vi = .int .i64 k ∧ vl = .int .i64 y ∧ 0 ≤ y ∧ y < Q ∧ Hid (UF k = y) ∧ Hid (Below w0.heap.size w0 wr)) (fun _ vi _ => an - (intOf vi).toNat)
 case atStart => exact ⟨0, c, by omega, rfl, rfl, hc0, hc1, aa vB.out.1, dS w0⟩
 case round =>
  obtain ⟨k, y, hk, rfl, rfl, hy0, hy1, HY, aF⟩ := hrel
  have iq : Hid (w.grownBy wr (some b)) := aa (ax S_.out (aC aF.out (some b)))
  have Qe := (Bg.out _ iq).out.here.parts
  by_cases hlt : k < an
  ·
   have hkl : k < l.length := by omega
   obtain ⟨bb, oo, hA, j0⟩ := Qe.2.2.2.2.1 k hkl
   have o11 : wr.cell? ⟨p, 11, none⟩ = some (.int .i64 (j : Int)) := by rw [← hch]; exact aj Qe.1 11
   have qp : wr.heap[(l.getD k eG).p]? = _ := (Qe.2.2.2.2.2.get hkl).parts.1
   have x4 : wr.cell? ⟨(l.getD k eG).p, 4, none⟩ = some (.int .i64 (l.getD k eG).t.c) := aj qp 4
   dsimp only at hA j0
   subst hA
   have hst := vB.out.2.2.1 k
   have uC := vB.out.2.2.2.1 k
   have hrg := vB.out.2.2.2.2 k hkl
   obtain ⟨xp, hxp⟩ : ∃ z, (l.getD k eG).p = z := ⟨_, rfl⟩
   obtain ⟨tc, htc⟩ : ∃ z, (l.getD k eG).t.c = z := ⟨_, rfl⟩
   rw [hxp] at j0 x4
   rw [htc] at x4 uC hrg
   rw [HY.out] at hst uC
   obtain ⟨-, q1, -⟩ := (nE.out.below aF.out).c0
   clear hxp htc Qe qp hkl
   by_cases hkj : k = j
   ·
    have HST := aa (hst hkj)
    have d5 : ((k : Int) == (j : Int)) = true := by simp [hkj]
    clear hst uC hrg x4 q1 hkj
    go_wp2
    go_roundw
    case rel => exact ⟨k + 1, y, by omega, by go_num, rfl, hy0, hy1, HST, aF⟩
    case measure => simp [intOf]; omega
   ·
    have MV := uC hkj
    have d5 : ((k : Int) == (j : Int)) = false := by simp; omega
    obtain ⟨r0, r1⟩ := hrg hkj
    have TM : 0 < Q := by omega
    have Vp : Q < 2305843009213693952 := by have := HN.out; omega
    have hz0 := Int.emod_nonneg (y - tc + Q) (by omega : Q ≠ 0)
    have hz1 := Int.emod_lt_of_pos (y - tc + Q) TM
    obtain ⟨z, hz⟩ : ∃ z, (y - tc + Q) % Q = z := ⟨_, rfl⟩
    rw [hz] at MV hz0 hz1
    have HZ := aa hz
    have HS := aa MV
    clear hst uC hrg hkj MV hz
    go_upto_region 10 with (fail)
    go_quiet (fail)
    rw [HZ.out]
    have Uq : Hid (Below w0.heap.size w0 (wr.drewN nq)) := aa (ay aF.out _)
    go_wp2
    go_roundw
    case rel => exact ⟨k + 1, z, by omega, by go_num, rfl, hz0, hz1, HS, Uq⟩
    case measure => simp [intOf]; omega
  have hke : an = k := by omega
  subst hke
  have X7 : Hid (UF l.length = y) := aa (by rw [hlA]; exact HY.out)
  rw [X7.out] at lY zg
  have Nh : wr.cell? ⟨p, 10, none⟩ = some (.slice A an ac) := aj Qe.1 10
  obtain ⟨lf, hlf⟩ : ∃ z, y = z := ⟨_, rfl⟩
  subst hlf
  have lX := aa (nE.out.below aF.out)
  have M9 := iq
  have HT1 : Hid (wr.heap[w.heap.size]? = some (tO 0 none 0 0 0 none 0 0 none 0 0) ∧ wr.heap[tb]? = some (tO c none 0 0 0 none 0 0 none 0 0) ∧ w.heap.size + 2 ≤ wr.heap.size) := aa (by
   have h := HT0.out
   have h2 := nV.out
   have h3 := aF.out.size
   exact ⟨(aF.out.block _ (by omega)).trans h.1, (aF.out.block _ (by omega)).trans h.2.1, by omega⟩)
  obtain ⟨wo, rfl⟩ : ∃ u, u = wr := ⟨_, rfl⟩
  clear Qe nE S_ HT0 aF HY X7 vB iq hlt hk hch
  go_wp2_with fail
  clear Nh
  go_loopw [74] (fun vi wr => ∃ (k : Nat) (e : Int) (v : Value) (ts : List TT), k ≤ an ∧ vi = .int .i64 k ∧ ts.length = k ∧ Hid (gp wr b P Q G e) ∧ Hid (w.grownBy wr (some b)) ∧
   Hid (wr.heap[w.heap.size]? = some (tO 0 none 0 0 0 none 0 0 none 0 0) ∧ wr.heap[tb]? = some (.cells #[.int .i64 c, .slice none 0 0, .int .i64 0, .slice none 0 0, v] 39) ∧ w.heap.size + 2 ≤ wr.heap.size) ∧
   Hid (fq wr (w.heap.size + 2) v ts) ∧ Hid (e = 0 → e0 = 0 ∧ rg k ts v.ownBlock (w.heap.size + 2) wr)) (fun vi _ => an - (intOf vi).toNat)
  case atStart => exact ⟨0, e0, .slice none 0 0, [], by omega, rfl, rfl, lX, M9, HT1, aa (World.ownsRow_nil _ _ _ _), aa (fun e => ⟨e, Be.out _ _⟩)⟩
  case round =>
   obtain ⟨k, e, v, ts, hk, rfl, hts, HP, iq, HM, HO, HE⟩ := hrel
   clear lX M9 HT1
   by_cases hlt : k < an
   case neg =>
    obtain rfl : k = an := by omega
    obtain ⟨A2, cap, rfl⟩ := HO.out.form
    have iW := aa hts
    have HR := aa HM.out.1
    have t0 : wr.cell? ⟨tb, 0, none⟩ = some (.int .i64 c) := aj HM.out.2.1 0
    have t1 : wr.cell? ⟨tb, 1, none⟩ = some (.slice none 0 0) := aj HM.out.2.1 1
    have t2 : wr.cell? ⟨tb, 2, none⟩ = some (.int .i64 0) := aj HM.out.2.1 2
    have t3 : wr.cell? ⟨tb, 3, none⟩ = some (.slice none 0 0) := aj HM.out.2.1 3
    have t4 : wr.cell? ⟨tb, 4, none⟩ = some (.slice A2 ts.length cap) := aj HM.out.2.1 4
    have GI : Hid (e = 0 → e0 = 0 ∧ acc ⟨c, none, 0, 0, [], 0, none, 0, 0, [], A2, ts.length, cap, ts⟩ ∧ Nu ⟨c, none, 0, 0, [], 0, none, 0, 0, [], A2, ts.length, cap, ts⟩ = cm ∧ fB (fun q => b < q ∧ (q < s ∨ w.heap.size + 2 ≤ q)) wr (fun u => bI u ⟨c, none, 0, 0, [], 0, none, 0, 0, [], A2, ts.length, cap, ts⟩)) := aa (fun h => by
     obtain ⟨h1, h2⟩ := HE.out h
     rw [← iW.out] at h2
     exact ⟨h1, ng.out _ _ _ _ _ h2 (by rw [iW.out, hlA]) HO.out (by omega)⟩)
    clear hts HE HO ng lY ih Bg
    go_wp2_with (first | ((with_reducible show wpList _ _ _ (⟨none, Op.store _ (Operand.tmp 8) _, _, _, _, _⟩ :: _) _ _); refine wpList_store_row rfl 39 _ _ rfl w.heap.size (iU c none 0 0 0 none 0 0 A2 ts.length cap) rfl rfl _ _ HR.out bE rfl (dP _ _ _ _ _ _ _ _ _ _ _) ?_) | fail)
    refine bodyPost_ret (v := .agg (iU c none 0 0 0 none 0 0 A2 ts.length cap)) (bM (p := 8) (ty := 39) rfl _ _ ⟨w.heap.size, 0, none⟩ _ rfl (run_loadVar_row _ _ _ _ _ _ _ (setRow_heap _ _ _ _ _ _ HR.out) Tryz.underlying39 rfl bE)) rfl ?_
    refine ⟨e, ⟨c, none, 0, 0, [], 0, none, 0, 0, [], A2, ts.length, cap, ts⟩, rfl, HP.out.agree (setRow_other _ _ _ _ (by omega)), bS iq.out _ (by omega) _, fun h => ?_⟩
    obtain ⟨h1, h2, h3, h4⟩ := GI.out h
    exact ⟨h1, fun h => (by cases h), fun _ => ⟨rfl, h2⟩, h3, h4.step (fun q k1 k2 => setRow_other _ _ _ _ (by have h9 : q < s ∨ w.heap.size + 2 ≤ q := k2.2; omega)) (by rw [setRow_size]; exact Nat.le_refl _) (fun q k1 k2 => ⟨k2.1, by have h9 : q < s ∨ w.heap.size + 2 ≤ q := k2.2; omega⟩)⟩
   have hkl : k < l.length := by omega
   have iW := aa hts
   obtain ⟨bb, oo, hA, j0⟩ := (Bg.out _ iq).out.here.parts.2.2.2.2.1 k hkl
   dsimp only at hA j0
   subst hA
   have hcl := ih.out k hkl
   have hkc : ∀ u : World, Hid (w.grownBy u (some b)) → Hid (fB (fun q => b < q ∧ q < s) u (fun v => jP v (l.getD k eG))) := fun u hu => aa (fun v hv => ((Bg.out u hu).out v hv).parts.2.2.2.2.2.get hkl)
   have hnk := lY.out k hkl
   obtain ⟨x, hx⟩ : ∃ x, l.getD k eG = x := ⟨_, rfl⟩
   rw [hx] at hcl hkc hnk j0
   obtain ⟨xp, hxp⟩ : ∃ z, x.p = z := ⟨_, rfl⟩
   rw [hxp] at hcl j0
   have fQ := aa hcl
   have SH := aa hkc
   have qm := aa hnk
   clear hcl hkc hnk hx hxp hkl hts
   go_upto_region 15 with (fail)
   clear j0
   have hnb : tb ≠ b := by have := nV.out; omega
   have hO : Hid (∀ u : World, Hid (wr.grownBy u (some b)) → (u.cell? ⟨tb, 4, none⟩ = some v ∧ u.cell? ⟨tb, 0, none⟩ = some (.int .i64 c))) := aa (fun u hu => ⟨aI hu.out hnb (aj HM.out.2.1 4), aI hu.out hnb (aj HM.out.2.1 0)⟩)
   refine BK (fun u => wr.grownBy u (some b)) [8, 9, 10] (aa (aC (Below.refl _ _).drew _)) (fun hHeld => ?_)
   refine aX 0 1 2 3 ?_
   refine aQ 4 ?_
   refine aQ 5 ?_
   refine dO 6 fun K hK => ?_
   go_simp
   refine (fQ.out (y) e _ zg.out.1 zg.out.2 (dx hB' iG rfl (ax iq.out hHeld.out)) (SH.out _ (aa (ax iq.out hHeld.out))) (Nat.le_trans hs (ax iq.out hHeld.out).size) (aa (HP.out.agree rfl))).mono ?_
   rintro e_ w5 ⟨e5, t, rfl, uD, hg5, h5⟩
   refine hK.out _ _ (aa (ax hHeld.out hg5)) (fun hHeld => ?_)
   clear hK K
   have ku := aa uD
   have H5 := aa h5
   clear uD hg5 h5
   refine dO 7 fun K hK => ?_
   rw [show (if Region.wanted _ _ = true then _ else _ : Prop) = _ from if_pos rfl]
   refine GX 37 39 _ rfl t i0 Tryz.underlying37 hi hz0 hz1 rfl ?_
   refine hK.out _ _ (aa (bT hHeld.out _)) (fun hHeld => ?_)
   clear hK K
   obtain ⟨w6, pM, iT, -, -, k6⟩ := su (.cells #[.int .i64 t.c, .slice t.A t.na t.ca, .int .i64 t.pc, .slice t.Z t.nz t.cz, .slice t.L t.ln t.lc] 39) Br w5
   rw [pM] at hHeld ⊢
   clear pM
   obtain ⟨s0, s1, s2, s3, s4⟩ := k6.out _ (dS w6)
   have cO := hHeld.out
   have oI : fq w6 (w.heap.size + 2) v ts := HO.out.agree (fun g hg => cO.block g (HO.out.lt g hg).2 (fun e => by injection e with e; have := (HO.out.lt g hg).1; omega))
   have hs6 : w.heap.size + 2 ≤ w6.heap.size := by have := cO.size; have := HM.out.2.2; omega
   refine mo 8 fun K hK => ?_
   rw [show (if Region.wanted _ _ = true then _ else _ : Prop) = _ from if_pos rfl]
   refine wp_append_lies _ _ _ 37 rfl (w.heap.size + 2) 39 i0 _ 5 88 Tryz.underlying37 hi hz0 hz1 hz2 rfl (by decide) v ts.length (ts.flatMap tC) rfl oI ⟨w5.heap.size, 0, none⟩ 1 1 (tC t) rfl rfl (fun j u hj => by
    have Cq : j < 5 := (List.getElem?_eq_some_iff.1 hj).1
    rw [iK, Nat.zero_add]
    match j, Cq, hj with
    | 0, _, hj => cases hj; exact s0
    | 1, _, hj => cases hj; exact s1
    | 2, _, hj => cases hj; exact s2
    | 3, _, hj => cases hj; exact s3
    | 4, _, hj => cases hj; exact s4) (fun u hu => tN [t] u (by simpa using hu)) (by omega) (by unfold maxLen; rw [iW.out]; omega) (by rw [iW.out]; omega) hs6 w6.heap.size rfl ?_
   intro g cap w7 dM aR oC oq
   refine hK.out _ _ ?_
   clear hK K
   clear s0 s1 s2 s3 s4
   have hnew : ∀ q, v.ownBlock = some q → w.heap.size + 2 ≤ q := fun q e => (HO.out.lt q e).1
   have ji : ∀ q, q < w.heap.size + 2 → w7.heap[q]? = w6.heap[q]? := fun q hq => aR.block q (by omega) (fun e => by have := hnew q e.symm; omega)
   have kU : ∀ q, q < w.heap.size + 2 → q ≠ b → w6.heap[q]? = wr.heap[q]? := fun q hq hne => cO.block q (by have := HM.out.2.2; omega) (fun e => hne (by injection e with e))
   have lW : Hid (w7.heap[tb]? = some (.cells #[.int .i64 c, .slice none 0 0, .int .i64 0, .slice none 0 0, v] 39)) := aa ((ji _ (by have := nV.out; omega)).trans ((kU _ (by have := nV.out; omega) hnb).trans HM.out.2.1))
   have y4 : w7.cell? ⟨tb, 4, none⟩ = some v := aj lW.out 4
   have y5 : w7.frozen? ⟨tb, 4, none⟩ = false := aS lW.out 4
   refine mo 9 fun K hK => ?_
   go_simp
   refine hK.out _ _ ?_
   clear hK K
   refine mo 10 fun K hK => ?_
   go_simp
   refine hK.out _ _ ?_
   clear hK K
   refine jf ?_
   clear hO y4 y5
   obtain ⟨v2, hv2⟩ : ∃ z, Value.slice (some ⟨g, 0, none⟩) (ts.length + 1) cap = z := ⟨_, rfl⟩
   have eP : v2.ownBlock = some g := by rw [← hv2]; rfl
   rw [hv2] at dM ⊢
   have oH : Hid ((w7.setCell ⟨tb, 4, none⟩ v2).heap[tb]? = some (.cells #[.int .i64 c, .slice none 0 0, .int .i64 0, .slice none 0 0, v2] 39)) := aa (heap_setCell_same w7 tb 4 _ _ _ lW.out)
   have hoth : ∀ q, q ≠ tb → (w7.setCell ⟨tb, 4, none⟩ v2).heap[q]? = w7.heap[q]? := fun q hq => Go.Deep.blk_setCell_other _ _ _ _ hq
   have gG : (w7.setCell ⟨tb, 4, none⟩ v2).heap.size = w7.heap.size := World.size_setCell _ _ _
   have vk : Hid (w.grownBy (w7.setCell ⟨tb, 4, none⟩ v2) (some b)) := aa (dh (mR (ax iq.out cO) aR (fun q e => by have := hnew q e; omega)) (by have := nV.out; omega) v2)
   obtain ⟨w8, hw8⟩ : ∃ u, w7.setCell ⟨tb, 4, none⟩ v2 = u := ⟨_, rfl⟩
   rw [hw8] at oH hoth vk gG ⊢
   have hg3 : w.heap.size + 2 ≤ g := by
    rcases oC with h | h
    · exact hnew g h
    · omega
   have Dk : Hid (gp w8 b P Q G e5) := aa (ku.out.agree (((hoth b (Ne.symm hnb)).trans (ji b (by omega))).trans (iT.out.block b ku.out.lt)))
   have Dn : Hid (w8.heap[w.heap.size]? = some (tO 0 none 0 0 0 none 0 0 none 0 0) ∧ w8.heap[tb]? = some (.cells #[.int .i64 c, .slice none 0 0, .int .i64 0, .slice none 0 0, v2] 39) ∧ w.heap.size + 2 ≤ w8.heap.size) := aa ⟨(hoth _ (by have := nV.out; omega)).trans ((ji _ (by omega)).trans ((kU _ (by omega) (by omega)).trans HM.out.1)), oH.out, by have := aR.size; omega⟩
   have Dm : Hid (fq w8 (w.heap.size + 2) v2 (ts ++ [t])) := aa (fq.agree (w := w7) (by
    unfold fq
    rw [List.length_append, List.length_singleton, List.flatMap_append, List.flatMap_singleton]
    exact dM) (fun q e => by rw [eP] at e; injection e with e; exact hoth q (by have := nV.out; omega)))
   have ou : ∀ R, fB (fun q => b < q ∧ (q < s ∨ (w.heap.size + 2 ≤ q ∧ v.ownBlock ≠ some q))) w6 R → fB (fun q => b < q ∧ (q < s ∨ (w.heap.size + 2 ≤ q ∧ v2.ownBlock ≠ some q))) w8 R := fun R h => by
    have hT := nV.out
    refine fB.step h (fun q h1 h2 => (hoth q (by have h9 : q < s ∨ (w.heap.size + 2 ≤ q ∧ v.ownBlock ≠ some q) := h2.2; omega)).trans (aR.block q h1 (fun e => ?_))) (by rw [gG]; exact aR.size) (fun q h1 h2 => ⟨h2.1, ?_⟩)
    ·
     rcases h2.2 with h3 | h3
     · have := hnew q e.symm; omega
     · exact h3.2 e.symm
    ·
     rcases h2.2 with h3 | h3
     · exact .inl h3
     ·
      refine .inr ⟨h3.1, fun e => ?_⟩
      rw [eP] at e
      injection e with e
      subst e
      rcases oC with h | h
      · exact h3.2 h
      · omega
   have Dq : Hid (e5 = 0 → e0 = 0 ∧ rg (k + 1) (ts ++ [t]) v2.ownBlock (w.heap.size + 2) w8) := aa (fun h0 => by
    obtain ⟨a1, a2, a3, a4, a5⟩ := H5.out h0
    obtain ⟨b1, b2⟩ := HE.out a1
    refine ⟨b1, qm.out ts t _ _ _ _ _ b2 iW.out ⟨a2, a3, a4⟩ (fun R h => ou R (fB.step h (fun q h1 h2 => cO.block q h1 (fun e => by injection e with e; omega)) cO.size (fun _ _ h => h))) (ou _ (fB.step a5 (fun q h1 h2 => iT.out.block q h1) iT.out.size (fun q h1 h2 => ⟨h2.1, ?_⟩)))⟩
    rcases h2.2 with h3 | h3
    · exact .inl h3
    ·
     have h9 : wr.drew.heap.size = wr.heap.size := rfl
     exact .inr ⟨by have := HM.out.2.2; omega, fun e => by have h8 := (HO.out.lt q e).2; omega⟩)
   clear hw8 hoth gG ou oH lW ji kU dM aR oC oq cO oI hs6 eP hv2 hnew H5 ku iT k6 hHeld qm fQ SH HE HO HM HP iq hnb
   go_wp2
   go_roundw
   case rel => exact ⟨k + 1, e5, v2, ts ++ [t], by omega, by go_num, by rw [List.length_append, List.length_singleton, iW.out], Dk, vk, Dn, Dm, Dq⟩
   case measure => simp [intOf]; omega
theorem pV (P Q G : Int) (hG : Hid (aJ P Q G = true)) (W0 : World) (b : Nat) (iG : W0.heap.size ≤ b) (hv : Hid (Vars W0)) (X : Option Addr) (xs : List Int) (xn xc : Nat) (hX : Hid (Sl W0 X xs)) (mq : Hid (xs.length = xn)) (qp : xn ≤ xc) (s : Nat) :
  ∀ (n : Nat) (d : PD) (c e0 : Int) (w : World), d.f.dp ≤ n → 0 ≤ c → c < Q → Hid (Below W0.heap.size W0 w) → Hid (dU W0 d.f) → d.f.sh → Hid (fB (fun q => b < q ∧ q < s) w (fun u => jP u d)) → s ≤ w.heap.size → Hid (gp w b P Q G e0) → d.gd P Q G xs →
  Calls Tryz.prog 32 #[.pointer (some ⟨b, 0, none⟩), oM d.p, .int .i64 c, .slice X xn xc] w (g_ P Q G b s d c e0 w)
 | 0, d, _, _, _, h, _, _, _, _, _, _, _, _, _ => by have := d.f.dp_eq; omega
 | n + 1, d, c, e0, w, h, hc0, hc1, hB, hF, hsh, hP, hs, hS, hgd => by
  cases hdn : d.dn with
  | true => exact xS P Q G hG W0 b iG hv X xs xn xc hX mq qp s d c e0 hc0 hc1 w hB hF hP hs hS hdn
  | false =>
   by_cases hk : d.f.kind = 1
   · exact xU P Q G hG W0 b iG hv X xs xn xc hX mq qp s d c e0 hc0 hc1 w hB hF hP hs hS hdn hk hgd
   ·
    have hg := (PD.gd_eq d).1 hgd
    obtain ⟨g1, g2⟩ : d.l.length = d.f.l.length ∧ ∀ k, k < d.l.length → (d.l.getD k eG).f = d.f.l.getD k aY ∧ (d.l.getD k eG).gd P Q G xs := by
     rcases hg with ⟨h, _⟩ | ⟨_, ⟨h, _⟩ | ⟨_, a, b, _⟩⟩
     · rw [hdn] at h; cases h
     · exact absurd h hk
     · exact ⟨a, b⟩
    obtain ⟨Co, hss⟩ : (d.f.kind = 2 ∨ d.f.kind = 3) ∧ ∀ k, k < d.f.l.length → (d.f.l.getD k aY).sh := by
     rcases d.f.sh_eq.1 hsh with ⟨h, _⟩ | ⟨h, _, _, _, h2⟩
     · exact absurd h hk
     · exact ⟨h, h2⟩
    have ih : Hid (∀ k, k < d.l.length → ∀ (c e0 : Int) (u : World), 0 ≤ c → c < Q → Hid (Below W0.heap.size W0 u) → Hid (fB (fun q => b < q ∧ q < s) u (fun v => jP v (d.l.getD k eG))) → s ≤ u.heap.size → Hid (gp u b P Q G e0) → Calls Tryz.prog 32 #[.pointer (some ⟨b, 0, none⟩), oM (d.l.getD k eG).p, .int .i64 c, .slice X xn xc] u (g_ P Q G b s (d.l.getD k eG) c e0 u)) := aa fun k hkl c' e' u h0 h1 Jj ZM hsu OG => by
     obtain ⟨e1, e2⟩ := g2 k hkl
     have Jd : k < d.f.l.length := by omega
     refine pV P Q G hG W0 b iG hv X xs xn xc hX mq qp s n (d.l.getD k eG) c' e' u ?_ h0 h1 Jj ?_ ?_ ZM hsu OG e2
     · rw [e1]; exact FT.kid_dp h Jd
     ·
      rw [e1]
      obtain ⟨_, _, _, _, _, _, _, hX⟩ := hF.out.kid (k := k) (by have := hF.out.lens; omega)
      exact aa hX
     · rw [e1]; exact hss k Jd
    rcases Co with hk2 | hk3
    · exact zP P Q G hG W0 b iG hv X xs xn xc hX mq qp s d c e0 hc0 hc1 w hB hF hP hs hS hdn hk2 hsh hgd ih
    · exact BL P Q G hG W0 b iG hv X xs xn xc hX mq qp s d c e0 hc0 hc1 w hB hF hP hs hS hdn hk3 hsh hgd ih
theorem AU {r : Row} : ∀ (l : List PD), r ∈ iC l → ∃ k, k < l.length ∧ r ∈ (l.getD k eG).com
 | [], h => by rw [iC] at h; cases h
 | d :: l, h => by
  rw [iC, List.mem_append] at h
  rcases h with h | h
  · exact ⟨0, by simp, h⟩
  ·
   obtain ⟨k, h1, h3⟩ := AU l h
   exact ⟨k + 1, by simpa using h1, by rw [List.getD_cons_succ]; exact h3⟩
theorem xq {P Q G : Int} {xs : List Int} {w : World} : ∀ (n : Nat) (d : PD), d.f.dp ≤ n → jP w d → d.f.sh → d.f.at_ P Q G → d.gd P Q G xs → ∀ r ∈ d.com, l5 w r ∧ Ca r.xs
 | 0, d, h, _, _, _, _ => by have := d.f.dp_eq; omega
 | n + 1, d, h, hP, hs, ha, hg => by
  intro r hr
  rw [d.com_eq] at hr
  have hp := hP.parts
  rcases (PD.gd_eq d).1 hg with ⟨h1, h2⟩ | ⟨h1, h2⟩
  ·
   rw [if_pos h1] at hr
   exact uR (P := P) (Q := Q) (G := G) (n + 1) d.f d.t h hp.2.2.2.1 hs ha h2 r hr
  ·
   rw [if_neg (by rw [h1]; decide)] at hr
   rcases h2 with ⟨k1, k2, k3, k4, k5, k6, k7⟩ | ⟨k1, k2, k3, _⟩
   ·
    rw [if_pos k1] at hr
    have := List.mem_singleton.1 hr
    subst this
    have kr := VF.rel ha k1
    obtain ⟨p1, p2, p3, p4⟩ := aM (ak kr).1
    refine ⟨⟨k6.symm, hp.2.2.2.1.prf.1⟩, ?_⟩
    show Ca d.t.al
    rw [k5]
    refine ⟨by rw [List.length_map]; have := (ak kr).2.2.1; have := (ak kr).2.2.2.1; omega, fun x hx => ?_⟩
    obtain ⟨r, _, rfl⟩ := List.mem_map.1 hx
    have := mG p1 r.xs d.ks 1 (by omega) (by omega)
    omega
   ·
    rw [if_neg k1] at hr
    obtain ⟨k, e1, e3⟩ := AU _ hr
    rcases d.f.sh_eq.1 hs with ⟨h1, _⟩ | ⟨_, _, _, _, k5⟩
    · exact absurd h1 k1
    ·
     rcases d.f.at_eq.1 ha with ⟨m1, _⟩ | ⟨_, m2⟩
     · exact absurd m1 k1
     ·
      obtain ⟨f1, f2⟩ := k3 k e1
      exact xq n _ (by rw [f1]; exact FT.kid_dp h (by omega)) (hp.2.2.2.2.2.get e1) (by rw [f1]; exact k5 k (by omega)) (by rw [f1]; exact m2 k (by omega)) f2 r e3
theorem oO {P : Program} {ops : Array Oper} {rest : List Oper} {o : Oper} {a : Act} {w : World} {Q : Exit → Act → World → Prop} (hw : Region.wanted o (yielded ops a.tmps) = true) (ty : TypeId) (x : Operand) (ho : o.op = .load ty x)
  (g : Nat) (hx : a.eval x = .pointer (some ⟨g, 0, none⟩)) (t : TypeId) (cs : Array Value) (fr : Nat × Nat) (d : TypeDesc) (hg : w.heap[g]? = some (.cells cs t fr))
  (hu : P.underlying ty = some d) (hd : (match d with | .struct _ | .array _ _ => true | _ => false) = true) (hi : (P.info? ty).map (·.size) = some cs.size)
  (h : wpList P ops Q rest (a.put o.dst (.agg cs)) w) : wpList P ops Q (o :: rest) a w :=
 wpList_step fun K hK => by
  rw [if_pos hw]
  unfold Oper.wp execOp
  simp only [ho, hx, Instr.loadAt, Instr.sureAddr, Sem.run_bind, Sem.run_pure, Result.andThen_ok, run_loadVar_row w g t ty cs fr d hg hu hd hi]
  exact hK _ _ h
def Kb (pv : Value) (h : List Int) (c e : Int) : Value := .tuple #[pv, .agg (aT h c), .int .i64 e]
theorem bq {P : Program} {fn : Func} {p q r : Tmp} {ty ty2 : TypeId} (h : fn.results = #[.cell p ty, .cell q ty2, .tmp r]) (tmps : Array Value) (w : World) (a b : Addr) (v u x : Value)
  (hp : tmps.getD p undef = .pointer (some a)) (hq : tmps.getD q undef = .pointer (some b)) (hr : tmps.getD r undef = x) (hl : (loadVar ty a).run P w = .ok v w) (hl2 : (loadVar ty2 b).run P w = .ok u w) : (results fn tmps).run P w = .ok (.tuple #[v, u, x]) w := by
 have hp' : tmps[p]?.getD undef = .pointer (some a) := by simpa using hp
 have hq' : tmps[q]?.getD undef = .pointer (some b) := by simpa using hq
 have hr' : tmps[r]?.getD undef = x := by simpa using hr
 simp [results, h, hp', hq', hr', asAddr, hl, hl2]
end Go.Proofs.YtbljkkpnpcgjfaaGreatDoor