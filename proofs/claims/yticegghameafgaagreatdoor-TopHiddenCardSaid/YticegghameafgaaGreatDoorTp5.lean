/- Contracts and lemmas: TruD, DlK, DeaB, DeaC, DlL, DeaD, Dea, HdA, Pts, HdB, HdC, HdF, TpA, TpB, TpC, Pty. -/
import Derived.Laws.AppendOwnNone
import Derived.Test.YticegghameafgaaGreatDoorTp4
set_option linter.unusedVariables false
set_option linter.unusedSimpArgs false
set_option maxRecDepth 100000
set_option maxHeartbeats 25600000
namespace Go.Proofs.YticegghameafgaaGreatDoor
open Go.RowKit jq
def Sh (w : World) (A : Option Addr) (l : List (Int × Int)) : Prop := ∀ k, k < l.length → ∃ b o, A = some ⟨b, o, none⟩ ∧ w.cell? ⟨b, o + k * 2, none⟩ = some (.int .i64 (l.getD k (0, 0)).1) ∧ w.cell? ⟨b, o + k * 2 + 1, none⟩ = some (.int .i64 (l.getD k (0, 0)).2)
theorem Sh.below {w w' : World} {A : Option Addr} {l : List (Int × Int)} (h : Sh w A l) (hb : Below w.heap.size w w') : Sh w' A l := fun k hk => by
 obtain ⟨b, o, h1, h2, h3⟩ := h k hk
 exact ⟨b, o, h1, cell_below h2 hb, cell_below h3 hb⟩
def EI (p : Int × Int) : Prop := -9223372036854775808 ≤ p.1 ∧ p.1 < 9223372036854775808
abbrev ixs (l : List (Int × Int)) : List Int := l.map (·.1)
abbrev b_ (l : List (Int × Int)) : List Int := l.map (·.2)
theorem dF {l : List (Int × Int)} {k : Nat} (h : k < l.length) : (ixs l).getD k 0 = (l.getD k (0, 0)).1 := by
 rw [List.getD_eq_getElem?_getD, List.getElem?_map, List.getElem?_eq_getElem h, List.getD_eq_getElem?_getD, List.getElem?_eq_getElem h]; rfl
theorem mM {l : List (Int × Int)} {k : Nat} (h : k < l.length) : (b_ l).getD k 0 = (l.getD k (0, 0)).2 := by
 rw [List.getD_eq_getElem?_getD, List.getElem?_map, List.getElem?_eq_getElem h, List.getD_eq_getElem?_getD, List.getElem?_eq_getElem h]; rfl
theorem sG {l : List (Int × Int)} {k : Nat} (h : k < l.length) : ixs (l.take (k + 1)) = ixs (l.take k) ++ [(l.getD k (0, 0)).1] := by
 rw [ixs, List.take_add_one, List.map_append, List.getElem?_eq_getElem h, List.getD_eq_getElem?_getD, List.getElem?_eq_getElem h]; rfl
theorem sF {l : List (Int × Int)} {k : Nat} (h : k < l.length) : b_ (l.take (k + 1)) = b_ (l.take k) ++ [(l.getD k (0, 0)).2] := by
 rw [b_, List.take_add_one, List.map_append, List.getElem?_eq_getElem h, List.getD_eq_getElem?_getD, List.getElem?_eq_getElem h]; rfl
theorem qx {f : Int × Int → Bool} {l : List (Int × Int)} {k : Nat} (hk : k < l.length) (h : f (l.getD k (0, 0)) = true) : (l.drop k).all f = (l.drop (k + 1)).all f := by
 rw [List.drop_eq_getElem_cons hk, List.all_cons]
 rw [List.getD_eq_getElem?_getD, List.getElem?_eq_getElem hk] at h
 simp at h
 rw [h, Bool.true_and]
theorem oJ {f : Int × Int → Bool} {l : List (Int × Int)} {k : Nat} (hk : k < l.length) (h : f (l.getD k (0, 0)) = false) : (l.drop k).all f = false := by
 rw [List.drop_eq_getElem_cons hk, List.all_cons]
 rw [List.getD_eq_getElem?_getD, List.getElem?_eq_getElem hk] at h
 simp at h
 rw [h, Bool.false_and]
noncomputable def yZ (Q : Int) (xs ys : List Int) : Nat → Int
 | 0 => 0
 | m + 1 => (yZ Q xs ys m + xH Q xs 0 m * ys.getD m 0 % Q) % Q
theorem eT {P Q G : Int} (h : ah P Q G = true) : dR Q = true := by
 simp [ah] at h
 exact h.2.2.2.2.1
theorem j_ {w : World} {B : Nat} {v : Value} {n : Nat} {xs : List Int} (h : w.ownsRow B 3 1 v n (xs.map (Value.int .i64))) (hn : xs.length = n) : ∃ A c, v = .slice A n c ∧ Sl w A xs ∧ n ≤ c := by
 have ho : bq w B v xs := by unfold bq; rw [hn]; exact h
 obtain ⟨A, c, hv, hs, _⟩ := ho.sl
 rw [hn] at hv
 refine ⟨A, c, hv, hs, ?_⟩
 rcases h.2 with ⟨h1, h2⟩ | ⟨g, cap, cur, h1, _, _, h2, _⟩
 · omega
 ·
  rw [hv] at h1
  cases h1
  exact h2
theorem ve {Q : Int} (hQ : 2 ≤ Q) (xs ys : List Int) : ∀ k, 0 ≤ yZ Q xs ys k ∧ yZ Q xs ys k < Q
 | 0 => ⟨by rw [yZ]; omega, by rw [yZ]; omega⟩
 | k + 1 => ⟨Int.emod_nonneg _ (by omega), Int.emod_lt_of_pos _ (by omega)⟩
theorem G6 {P Q G : Int} {ks : List Int} {l : List (Int × Int)} {j : Nat} (h : l.all (fun p => jB P Q G ks p.1 p.2) = true) (hj : j < l.length) : bf Q ((b_ l).getD j 0) = true := by
 rw [mM hj, List.getD_eq_getElem?_getD, List.getElem?_eq_getElem hj]
 have := List.all_eq_true.1 h _ (List.getElem_mem hj)
 simp only [jB, Bool.and_eq_true] at this
 exact this.2.1
theorem Ef (a b m v : Int) (hv : Hid ((a + b) % m = v)) (h2 : m < 2305843009213693952) (ha0 : 0 ≤ a) (ha : a < m) (hb0 : 0 ≤ b) (hb : b < m) (w : World) :
  Calls Tryz.prog 38 #[.int .i64 a, .int .i64 b, .int .i64 m] w fun e w' => e = .returned (.tuple #[.int .i64 v, .int .i64 0]) ∧ w = w' := by
 have hc := aa (oH (by omega) h2 ha0 ha hb0 hb)
 have hm : ((m : Int) == 0) = false := by simp; omega
 have hmn : ¬ (m = 0) := by omega
 have d1 : IntKind.i64.wrap (a + b) = a + b := IntWalk.i64_in _ (by omega)
 have e1 : wrap64 (a + b) = a + b := IntWalk.wrap64_in _ (by omega)
 have Ku : (a + b).tmod m = v := iZ (by omega) hv.out
 have v0 : 0 ≤ v := by rw [← hv.out]; exact Int.emod_nonneg _ (by omega)
 have v1 : v < m := by rw [← hv.out]; exact Int.emod_lt_of_pos _ (by omega)
 have hwt : IntKind.i64.wrap v = v := IntWalk.i64_in _ (by omega)
 go_in
 go_wp2_with (go_at_call 68; refine (eD _ _ _ _).mono ?_; rintro e w' ⟨rfl, rfl⟩; rw [hc.out])
 go_ret2
 exact ⟨rfl, rfl⟩
theorem kz {xs : List Int} {m : Nat} (h : bY xs) : bY (xs.take m) := fun i j hi hj => by
 have hi2 : i < m ∧ i < xs.length := by rw [List.length_take] at hi; omega
 have := h i j hi2.2 hj
 rw [List.getD_eq_getElem?_getD, List.getElem?_take_of_lt hi2.1, ← List.getD_eq_getElem?_getD, List.getD_eq_getElem?_getD (l := xs.take m), List.getElem?_take_of_lt (by omega), ← List.getD_eq_getElem?_getD]
 exact this
theorem Ij {P Q G : Int} {ks : List Int} {l : List (Int × Int)} {kn m : Nat} (h : l.all (fun p => jB P Q G ks p.1 p.2) = true) (hkn : ks.length = kn) (hq : (kn : Int) < Q) : ((ixs l).take m).all (bf Q) = true := by
 rw [List.all_eq_true]
 intro x hx
 obtain ⟨p, hp, rfl⟩ := List.mem_map.1 (List.mem_of_mem_take hx)
 have := List.all_eq_true.1 h p hp
 simp only [jB, iD, Bool.and_eq_true, decide_eq_true_eq] at this
 simp [bf]
 omega
theorem pM {P Q G need : Int} {cs ks : List Int} {cn kn : Nat} (h : Ay P Q G need cs ks = true) (hcn : cs.length = cn) (hkn : ks.length = kn) : Hid (ah P Q G = true) ∧ 1 ≤ kn ∧ kn ≤ 8 ∧ (kn : Int) < Q ∧ 1 ≤ need ∧ need ≤ kn ∧ Hid ((cn : Int) = need) := by
 unfold Ay at h
 simp only [Bool.and_eq_true, decide_eq_true_eq] at h
 obtain ⟨n1, n2, n3, n4, n5⟩ := bX h.2.1
 rw [hkn] at n1 n2 n3 n5
 exact ⟨aa h.1, n1, n2, n3, n4, n5, aa (by rw [← hcn]; exact h.2.2.1)⟩
noncomputable def jY (P Q G need : Int) (ks : List Int) (l : List (Int × Int)) : Int := if l.all (fun p => jB P Q G ks p.1 p.2) = true then (if @decide (bY (ixs l)) (Classical.propDecidable _) = true then (if (l.length : Int) < need then 7 else 0) else 8) else 11
noncomputable def qI (P Q G need : Int) (ks : List Int) (l : List (Int × Int)) : Int := if jY P Q G need ks l = 0 then yZ Q ((ixs l).take need.toNat) (b_ l) need.toNat else 0
theorem Kh (P Q G : Int) (m : Nat) (Cs : Option Addr) (cs : List Int) (cn cc : Nat) (Ks : Option Addr) (ks : List Int) (kn kc : Nat) (hcn : Hid (cs.length = cn)) (hkn : Hid (ks.length = kn)) (A : Option Addr) (l : List (Int × Int)) (n c : Nat) (hn : Hid (l.length = n)) (hnb : n ≤ 100) (hlr : Hid (∀ k, k < n → EI (l.getD k (0, 0)))) (hr : Hid (Ay P Q G (m : Int) cs ks = true)) (hQ : Q < 9223372036854775808) (w : World) (hv : Hid (Vars w)) (hC : Hid (Sl w Cs cs)) (hK : Hid (Sl w Ks ks)) (hA : Hid (Sh w A l)) :
  Calls Tryz.prog 10 #[gv P Q G, mO (m : Int) Cs cn cc Ks kn kc, .slice A n c] w (Rt w (.tuple #[.int .i64 (qI P Q G (m : Int) ks l), .int .i64 (jY P Q G (m : Int) ks l)])) := by
 obtain ⟨i0, hi, hz0, hz1, hz2⟩ := info_parts gW
 obtain ⟨dG, n1, n2, n3, n4, n5, n6⟩ := pM hr.out hcn.out hkn.out
 obtain ⟨w0, HW, bB, kC⟩ := st2 (aC P Q G) qm (o7 (m : Int) Cs cn cc Ks kn kc) uR w
 have kV := mkV bB hv
 have lU := mkS bB hC
 have rR := mkS bB hK
 have kA := Me (fun u => Sh u A l) bB hA (·.below)
 have aL := iH w0
 clear hv hC hK hA
 go_in
 go_wp2_with fail
 rw [HW.out]
 have zc := kC.out _ aL
 go_wp2_with fail
 clear zc
 refine gM kC aL (xJ P Q G (m : Int) Cs cs cn cc Ks ks kn kc hcn hkn true hr hQ _ (kV.out _ aL) (lU.out _ aL) (rR.out _ aL)) fun w1 bQ zc => ?_
 go_wp2
 clear zc
 go_loopw [8, 9, 25] (fun vx vy i wr => ∃ k : Nat, k ≤ n ∧ i = .int .i64 k ∧ Hid (l.all (fun p => jB P Q G ks p.1 p.2) = (l.drop k).all (fun p => jB P Q G ks p.1 p.2)) ∧ Hid (wr.ownsRow w0.heap.size 3 1 vx k ((ixs (l.take k)).map (Value.int .i64))) ∧ Hid (wr.ownsRow w0.heap.size 3 1 vy k ((b_ (l.take k)).map (Value.int .i64))) ∧ Hid (∀ j, vx.ownBlock = some j → vy.ownBlock ≠ some j) ∧ Hid (Below w0.heap.size w0 wr)) (fun _ _ i _ => n - (intOf i).toNat)
 case atStart => exact ⟨0, by omega, rfl, aa rfl, aa (World.ownsRow_nil _ _ _ _), aa (World.ownsRow_nil _ _ _ _), aa (fun j h => by cases h), bQ⟩
 case round =>
  obtain ⟨k, hk, rfl, HR, xy, xw, oN, aB⟩ := hrel
  by_cases hlt : k < n
  ·
   have hkl : k < l.length := by rw [hn.out]; exact hlt
   obtain ⟨b, o, hA, tQ, tT⟩ := (kA.out _ aB).out k hkl
   subst hA
   have tx := sG hkl
   have ty := sF hkl
   obtain ⟨px, hpx⟩ : ∃ x, l.getD k (0, 0) = x := ⟨_, rfl⟩
   obtain ⟨ix, v⟩ := px
   rw [hpx] at tQ tT tx ty
   have TX := aa tx
   have TY := aa ty
   clear tx ty
   dsimp only at tQ tT
   cases hrg : jB P Q G ks ix v with
   | true =>
    have HS : Hid (l.all (fun p => jB P Q G ks p.1 p.2) = (l.drop (k + 1)).all (fun p => jB P Q G ks p.1 p.2)) := aa (HR.out.trans (qx hkl (by rw [hpx]; exact hrg)))
    have O4 := aa hrg
    clear hrg HR hpx
    have cZ := iH wr
    have zc := kC.out _ aB
    obtain ⟨w2, hw, rH, Dv, z_, kS⟩ := KU (iK ix v) GH wr
    have aK := FL aB rH
    have bO := FL cZ rH
    have bP := iH w2
    clear rH
    have Ec := kC.out _ aK
    have nA := kS.out _ bP
    go_wp2_with fail
    clear zc Ec nA hw
    have zc := kC.out _ aK
    have rW := kS.out _ bP
    clear tQ tT
    clear zc rW
    have zc := kC.out _ aK
    have rW := kS.out _ bP
    go_wp2_with fail
    clear zc rW
    refine wM aK bO bP (pU P Q G (m : Int) Cs cn cc Ks ks kn kc ix v hkn n2 dG true O4 _ (kV.out _ aK) (rR.out _ aK)) fun w3 cu f_ dK => ?_
    have zc := kC.out _ cu
    have rW := kS.out _ dK
    have HT : Hid (dH w0 wr.heap.size (iK ix v) u8 k (ixs (l.take k)) u9 k (b_ (l.take k)) w3) := aa ⟨cu.out, (dK.out.block _ (fQ z_.out)).trans z_.out, xy.out.kept (aD f_.out none) (dI _), xw.out.kept (aD f_.out none) (dI _), oN.out, fun e => by have := (xy.out.lt _ e).2; omega, fun e => by have := (xw.out.lt _ e).2; omega⟩
    go_upto_region 9 with (fail)
    clear zc rW
    have hS := aa (show ∀ (za : Value) (zi : Nat) (zl : List Int) (zb : Value) (zj : Nat) (zm : List Int) (zu : World), Hid (dH w0 (wr.heap.size) (iK ix v) za (zi) (zl) zb (zj) (zm) zu) → (zu.cell? ⟨w.heap.size, 0, none⟩ = some (.int .i64 P) ∧ zu.cell? ⟨w.heap.size, 1, none⟩ = some (.int .i64 Q) ∧ zu.cell? ⟨w.heap.size, 2, none⟩ = some (.int .i64 G) ∧ zu.cell? ⟨w.heap.size + 1, 0, none⟩ = some (.int .i64 (m : Int)) ∧ zu.cell? ⟨w.heap.size + 1, 1, none⟩ = some (.slice Cs cn cc) ∧ zu.cell? ⟨w.heap.size + 1, 2, none⟩ = some (.slice Ks kn kc) ∧ zu.cell? ⟨wr.heap.size, 0, none⟩ = some (.int .i64 ix) ∧ zu.cell? ⟨wr.heap.size, 1, none⟩ = some (.int .i64 v)) from fun za zi zl zb zj zm zu h => by
     obtain ⟨y0, y1, y2, y3, y4, y5⟩ := kC.out _ (aa h.out.b)
     exact ⟨y0, y1, y2, y3, y4, y5, ax h.out.x 0, ax h.out.x 1⟩)
    have Dr := aa (HT.out.below (Below.refl _ _).drew)
    refine di (S := fun w' => w'.cell? ⟨w.heap.size, 0, none⟩ = some (.int .i64 P) ∧ w'.cell? ⟨w.heap.size, 1, none⟩ = some (.int .i64 Q) ∧ w'.cell? ⟨w.heap.size, 2, none⟩ = some (.int .i64 G) ∧ w'.cell? ⟨w.heap.size + 1, 0, none⟩ = some (.int .i64 (m : Int)) ∧ w'.cell? ⟨w.heap.size + 1, 1, none⟩ = some (.slice Cs cn cc) ∧ w'.cell? ⟨w.heap.size + 1, 2, none⟩ = some (.slice Ks kn kc) ∧ w'.cell? ⟨wr.heap.size, 0, none⟩ = some (.int .i64 ix) ∧ w'.cell? ⟨wr.heap.size, 1, none⟩ = some (.int .i64 v)) (E := []) (by kernel_rfl) (hS.out _ _ _ _ _ _ _ Dr) (fun hHeld => ?_)
    obtain ⟨wD, Gs⟩ : ∃ u, w3.drew = u := ⟨_, rfl⟩
    rw [Gs] at Dr hHeld ⊢
    clear Gs
    refine lG 0 ?_
    refine lG 1 ?_
    refine lG 2 ?_
    refine lG 5 ?_
    refine lG 6 ?_
    refine lG 7 ?_
    refine lI (fun T a0 hT ha0 => ?_)
    clear hHeld
    have iW : ∀ (g3 : Nat) (gX : Nat) (cX : Nat) (g8 : Nat) (gY : Nat) (cY : Nat) (uT : World), (Hid (dH w0 (wr.heap.size) (iK ix v) (.slice (some ⟨gX, 0, none⟩) (k + 1) cX) (k + 1) (ixs (l.take k) ++ [ix]) (.slice (some ⟨gY, 0, none⟩) (k + 1) cY) (k + 1) (b_ (l.take k) ++ [v]) uT)) → T 2 #[true, true, true, true, true, true, true, true, true, true, false, false] ((((a0.put (some 37) (.slice (some ⟨g3, 0, none⟩) 1 1)).put (some 38) (.slice (some ⟨gX, 0, none⟩) (k + 1) cX)).put (some 42) (.slice (some ⟨g8, 0, none⟩) 1 1)).put (some 43) (.slice (some ⟨gY, 0, none⟩) (k + 1) cY)) uT := by
     intro g3 gX cX g8 gY cY uT FT
     have hHeld := hS.out _ _ _ _ _ _ _ FT
     rw [hT, ha0]
     try simp only [qq]
     refine lG 10 ?_
     refine lG 11 ?_
     refine AA ?_
     clear hHeld hT ha0
     have Ju := aa FT.out.b
     have hox := FT.out.ox
     have hoy := FT.out.oy
     rw [← TX.out] at hox
     rw [← TY.out] at hoy
     have xx := aa hox
     have xu := aa hoy
     have DC := aa FT.out.nxy
     clear hox hoy FT
     have zc := kC.out _ Ju
     go_wp2
     go_roundw
     case rel => exact ⟨k + 1, by omega, by go_num, HS, xx, xu, DC, Ju⟩
     case measure => simp [intOf]; omega
    have iX : ∀ (g3 : Nat) (gX : Nat) (cX : Nat) (g8 : Nat) (uT : World), (Hid (dH w0 (wr.heap.size) (iK ix v) (.slice (some ⟨gX, 0, none⟩) (k + 1) cX) (k + 1) (ixs (l.take k) ++ [ix]) u9 (k) (b_ (l.take k)) uT)) → (Hid (aN uT g8 (v) (.slice (some ⟨gX, 0, none⟩) (k + 1) cX) u9)) → T 3 #[true, true, true, true, true, true, true, true, true, false, false, false] (((a0.put (some 37) (.slice (some ⟨g3, 0, none⟩) 1 1)).put (some 38) (.slice (some ⟨gX, 0, none⟩) (k + 1) cX)).put (some 42) (.slice (some ⟨g8, 0, none⟩) 1 1)) uT := by
     intro g3 gX cX g8 uT FT F8
     have hHeld := hS.out _ _ _ _ _ _ _ FT
     rw [hT, ha0]
     try simp only [qq]
     refine mP 9 fun K hK => ?_
     refine step_append_lies _ (by rfl) _ _ _ (by rfl) w0.heap.size 3 i0 _ 1 8 Tryz.underlying30 hi hz0 hz1 hz2 rfl (by omega) u9 (k) ((b_ (l.take k)).map (Value.int .i64)) (by rfl) FT.out.oy ⟨g8, 0, none⟩ 1 1 [.int .i64 (v)] (by rfl) (by rfl) F8.out.news (ints_oneCell .i64 [v]) (by omega) (by unfold maxLen; omega) (by omega) FT.out.b.size uT.heap.size rfl ?_
     intro gY cY uN hown1 hgrow1 hgg hlt1
     have dA := aa (FT.out.appY hown1 hgrow1 hgg)
     refine hK.out _ _ ?_ (fun hHeld => ?_)
     · exact hS.out _ _ _ _ _ _ _ dA
     clear hK K hHeld
     try simp only [qq]
     have hG := iW g3 gX cX g8 gY cY uN dA
     rw [hT, ha0] at hG
     (try simp only [qq] at hG)
     exact hG
    have DU : ∀ (g3 : Nat) (gX : Nat) (cX : Nat) (uT : World), (Hid (dH w0 (wr.heap.size) (iK ix v) (.slice (some ⟨gX, 0, none⟩) (k + 1) cX) (k + 1) (ixs (l.take k) ++ [ix]) u9 (k) (b_ (l.take k)) uT)) → T 4 #[true, true, true, true, true, true, true, true, false, false, false, false] ((a0.put (some 37) (.slice (some ⟨g3, 0, none⟩) 1 1)).put (some 38) (.slice (some ⟨gX, 0, none⟩) (k + 1) cX)) uT := by
     intro g3 gX cX uT FT
     have hHeld := hS.out _ _ _ _ _ _ _ FT
     rw [hT, ha0]
     try simp only [qq]
     refine mP 8 fun K hK => ?_
     go_simp
     have dA := aa (FT.out.below (af uT (.cells #[.int .i64 (v)] 3)))
     refine hK.out _ _ ?_ (fun hHeld => ?_)
     · exact hS.out _ _ _ _ _ _ _ dA
     clear hK K hHeld
     try simp only [qq]
     have hG := iX g3 gX cX (uT.heap.size) (uT.alloc (.cells #[.int .i64 (v)] 3)) dA (aa (aN.new FT.out (v)))
     rw [hT, ha0] at hG
     (try simp only [qq] at hG)
     exact hG
    have uQ : ∀ (g3 : Nat) (g8 : Nat) (uT : World), (Hid (dH w0 (wr.heap.size) (iK ix v) u8 (k) (ixs (l.take k)) u9 (k) (b_ (l.take k)) uT)) → (Hid (aN uT g3 (ix) u8 u9)) → (Hid (aN uT g8 (v) u8 u9)) → T 4 #[true, true, true, true, false, true, true, true, true, false, false, false] ((a0.put (some 37) (.slice (some ⟨g3, 0, none⟩) 1 1)).put (some 42) (.slice (some ⟨g8, 0, none⟩) 1 1)) uT := by
     intro g3 g8 uT FT F3 F8
     have hHeld := hS.out _ _ _ _ _ _ _ FT
     rw [hT, ha0]
     try simp only [qq]
     refine mP 4 fun K hK => ?_
     refine step_append_lies _ (by rfl) _ _ _ (by rfl) w0.heap.size 3 i0 _ 1 8 Tryz.underlying30 hi hz0 hz1 hz2 rfl (by omega) u8 (k) ((ixs (l.take k)).map (Value.int .i64)) (by rfl) FT.out.ox ⟨g3, 0, none⟩ 1 1 [.int .i64 (ix)] (by rfl) (by rfl) F3.out.news (ints_oneCell .i64 [ix]) (by omega) (by unfold maxLen; omega) (by omega) FT.out.b.size uT.heap.size rfl ?_
     intro gX cX uN hown1 hgrow1 hgg hlt1
     have dA := aa (FT.out.appX hown1 hgrow1 hgg)
     refine hK.out _ _ ?_ (fun hHeld => ?_)
     · exact hS.out _ _ _ _ _ _ _ dA
     clear hK K hHeld
     try simp only [qq]
     have hG := iX g3 gX cX g8 uN dA (aa (F8.out.appX hgrow1 hgg))
     rw [hT, ha0] at hG
     (try simp only [qq] at hG)
     exact hG
    have G3 : ∀ (g3 : Nat) (uT : World), (Hid (dH w0 (wr.heap.size) (iK ix v) u8 (k) (ixs (l.take k)) u9 (k) (b_ (l.take k)) uT)) → (Hid (aN uT g3 (ix) u8 u9)) → T 5 #[true, true, true, true, false, true, true, true, false, false, false, false] (a0.put (some 37) (.slice (some ⟨g3, 0, none⟩) 1 1)) uT := by
     intro g3 uT FT F3
     have hHeld := hS.out _ _ _ _ _ _ _ FT
     rw [hT, ha0]
     try simp only [qq]
     refine iY (i1 := 4) (i2 := 8) (by kernel_rfl) rfl rfl (fun K hK => ?_) (fun K hK => ?_)
     ·
      refine step_append_lies _ (by rfl) _ _ _ (by rfl) w0.heap.size 3 i0 _ 1 8 Tryz.underlying30 hi hz0 hz1 hz2 rfl (by omega) u8 (k) ((ixs (l.take k)).map (Value.int .i64)) (by rfl) FT.out.ox ⟨g3, 0, none⟩ 1 1 [.int .i64 (ix)] (by rfl) (by rfl) F3.out.news (ints_oneCell .i64 [ix]) (by omega) (by unfold maxLen; omega) (by omega) FT.out.b.size uT.heap.size rfl ?_
      intro gX cX uN hown1 hgrow1 hgg hlt1
      have dA := aa (FT.out.appX hown1 hgrow1 hgg)
      refine hK.out _ _ ?_ (fun hHeld => ?_)
      · exact hS.out _ _ _ _ _ _ _ dA
      clear hK K hHeld
      try simp only [qq]
      have hG := DU g3 gX cX uN dA
      rw [hT, ha0] at hG
      (try simp only [qq] at hG)
      exact hG
     ·
      go_simp
      have dA := aa (FT.out.below (af uT (.cells #[.int .i64 (v)] 3)))
      refine hK.out _ _ ?_ (fun hHeld => ?_)
      · exact hS.out _ _ _ _ _ _ _ dA
      clear hK K hHeld
      try simp only [qq]
      have hG := uQ g3 (uT.heap.size) (uT.alloc (.cells #[.int .i64 (v)] 3)) dA (aa (F3.out.below (af uT (.cells #[.int .i64 (v)] 3)))) (aa (aN.new FT.out (v)))
      rw [hT, ha0] at hG
      (try simp only [qq] at hG)
      exact hG
    have G8 : ∀ (g8 : Nat) (uT : World), (Hid (dH w0 (wr.heap.size) (iK ix v) u8 (k) (ixs (l.take k)) u9 (k) (b_ (l.take k)) uT)) → (Hid (aN uT g8 (v) u8 u9)) → T 5 #[true, true, true, false, false, true, true, true, true, false, false, false] (a0.put (some 42) (.slice (some ⟨g8, 0, none⟩) 1 1)) uT := by
     intro g8 uT FT F8
     have hHeld := hS.out _ _ _ _ _ _ _ FT
     rw [hT, ha0]
     try simp only [qq]
     refine mP 3 fun K hK => ?_
     go_simp
     have dA := aa (FT.out.below (af uT (.cells #[.int .i64 (ix)] 3)))
     refine hK.out _ _ ?_ (fun hHeld => ?_)
     · exact hS.out _ _ _ _ _ _ _ dA
     clear hK K hHeld
     try simp only [qq]
     have hG := uQ (uT.heap.size) g8 (uT.alloc (.cells #[.int .i64 (ix)] 3)) dA (aa (aN.new FT.out (ix))) (aa (F8.out.below (af uT (.cells #[.int .i64 (ix)] 3))))
     rw [hT, ha0] at hG
     (try simp only [qq] at hG)
     exact hG
    have G0 : ∀  (uT : World), (Hid (dH w0 (wr.heap.size) (iK ix v) u8 (k) (ixs (l.take k)) u9 (k) (b_ (l.take k)) uT)) → T 6 #[true, true, true, false, false, true, true, true, false, false, false, false] a0 uT := by
     intro  uT FT
     have hHeld := hS.out _ _ _ _ _ _ _ FT
     rw [hT, ha0]
     try simp only [qq]
     refine iY (i1 := 3) (i2 := 8) (by kernel_rfl) rfl rfl (fun K hK => ?_) (fun K hK => ?_)
     ·
      go_simp
      have dA := aa (FT.out.below (af uT (.cells #[.int .i64 (ix)] 3)))
      refine hK.out _ _ ?_ (fun hHeld => ?_)
      · exact hS.out _ _ _ _ _ _ _ dA
      clear hK K hHeld
      try simp only [qq]
      have hG := G3 (uT.heap.size) (uT.alloc (.cells #[.int .i64 (ix)] 3)) dA (aa (aN.new FT.out (ix)))
      rw [hT, ha0] at hG
      (try simp only [qq] at hG)
      exact hG
     ·
      go_simp
      have dA := aa (FT.out.below (af uT (.cells #[.int .i64 (v)] 3)))
      refine hK.out _ _ ?_ (fun hHeld => ?_)
      · exact hS.out _ _ _ _ _ _ _ dA
      clear hK K hHeld
      try simp only [qq]
      have hG := G8 (uT.heap.size) (uT.alloc (.cells #[.int .i64 (v)] 3)) dA (aa (aN.new FT.out (v)))
      rw [hT, ha0] at hG
      (try simp only [qq] at hG)
      exact hG
    exact G0 _ Dr
   | false =>
    have HF : Hid (jY P Q G (m : Int) ks l = 11) := aa (by rw [jY, HR.out, oJ hkl (by rw [hpx]; exact hrg)]; rfl)
    have O4 := aa hrg
    clear hrg HR hpx
    have cZ := iH wr
    have zc := kC.out _ aB
    obtain ⟨w2, hw, rH, Dv, z_, kS⟩ := KU (iK ix v) GH wr
    have aK := FL aB rH
    have bO := FL cZ rH
    have bP := iH w2
    clear rH
    have Ec := kC.out _ aK
    have nA := kS.out _ bP
    go_wp2_with fail
    clear zc Ec nA hw
    have zc := kC.out _ aK
    have rW := kS.out _ bP
    clear tQ tT
    clear zc rW
    have zc := kC.out _ aK
    have rW := kS.out _ bP
    go_wp2_with fail
    clear zc rW
    refine wM aK bO bP (pU P Q G (m : Int) Cs cn cc Ks ks kn kc ix v hkn n2 dG false O4 _ (kV.out _ aK) (rR.out _ aK)) fun w3 cu f_ dK => ?_
    have zc := kC.out _ cu
    have rW := kS.out _ dK
    have fT := ag bB.out cu.out
    go_wp2
    go_ret2
    exact ⟨by rw [qI, HF.out]; rfl, fT⟩
  ·
   obtain rfl : k = n := by omega
   have hall : l.all (fun p => jB P Q G ks p.1 p.2) = true := by rw [HR.out, ← hn.out, List.drop_length]; rfl
   have hox := xy.out
   have hoy := xw.out
   rw [List.take_of_length_le (by rw [hn.out]; exact Nat.le_refl _)] at hox hoy
   have IE : (ixs l).length = k := by rw [List.length_map]; exact hn.out
   have Ir : (b_ l).length = k := by rw [List.length_map]; exact hn.out
   obtain ⟨AX, cX, NL, sX, Sy⟩ := j_ hox IE
   obtain ⟨AY, cY, NK, sY, Sw⟩ := j_ hoy Ir
   subst NL
   subst NK
   have GK := aa sX
   have F4 := aa sY
   have Gd := aa IE
   have K7 := aa Ir
   have iV := aa hall
   have LH : Hid (∀ j, j < k → -9223372036854775808 ≤ (ixs l).getD j 0 ∧ (ixs l).getD j 0 < 9223372036854775808) := aa (fun j hj => by rw [dF (by rw [hn.out]; exact hj)]; exact hlr.out j hj)
   clear hall hox hoy IE Ir sX sY HR xy xw oN
   have cZ := iH wr
   have kX := JC (w := wr) (fun u => Sl u AX (ixs l)) GK.out (·.below)
   have kY := JC (w := wr) (fun u => Sl u AY (b_ l)) F4.out (·.below)
   have zc := kC.out _ aB
   by_cases hnt : bY (ixs l)
   ·
    have z8 := aa hnt
    clear hnt
    go_wp2_with fail
    clear zc
    refine KS aB cZ (pK AX (ixs l) k cX false (aa ⟨fun _ => z8.out, fun _ => rfl⟩) Gd (by omega) LH _ (kX.out _ cZ)) fun w2 aK bO => ?_
    have zc := kC.out _ aK
    by_cases hfw : k < m
    ·
     have HF : Hid (jY P Q G (m : Int) ks l = 7) := aa (by rw [jY, if_pos iV.out]; simp [z8.out, hn.out]; omega)
     have df : decide ((k : Int) < (m : Int)) = true := by simp; omega
     have fT := ag bB.out aK.out
     go_wp2
     go_ret2
     exact ⟨by rw [qI, HF.out]; rfl, fT⟩
    ·
     have HF : Hid (jY P Q G (m : Int) ks l = 0) := aa (by rw [jY, if_pos iV.out]; simp [z8.out, hn.out]; omega)
     have Tz : Hid (qI P Q G (m : Int) ks l = yZ Q ((ixs l).take m) (b_ l) m) := aa (by rw [qI, HF.out]; rfl)
     have df : decide ((k : Int) < (m : Int)) = false := by simp; omega
     have hmc : m ≤ cX := by omega
     have JO : Hid (((ixs l).take m).length = m) := aa (by rw [List.length_take, Gd.out]; omega)
     have OM : Hid (((ixs l).take m).all (bf Q) = true) := aa (Ij iV.out hkn.out n3)
     have OL : Hid (bY ((ixs l).take m)) := aa (kz z8.out)
     obtain ⟨q1, q2, q3, q4⟩ := az dG.out
     have Dz : Hid (dR Q = true) := aa (eT dG.out)
     have NI := aa (show ∀ u : World, Hid (Below wr.heap.size wr u) → Hid (Sl u AX ((ixs l).take m)) from fun u h => aa ((ja (GK.out.below h.out) m)))
     go_upto_region 15 with (fail)
     clear zc
     have hO := aa (fun (u : World) (h : Hid (Below w0.heap.size w0 u ∧ Below wr.heap.size wr u)) => kC.out u (aa h.out.1))
     refine Md (fun u => Below w0.heap.size w0 u ∧ Below wr.heap.size wr u) [] (bb2 (aa ⟨aK.out, bO.out⟩) ((Below.refl _ _).drew)) (fun hHeld => ?_)
     refine jT 0 1 2 3 ?_
     refine sD 4 ?_
     refine sD 5 ?_
     refine mP 6 fun K hK => ?_
     go_simp
     refine (r9 Q AX ((ixs l).take m) m cX 0 (by omega) Dz JO (by omega) OM (by omega) (by omega) hmc OL _ (kV.out _ (aa hHeld.out.1)) (NI.out _ (aa hHeld.out.2))).mono ?_
     intro e wA hW
     obtain ⟨vw, rfl, Qm, gL⟩ := hW
     have HOW := aa Qm
     clear Qm
     refine hK.out _ _ (bb2 hHeld gL) (fun hHeld => ?_)
     clear hK K
     refine jT 7 8 9 10 ?_
     refine sD 11 ?_
     refine AA ?_
     clear hO
     have xz := (aa hHeld.out.1)
     have Jo := (aa hHeld.out.2)
     clear hHeld
     have zc := kC.out _ xz
     have Ml := HOW.out
     unfold bq at Ml
     rw [fF] at Ml
     obtain ⟨AW, cW, hvw, sW, hcW⟩ := j_ Ml (fF _ _ _ _)
     subst hvw
     have MU := aa sW
     clear Ml sW HOW
     clear zc
     have Ns := iH wA
     have kW := JC (w := wA) (fun u => Sl u AW (Ad Q ((ixs l).take m) 0 m)) MU.out (·.below)
     have zc := kC.out _ xz
     go_wp2
     clear zc
     go_loopw [14, 69] (fun a i wz => ∃ j : Nat, j ≤ m ∧ i = .int .i64 j ∧ a = .int .i64 (yZ Q ((ixs l).take m) (b_ l) j) ∧ Hid (Below wA.heap.size wA wz)) (fun _ i _ => m - (intOf i).toNat)
     case atStart => exact ⟨0, by omega, rfl, rfl, aa (Below.refl _ _)⟩
     case round =>
      obtain ⟨j, hj, rfl, rfl, rV⟩ := hrel
      have mG := aa (ag xz.out rV.out)
      have yQ := aa (ag Jo.out rV.out)
      have hsb := ve (Q := Q) (by omega) ((ixs l).take m) (b_ l) j
      by_cases kK : j < m
      ·
       have hkl : j < l.length := by have := hn.out; omega
       obtain ⟨b1, o1, hA1, i1⟩ := (kW.out _ rV).out j (by rw [fF]; exact kK)
       obtain ⟨b2, o2, hA2, i2⟩ := (kY.out _ yQ).out j (by rw [K7.out]; omega)
       subst hA1
       subst hA2
       rw [Ed _ _ _ _ _ kK] at i1
       have ss : yZ Q ((ixs l).take m) (b_ l) (j + 1) = (yZ Q ((ixs l).take m) (b_ l) j + xH Q ((ixs l).take m) 0 j * (b_ l).getD j 0 % Q) % Q := rfl
       obtain ⟨x0, x1⟩ := uX (q := Q) (by omega) ((ixs l).take m) 0 j
       have hyb := G6 iV.out hkl
       obtain ⟨x, hx⟩ : ∃ x, xH Q ((ixs l).take m) 0 j = x := ⟨_, rfl⟩
       obtain ⟨y, hy⟩ : ∃ x, (b_ l).getD j 0 = x := ⟨_, rfl⟩
       obtain ⟨s9, DV⟩ : ∃ x, yZ Q ((ixs l).take m) (b_ l) j = x := ⟨_, rfl⟩
       rw [hx] at i1 x0 x1 ss
       rw [hy] at i2 ss hyb
       rw [DV] at ss hsb ⊢
       obtain ⟨p, hp⟩ : ∃ z, x * y % Q = z := ⟨_, rfl⟩
       obtain ⟨t9, NN⟩ : ∃ z, (s9 + p) % Q = z := ⟨_, rfl⟩
       rw [hp, NN] at ss
       have p0 : 0 ≤ p := by rw [← hp]; exact Int.emod_nonneg _ (by omega)
       have p1 : p < Q := by rw [← hp]; exact Int.emod_lt_of_pos _ (by omega)
       obtain ⟨s0, s1⟩ := hsb
       have y0 := lM hyb
       have y1 := lN hyb
       have SS := aa ss
       have HP := aa hp
       have OO := aa NN
       clear ss hx hy DV hp NN hkl hyb
       have zc := kC.out _ mG
       go_wp2
       go_quiet ((go_at_call 37; exact Calls.quiet_of (qD x y Q p HP (by omega) x0 x1 y0 y1 _)))
       go_wp2_with fail
       refine (Ef s9 p Q t9 OO (by omega) s0 s1 p0 p1 _).mono ?_
       rintro e9 w9 ⟨rfl, rfl⟩
       have HB2 := aa (ay rV.out nq)
       go_wp2
       go_roundw
       case rel => exact ⟨j + 1, by omega, by go_num, by rw [SS.out], HB2⟩
       case measure => simp [intOf]; omega
      ·
       obtain rfl : j = m := by omega
       have zc := kC.out _ mG
       have fT := ag bB.out mG.out
       go_wp2
       go_ret2
       exact ⟨by rw [Tz.out, HF.out]; rfl, fT⟩
   ·
    have HF : Hid (jY P Q G (m : Int) ks l = 8) := aa (by rw [jY, if_pos iV.out]; simp [hnt])
    have z8 := aa hnt
    clear hnt
    go_wp2_with fail
    clear zc
    refine KS aB cZ (pK AX (ixs l) k cX true (aa ⟨fun h => (by cases h), fun h => absurd h z8.out⟩) Gd (by omega) LH _ (kX.out _ cZ)) fun w2 aK bO => ?_
    have zc := kC.out _ aK
    have fT := ag bB.out aK.out
    go_wp2
    go_ret2
    exact ⟨by rw [qI, HF.out]; rfl, fT⟩
theorem bg {P : Program} {ops : Array Oper} {rest : List Oper} {o : Oper} {a : Act} {w : World} {Q : Exit → Act → World → Prop} (hw : Region.wanted o (yielded ops a.tmps) = true) (ty : TypeId) (x : Operand) (ho : o.op = .load ty x)
  (g : Nat) (hx : a.eval x = .pointer (some ⟨g, 0, none⟩)) (t : TypeId) (cs : Array Value) (fr : Nat × Nat) (d : TypeDesc) (hg : w.heap[g]? = some (.cells cs t fr))
  (hu : P.underlying ty = some d) (hd : (match d with | .struct _ | .array _ _ => true | _ => false) = true) (hi : (P.info? ty).map (·.size) = some cs.size)
  (h : wpList P ops Q rest (a.put o.dst (.agg cs)) w) : wpList P ops Q (o :: rest) a w :=
 wpList_step fun K hK => by
  rw [if_pos hw]
  unfold Oper.wp execOp
  simp only [ho, hx, Instr.loadAt, Instr.sureAddr, Sem.run_bind, Sem.run_pure, Result.andThen_ok, run_loadVar_row w g t ty cs fr d hg hu hd hi]
  exact hK _ _ h
def bZ (w : World) (b : Nat) (need : Int) (v u : Value) : Prop := w.heap[b]? = some (.cells (oU need v u) 32 (0, 0))
theorem bZ.lt {w : World} {b : Nat} {need : Int} {v u : Value} (h : bZ w b need v u) : b < w.heap.size := (Array.getElem?_eq_some_iff.1 h).1
theorem bZ.below {w w' : World} {b : Nat} {need : Int} {v u : Value} (h : bZ w b need v u) (hb : Below w.heap.size w w') : bZ w' b need v u := (hb.block b h.lt).trans h
theorem bZ.grown {w w' : World} {b : Nat} {r : Option Nat} {need : Int} {v u : Value} (h : bZ w b need v u) (hb : w.grownBy w' r) (hne : r ≠ some b) : bZ w' b need v u := (hb.block b h.lt (fun e => hne e.symm)).trans h
theorem bZ.c0 {w : World} {b : Nat} {need : Int} {v u : Value} (h : bZ w b need v u) : Own w ⟨b, 0, none⟩ (.int .i64 need) := ⟨ax h 0, bn h 0⟩
theorem bZ.c1 {w : World} {b : Nat} {need : Int} {v u : Value} (h : bZ w b need v u) : Own w ⟨b, 1, none⟩ v := ⟨ax h 1, bn h 1⟩
theorem bZ.c2 {w : World} {b : Nat} {need : Int} {v u : Value} (h : bZ w b need v u) : Own w ⟨b, 2, none⟩ u := ⟨ax h 2, bn h 2⟩
theorem bZ.set1 {w : World} {b : Nat} {need : Int} {v u : Value} (h : bZ w b need v u) (x : Value) : bZ (w.setCell ⟨b, 1, none⟩ x) b need x u := heap_setCell_same _ _ _ _ _ _ h
theorem bZ.set2 {w : World} {b : Nat} {need : Int} {v u : Value} (h : bZ w b need v u) (x : Value) : bZ (w.setCell ⟨b, 2, none⟩ x) b need v x := heap_setCell_same _ _ _ _ _ _ h
theorem bZ.setRow {w : World} {b : Nat} {need need' : Int} {v u v' u' : Value} (h : bZ w b need v u) : bZ (w.setRow b (oU need' v' u')) b need' v' u' := setRow_heap w b _ _ _ _ h
theorem bZ.row {w : World} {b k : Nat} {need : Int} {v u : Value} {cs : Array Value} (h : bZ w b need v u) (hne : b ≠ k) : bZ (w.setRow k cs) b need v u := (setRow_other _ _ _ _ hne).trans h
theorem aQ.row {w : World} {b k : Nat} {h : List Int} {c : Int} {cs : Array Value} (H : aQ w b h c) (hne : b ≠ k) : aQ (w.setRow k cs) b h c := (setRow_other _ _ _ _ hne).trans H
structure jg (w : World) (P Q G : Int) (h : List Int) (c : Int) (u : World) : Prop where
 g : u.heap[w.heap.size]? = some (aC P Q G)
 d : aQ u (w.heap.size + 1) h c
 p : bZ u (w.heap.size + 2) 0 (.slice none 0 0) (.slice none 0 0)
 e : aQ u (w.heap.size + 3) (aT 32) 0
 b : Below w.heap.size w u
section
variable {w u u' : World} {P Q G c c' : Int} {h h' : List Int}
theorem jg.z (H : jg w P Q G h c u) : w.heap.size + 4 ≤ u.heap.size := H.e.lt
theorem jg.gb (H : jg w P Q G h c u) : l5 u w.heap.size P Q G := ⟨ax H.g 0, ax H.g 1, ax H.g 2⟩
theorem jg.below (H : jg w P Q G h c u) (hb : Below u.heap.size u u') : jg w P Q G h c u' :=
 ⟨(hb.block _ (Array.getElem?_eq_some_iff.1 H.g).1).trans H.g, H.d.below hb, H.p.below hb, H.e.below hb, ag H.b hb⟩
theorem jg.grown {b : Nat} (H : jg w P Q G h c u) (hb : u.grownBy u' (some b)) (hB : w.heap.size + 4 ≤ b) : jg w P Q G h c u' :=
 have hz := H.z
 have f : ∀ k, k < w.heap.size + 4 → u'.heap[k]? = u.heap[k]? := fun k hk => hb.block k (by omega) (fun e => by injection e with e; omega)
 ⟨(f _ (by omega)).trans H.g, (f _ (by omega)).trans H.d, (f _ (by omega)).trans H.p, (f _ (by omega)).trans H.e, H.b.trans (h_ hb (by omega) (by omega))⟩
theorem jg.put (H : jg w P Q G h c u) : jg w P Q G h' c' (u.setRow (w.heap.size + 1) (aJ h' c')) :=
 ⟨(setRow_other _ _ _ _ (by omega)).trans H.g, H.d.setRow, H.p.row (by omega), H.e.row (by omega), aj H.b (by omega)⟩
theorem jg.start (w : World) (P Q G : Int) (h : List Int) (c : Int) :
  jg w P Q G h c ((((w.alloc (aC P Q G)).alloc (.cells (aJ h c) 27)).alloc (.cells lJ 32)).alloc (.cells #[.int .u8 0, .int .u8 0, .int .u8 0, .int .u8 0, .int .u8 0, .int .u8 0, .int .u8 0, .int .u8 0, .int .u8 0, .int .u8 0, .int .u8 0, .int .u8 0, .int .u8 0, .int .u8 0, .int .u8 0, .int .u8 0, .int .u8 0, .int .u8 0, .int .u8 0, .int .u8 0, .int .u8 0, .int .u8 0, .int .u8 0, .int .u8 0, .int .u8 0, .int .u8 0, .int .u8 0, .int .u8 0, .int .u8 0, .int .u8 0, .int .u8 0, .int .u8 0, .int .i64 0] 27)) := by
 have e1 : (w.alloc (aC P Q G)).heap.size = w.heap.size + 1 := by simp
 have e2 : ((w.alloc (aC P Q G)).alloc (.cells (aJ h c) 27)).heap.size = w.heap.size + 2 := by simp
 have g0 : (w.alloc (aC P Q G)).heap[w.heap.size]? = some (aC P Q G) := heap_alloc_new _ _
 have step : ∀ {u : World} {o : Obj}, u.heap[w.heap.size]? = some (aC P Q G) → (u.alloc o).heap[w.heap.size]? = some (aC P Q G) := fun {u o} hh => ((af u o).block _ (Array.getElem?_eq_some_iff.1 hh).1).trans hh
 refine ⟨step (step (step g0)), ?_, ?_, ?_, ?_⟩
 · rw [← e1]; exact ((aQ.new _ _ _).below (af _ _)).below (af _ _)
 · rw [← e2]; exact heap_alloc2_old _ _ _
 · rw [show w.heap.size + 3 = ((w.alloc (aC P Q G)).alloc (.cells (aJ h c) 27)).heap.size + 1 by rw [e2], Jy]; exact heap_alloc2_new _ _ _
 · exact ag (ag (aI (Below.refl _ _)) (af _ _)) (af _ _)
theorem jg.fail (H : jg w P Q G h c u) :
  bZ ((u.setRow (w.heap.size + 2) lJ).setRow (w.heap.size + 3) (aJ (aT 32) 0)) (w.heap.size + 2) 0 (.slice none 0 0) (.slice none 0 0) ∧
  aQ ((u.setRow (w.heap.size + 2) lJ).setRow (w.heap.size + 3) (aJ (aT 32) 0)) (w.heap.size + 3) (aT 32) 0 ∧
  aQ (u.setRow (w.heap.size + 2) lJ) (w.heap.size + 3) (aT 32) 0 ∧
  Below w.heap.size w ((u.setRow (w.heap.size + 2) lJ).setRow (w.heap.size + 3) (aJ (aT 32) 0)) := by
 have h1 : aQ (u.setRow (w.heap.size + 2) lJ) (w.heap.size + 3) (aT 32) 0 := H.e.row (by omega)
 exact ⟨H.p.setRow.row (by omega), h1.setRow, h1, aj (aj H.b (by omega)) (by omega)⟩
end
theorem AZ {w u : World} {A : Option Addr} {xs : List Int} {b : Nat} (h : Sl w A xs) (hg : w.grownBy u (some b)) (hA : ∀ g o, A = some ⟨g, o, none⟩ → g < b) (hb : b < w.heap.size) : Sl u A xs := fun k hk => by
 obtain ⟨g, o, e, hc⟩ := h k hk
 have h1 := hA g o e
 refine ⟨g, o, e, ?_⟩
 rw [World.cell?_of_block (w := w) (w' := u) (a := ⟨g, o + k, none⟩) (hg.block g (by omega) (fun e => by injection e with e; omega))]
 exact hc
def jL (P Q G : Int) (f : List Int) : List Int := f.map (fun x => pw G (x % Q) P)
def CV (Q : Int) (f : List Int) (k : Nat) : Int := pv f ((k : Int) + 1) % Q
def kP (P Q G : Int) (f : List Int) (n : Nat) : List Int := (List.range n).map (fun k => pw G (CV Q f k % Q) P)
def rU (Q : Int) (f : List Int) (n : Nat) : List (Int × Int) := (List.range n).map (fun k : Nat => ((k : Int) + 1, CV Q f k))
theorem CY {P Q G : Int} {f : List Int} {k : Nat} (hk : k < f.length) : (jL P Q G f).take (k + 1) = (jL P Q G f).take k ++ [pw G (f.getD k 0 % Q) P] := by
 have h1 : k < (jL P Q G f).length := by rw [jL, List.length_map]; exact hk
 rw [List.take_succ_eq_append_getElem h1]
 simp [jL, List.getD_eq_getElem?_getD, List.getElem?_eq_getElem hk]
theorem CX (P Q G : Int) (f : List Int) (k : Nat) : kP P Q G f (k + 1) = kP P Q G f k ++ [pw G (CV Q f k % Q) P] := by simp [kP, List.range_succ]
theorem CW (Q : Int) (f : List Int) (k : Nat) : rU Q f (k + 1) = rU Q f k ++ [((k : Int) + 1, CV Q f k)] := by simp [rU, List.range_succ]
def vo (l : List (Int × Int)) : List Value := l.flatMap (fun p => [.int .i64 p.1, .int .i64 p.2])
theorem xP (l : List (Int × Int)) (a b : Int) : vo (l ++ [(a, b)]) = vo l ++ [.int .i64 a, .int .i64 b] := by simp [vo]
theorem Ey (l : List (Int × Int)) : (vo l).length = l.length * 2 := by
 induction l with
 | nil => rfl
 | cons p t ih => simp only [vo, List.flatMap_cons, List.length_append, List.length_cons, List.length_nil] at ih ⊢; omega
theorem Cf : (Tryz.prog.info? 39).map (fun i => (i.zero, i.size, i.bytes)) = some (some (.agg #[.int .i64 0, .int .i64 0]), 2, 16) := by kernel_rfl
def LZ (P Q G : Int) (f : List Int) (need n : Nat) (h : List Int) (c : Int) (w : World) (e : Ending) (w' : World) : Prop := ∃ A ca B cb S cs, e = .returned (.tuple #[mO need A need ca B n cb, .slice S n cs, .agg (aJ h c), .int .i64 0]) ∧ Sl w' A (jL P Q G f) ∧ Sl w' B (kP P Q G f n) ∧ Sh w' S (rU Q f n) ∧ Below w.heap.size w w'
def lT (Q need n : Int) : Bool := decide (1 ≤ n) && fI Q need n.toNat
theorem nT {Q need n : Int} (h : lT Q need n = true) : ∃ m k : Nat, need = m ∧ n = k ∧ 1 ≤ m ∧ m ≤ k ∧ k ≤ 8 ∧ (k : Int) < Q := by
 unfold lT at h
 simp only [Bool.and_eq_true, decide_eq_true_eq] at h
 obtain ⟨n1, n2, n3, n4, n5⟩ := bX h.2
 exact ⟨need.toNat, n.toNat, by omega, by omega, by omega, by omega, n2, by omega⟩
theorem kr (P Q G need n : Int) (r : Bool) (hr : Hid (lT Q need n = r)) (w : World) :
  Calls Tryz.prog 22 #[gv P Q G, .int .i64 need, .int .i64 n] w (Rt w (.bool r)) := by
 by_cases h1 : 1 ≤ n
 ·
  obtain ⟨k, rfl⟩ : ∃ k : Nat, n = k := ⟨n.toNat, by omega⟩
  refine fe P Q G need k r (aa ?_) w
  have h2 := hr.out
  unfold lT at h2
  rw [decide_eq_true h1, Bool.true_and, Int.toNat_natCast] at h2
  exact h2
 ·
  have e : r = false := by rw [← hr.out, lT, decide_eq_false h1]; rfl
  subst e
  have d0 : decide ((1 : Int) ≤ n) = false := by simp; omega
  have HX := aa (aM w P Q G)
  obtain ⟨c0, c1, c2⟩ := HX.out
  have hb := af w (aC P Q G)
  go_in
  go_wp2
  go_ret
  exact ⟨rfl, hb⟩
theorem jw {P : Program} {w : World} {ops : Array Oper} {rest : List Oper} {o : Oper} {a : Act} {Q : Exit → Act → World → Prop} (hgd : o.guard = none) (s x : Operand) (t : TypeId)
  (ho : o.op = .call { callee := .builtin .append, args := #[s, x], argTypes := #[t, t] })
  (base : Nat) (e : TypeId) (i : TypeInfo) (z : Value) (size bytes : Nat) (ht : P.underlying t = some (.slice e)) (hi : P.info? e = some i) (hz : i.zero = some z)
  (hsize : i.size = size) (hby : i.bytes = bytes) (hzs : z.cells.size = size) (hsz : 0 < size)
  (v : Value) (n : Nat) (xs : List Value) (hs : a.eval s = v) (hown : w.ownsRow base e size v n xs)
  (b2 : Nat) (v2 : Value) (m : Nat) (ys : List Value) (hx : a.eval x = v2) (hown2 : w.ownsRow b2 e size v2 m ys) (h1 : ∀ u ∈ ys, u.oneCell' = true)
  (h63 : n + m ≤ maxLen) (hbytes : (n + m) * bytes ≤ 140737488355328) (hbase : base ≤ w.heap.size)
  (h : ∀ v' w', w'.ownsRow base e size v' (n + m) (xs ++ ys) → w.grownBy w' v.ownBlock → wpList P ops Q rest (a.put o.dst v') w') : wpList P ops Q (o :: rest) a w := by
 obtain ⟨hl, h2⟩ := hown2
 rcases h2 with ⟨rfl, rfl⟩ | ⟨g, cap, cur, rfl, _, hg, hnc, _, Su, htk⟩
 ·
  have e0 : ys = [] := List.length_eq_zero_iff.1 (by omega)
  subst e0
  exact wpList_append_own_none hgd s x t ho base e i size ht hi v n xs hs hown hx (h v w (by rw [Nat.add_zero, List.append_nil]; exact hown) (aD (Below.refl _ _) _))
 ·
  refine wpList_append_own w hgd s x t ho base e i z size bytes ht hi hz hsize hby hzs hsz v n xs hs hown ⟨g, 0, none⟩ m cap ys hx hl (fun j u hj => ?_) h1 h63 hbytes hbase (fun v' w' h3 h4 _ => h v' w' h3 h4)
  have hj2 : j < m * size := by rw [← hl]; exact (List.getElem?_eq_some_iff.1 hj).1
  rw [← htk, List.getElem?_take_of_lt hj2] at hj
  have ha : (⟨g, 0, none⟩ : Addr).add j = ⟨g, j, none⟩ := by unfold Addr.add; split <;> simp_all
  rw [ha, cell_of_row w g j _ _ _ hg]
  simpa using hj
theorem I5 (P Q G need n : Int) (h : List Int) (c : Int) (hl : Hid (h.length = 32)) (hQ : Q < 9223372036854775808) (dG : Hid (ah P Q G = false)) (w : World) (hv : Hid (Vars w)) (hd : Hid (dQ w)) :
  Calls Tryz.prog 7 #[gv P Q G, .int .i64 need, .int .i64 n, .agg (aJ h c)] w (Rt w (zK 1)) := by
 obtain ⟨W, hW⟩ : ∃ W, ((((w.alloc (aC P Q G)).alloc (.cells (aJ h c) 27)).alloc (.cells lJ 32)).alloc (.cells #[.int .u8 0, .int .u8 0, .int .u8 0, .int .u8 0, .int .u8 0, .int .u8 0, .int .u8 0, .int .u8 0, .int .u8 0, .int .u8 0, .int .u8 0, .int .u8 0, .int .u8 0, .int .u8 0, .int .u8 0, .int .u8 0, .int .u8 0, .int .u8 0, .int .u8 0, .int .u8 0, .int .u8 0, .int .u8 0, .int .u8 0, .int .u8 0, .int .u8 0, .int .u8 0, .int .u8 0, .int .u8 0, .int .u8 0, .int .u8 0, .int .u8 0, .int .u8 0, .int .i64 0] 27)) = W := ⟨_, rfl⟩
 have HI0 : Hid (jg w P Q G h c W) := aa (by rw [← hW]; exact jg.start w P Q G h c)
 have HW := aa hW
 clear hW
 go_in
 go_upto_region 1 with (fail)
 rw [HW.out]
 clear HW
 obtain ⟨g0, g1, g2⟩ := HI0.out.gb
 go_wp2_with fail
 clear g0 g1 g2
 refine (aH P Q G false dG hQ _ (aa (hv.out.below HI0.out.b))).mono ?_
 rintro e w1 ⟨rfl, hb1⟩
 have HI1 := aa (HI0.out.below hb1)
 clear hb1 HI0
 go_wp2_with fail
 refine (gJ 1 _).mono ?_
 rintro e wz ⟨rfl, hbz⟩
 have rJ := aa (HI1.out.below hbz)
 clear hbz HI1
 obtain ⟨hq, hdd, hd1, fT⟩ := rJ.out.fail
 have Gf := aa hd1
 have F_ := aa rJ.out.p
 have F9 := aa hq
 have DL := aa hdd
 have oP := aa fT
 clear hq hdd hd1 fT rJ
 go_wp2_with (first
  | ((with_reducible show wpList _ _ _ (⟨none, Op.store _ (Operand.tmp 8) _, _, _, _, _⟩ :: _) _ _); refine wpList_store_row rfl 32 _ _ rfl (w.heap.size + 2) lJ rfl rfl _ _ F_.out bH rfl (fB 0 rfl rfl) ?_)
  | ((with_reducible show wpList _ _ _ (⟨none, Op.store _ (Operand.tmp 10) _, _, _, _, _⟩ :: _) _ _); refine wpList_store_row rfl 27 _ _ rfl (w.heap.size + 3) (aJ (aT 32) 0) rfl rfl _ _ Gf.out (ai rfl) rfl (aR _ _) ?_))
 exact bodyPost_ret (v := zK 1) (bW (p := 8) (q := 9) (r := 10) (s := 11) (ty := 32) (ty2 := 27) rfl _ _ ⟨w.heap.size + 2, 0, none⟩ ⟨w.heap.size + 3, 0, none⟩ _ _ _ _ rfl rfl rfl rfl (run_loadVar_row _ _ _ _ _ _ _ F9.out Tryz.underlying32 rfl bH) (run_loadVar_row _ _ _ _ _ _ _ DL.out Tryz.underlying27 rfl (ai rfl))) rfl ⟨rfl, oP.out⟩
theorem I4 (P Q G need n : Int) (h : List Int) (c : Int) (hl : Hid (h.length = 32)) (hQ : Q < 9223372036854775808) (dG : Hid (ah P Q G = true)) (hdr : Hid (ow c = false)) (w : World) (hv : Hid (Vars w)) (hd : Hid (dQ w)) :
  Calls Tryz.prog 7 #[gv P Q G, .int .i64 need, .int .i64 n, .agg (aJ h c)] w (Rt w (zK 1)) := by
 obtain ⟨W, hW⟩ : ∃ W, ((((w.alloc (aC P Q G)).alloc (.cells (aJ h c) 27)).alloc (.cells lJ 32)).alloc (.cells #[.int .u8 0, .int .u8 0, .int .u8 0, .int .u8 0, .int .u8 0, .int .u8 0, .int .u8 0, .int .u8 0, .int .u8 0, .int .u8 0, .int .u8 0, .int .u8 0, .int .u8 0, .int .u8 0, .int .u8 0, .int .u8 0, .int .u8 0, .int .u8 0, .int .u8 0, .int .u8 0, .int .u8 0, .int .u8 0, .int .u8 0, .int .u8 0, .int .u8 0, .int .u8 0, .int .u8 0, .int .u8 0, .int .u8 0, .int .u8 0, .int .u8 0, .int .u8 0, .int .i64 0] 27)) = W := ⟨_, rfl⟩
 have HI0 : Hid (jg w P Q G h c W) := aa (by rw [← hW]; exact jg.start w P Q G h c)
 have HW := aa hW
 clear hW
 go_in
 go_upto_region 1 with (fail)
 rw [HW.out]
 clear HW
 obtain ⟨g0, g1, g2⟩ := HI0.out.gb
 go_wp2_with fail
 clear g0 g1 g2
 refine (aH P Q G true dG hQ _ (aa (hv.out.below HI0.out.b))).mono ?_
 rintro e w1 ⟨rfl, hb1⟩
 have HI1 := aa (HI0.out.below hb1)
 clear hb1 HI0
 go_wp2_with ((with_reducible show wpList _ _ _ (⟨some 34, _, _, _, _, _⟩ :: _) _ _); refine bg (by rfl) 27 _ rfl (w.heap.size + 1) rfl _ _ _ _ HI1.out.d Tryz.underlying27 rfl (ai hl.out) ?_)
 refine (eB h hl c false hdr _).mono ?_
 rintro e w2 ⟨rfl, hb2⟩
 have HI2 := aa (HI1.out.below hb2)
 clear hb2 HI1
 go_wp2_with fail
 refine (gJ 1 _).mono ?_
 rintro e wz ⟨rfl, hbz⟩
 have rJ := aa (HI2.out.below hbz)
 clear hbz HI2
 obtain ⟨hq, hdd, hd1, fT⟩ := rJ.out.fail
 have Gf := aa hd1
 have F_ := aa rJ.out.p
 have F9 := aa hq
 have DL := aa hdd
 have oP := aa fT
 clear hq hdd hd1 fT rJ
 go_wp2_with (first
  | ((with_reducible show wpList _ _ _ (⟨none, Op.store _ (Operand.tmp 8) _, _, _, _, _⟩ :: _) _ _); refine wpList_store_row rfl 32 _ _ rfl (w.heap.size + 2) lJ rfl rfl _ _ F_.out bH rfl (fB 0 rfl rfl) ?_)
  | ((with_reducible show wpList _ _ _ (⟨none, Op.store _ (Operand.tmp 10) _, _, _, _, _⟩ :: _) _ _); refine wpList_store_row rfl 27 _ _ rfl (w.heap.size + 3) (aJ (aT 32) 0) rfl rfl _ _ Gf.out (ai rfl) rfl (aR _ _) ?_))
 exact bodyPost_ret (v := zK 1) (bW (p := 8) (q := 9) (r := 10) (s := 11) (ty := 32) (ty2 := 27) rfl _ _ ⟨w.heap.size + 2, 0, none⟩ ⟨w.heap.size + 3, 0, none⟩ _ _ _ _ rfl rfl rfl rfl (run_loadVar_row _ _ _ _ _ _ _ F9.out Tryz.underlying32 rfl bH) (run_loadVar_row _ _ _ _ _ _ _ DL.out Tryz.underlying27 rfl (ai rfl))) rfl ⟨rfl, oP.out⟩
theorem I1 (P Q G need n : Int) (h : List Int) (c : Int) (hl : Hid (h.length = 32)) (hQ : Q < 9223372036854775808) (dG : Hid (ah P Q G = true)) (hdr : Hid (ow c = true)) (hnu : Hid (lT Q need n = false)) (w : World) (hv : Hid (Vars w)) (hd : Hid (dQ w)) :
  Calls Tryz.prog 7 #[gv P Q G, .int .i64 need, .int .i64 n, .agg (aJ h c)] w (Rt w (zK 2)) := by
 obtain ⟨W, hW⟩ : ∃ W, ((((w.alloc (aC P Q G)).alloc (.cells (aJ h c) 27)).alloc (.cells lJ 32)).alloc (.cells #[.int .u8 0, .int .u8 0, .int .u8 0, .int .u8 0, .int .u8 0, .int .u8 0, .int .u8 0, .int .u8 0, .int .u8 0, .int .u8 0, .int .u8 0, .int .u8 0, .int .u8 0, .int .u8 0, .int .u8 0, .int .u8 0, .int .u8 0, .int .u8 0, .int .u8 0, .int .u8 0, .int .u8 0, .int .u8 0, .int .u8 0, .int .u8 0, .int .u8 0, .int .u8 0, .int .u8 0, .int .u8 0, .int .u8 0, .int .u8 0, .int .u8 0, .int .u8 0, .int .i64 0] 27)) = W := ⟨_, rfl⟩
 have HI0 : Hid (jg w P Q G h c W) := aa (by rw [← hW]; exact jg.start w P Q G h c)
 have HW := aa hW
 clear hW
 go_in
 go_upto_region 1 with (fail)
 rw [HW.out]
 clear HW
 obtain ⟨g0, g1, g2⟩ := HI0.out.gb
 go_wp2_with fail
 clear g0 g1 g2
 refine (aH P Q G true dG hQ _ (aa (hv.out.below HI0.out.b))).mono ?_
 rintro e w1 ⟨rfl, hb1⟩
 have HI1 := aa (HI0.out.below hb1)
 clear hb1 HI0
 go_wp2_with ((with_reducible show wpList _ _ _ (⟨some 34, _, _, _, _, _⟩ :: _) _ _); refine bg (by rfl) 27 _ rfl (w.heap.size + 1) rfl _ _ _ _ HI1.out.d Tryz.underlying27 rfl (ai hl.out) ?_)
 refine (eB h hl c true hdr _).mono ?_
 rintro e w2 ⟨rfl, hb2⟩
 have HI2 := aa (HI1.out.below hb2)
 clear hb2 HI1
 obtain ⟨g0, g1, g2⟩ := HI2.out.gb
 go_wp2_with fail
 clear g0 g1 g2
 refine (kr P Q G need n false hnu _).mono ?_
 rintro e w3 ⟨rfl, hb3⟩
 have HI3 := aa (HI2.out.below hb3)
 clear hb3 HI2
 go_wp2_with fail
 refine (gJ 2 _).mono ?_
 rintro e wz ⟨rfl, hbz⟩
 have rJ := aa (HI3.out.below hbz)
 clear hbz HI3
 obtain ⟨hq, hdd, hd1, fT⟩ := rJ.out.fail
 have Gf := aa hd1
 have F_ := aa rJ.out.p
 have F9 := aa hq
 have DL := aa hdd
 have oP := aa fT
 clear hq hdd hd1 fT rJ
 go_wp2_with (first
  | ((with_reducible show wpList _ _ _ (⟨none, Op.store _ (Operand.tmp 8) _, _, _, _, _⟩ :: _) _ _); refine wpList_store_row rfl 32 _ _ rfl (w.heap.size + 2) lJ rfl rfl _ _ F_.out bH rfl (fB 0 rfl rfl) ?_)
  | ((with_reducible show wpList _ _ _ (⟨none, Op.store _ (Operand.tmp 10) _, _, _, _, _⟩ :: _) _ _); refine wpList_store_row rfl 27 _ _ rfl (w.heap.size + 3) (aJ (aT 32) 0) rfl rfl _ _ Gf.out (ai rfl) rfl (aR _ _) ?_))
 exact bodyPost_ret (v := zK 2) (bW (p := 8) (q := 9) (r := 10) (s := 11) (ty := 32) (ty2 := 27) rfl _ _ ⟨w.heap.size + 2, 0, none⟩ ⟨w.heap.size + 3, 0, none⟩ _ _ _ _ rfl rfl rfl rfl (run_loadVar_row _ _ _ _ _ _ _ F9.out Tryz.underlying32 rfl bH) (run_loadVar_row _ _ _ _ _ _ _ DL.out Tryz.underlying27 rfl (ai rfl))) rfl ⟨rfl, oP.out⟩
theorem IZ (P Q G need n : Int) (h : List Int) (c : Int) (hl : Hid (h.length = 32)) (hQ : Q < 9223372036854775808) (dG : Hid (ah P Q G = true)) (hdr : Hid (ow c = true)) (hnu : Hid (lT Q need n = true)) (tZ : Hid (aA h = true)) (x0 c1 : Int) (JU : Kp (mV h Q 256 c = (x0, c1, true))) (w : World) (hv : Hid (Vars w)) (hd : Hid (dQ w)) :
  Calls Tryz.prog 7 #[gv P Q G, .int .i64 need, .int .i64 n, .agg (aJ h c)] w (Rt w (zK 5)) := by
 obtain ⟨NA, vp, Nz, Ny⟩ := az dG.out
 obtain ⟨W, hW⟩ : ∃ W, ((((w.alloc (aC P Q G)).alloc (.cells (aJ h c) 27)).alloc (.cells lJ 32)).alloc (.cells #[.int .u8 0, .int .u8 0, .int .u8 0, .int .u8 0, .int .u8 0, .int .u8 0, .int .u8 0, .int .u8 0, .int .u8 0, .int .u8 0, .int .u8 0, .int .u8 0, .int .u8 0, .int .u8 0, .int .u8 0, .int .u8 0, .int .u8 0, .int .u8 0, .int .u8 0, .int .u8 0, .int .u8 0, .int .u8 0, .int .u8 0, .int .u8 0, .int .u8 0, .int .u8 0, .int .u8 0, .int .u8 0, .int .u8 0, .int .u8 0, .int .u8 0, .int .u8 0, .int .i64 0] 27)) = W := ⟨_, rfl⟩
 have HI0 : Hid (jg w P Q G h c W) := aa (by rw [← hW]; exact jg.start w P Q G h c)
 have HW := aa hW
 clear hW
 go_in
 go_upto_region 1 with (fail)
 rw [HW.out]
 clear HW
 obtain ⟨g0, g1, g2⟩ := HI0.out.gb
 go_wp2_with fail
 clear g0 g1 g2
 refine (aH P Q G true dG hQ _ (aa (hv.out.below HI0.out.b))).mono ?_
 rintro e w1 ⟨rfl, hb1⟩
 have HI1 := aa (HI0.out.below hb1)
 clear hb1 HI0
 go_wp2_with ((with_reducible show wpList _ _ _ (⟨some 34, _, _, _, _, _⟩ :: _) _ _); refine bg (by rfl) 27 _ rfl (w.heap.size + 1) rfl _ _ _ _ HI1.out.d Tryz.underlying27 rfl (ai hl.out) ?_)
 refine (eB h hl c true hdr _).mono ?_
 rintro e w2 ⟨rfl, hb2⟩
 have HI2 := aa (HI1.out.below hb2)
 clear hb2 HI1
 obtain ⟨g0, g1, g2⟩ := HI2.out.gb
 go_wp2_with fail
 clear g0 g1 g2
 refine (kr P Q G need n true hnu _).mono ?_
 rintro e w3 ⟨rfl, hb3⟩
 have HI3 := aa (HI2.out.below hb3)
 clear hb3 HI2
 obtain ⟨g0, g1, g2⟩ := HI3.out.gb
 go_wp2_with ((with_reducible show wpList _ _ _ (⟨some 57, _, _, _, _, _⟩ :: _) _ _); refine wpList_load_row rfl 27 _ rfl (w.heap.size + 1) rfl _ _ _ _ HI3.out.d Tryz.underlying27 rfl (ai hl.out) ?_)
 clear g0 g1 g2
 refine (rq h hl tZ c hdr Q (by omega) (by omega) x0 c1 true JU (aT 32) 0 5 0 (aa rfl) _ (aa (hd.out.below HI3.out.b))).mono ?_
 rintro e w4 ⟨rfl, hb4⟩
 rw [show uU (aT 32) 0 0 5 = .tuple #[.agg (aJ (aT 32) 0), .int .i64 0, .int .i64 5] from rfl]
 have HI4 := aa (HI3.out.below hb4)
 clear hb4 HI3
 go_upto_region 7 with ((with_reducible show wpList _ _ _ (⟨none, _, _, _, _, _⟩ :: _) _ _); refine wpList_store_row rfl 27 _ _ rfl (w.heap.size + 1) (aJ (aT 32) 0) rfl rfl _ _ HI4.out.d (ai rfl) (dZ hl.out rfl) (aR _ _) ?_)
 have ni : Hid (jg w P Q G (aT 32) 0 (w4.setRow (w.heap.size + 1) (aJ (aT 32) 0))) := aa HI4.out.put
 clear HI4
 obtain ⟨w5, zD⟩ : ∃ u, w4.setRow (w.heap.size + 1) (aJ (aT 32) 0) = u := ⟨_, rfl⟩
 rw [zD] at ni ⊢
 clear zD
 go_wp2_with fail
 refine (gJ 5 _).mono ?_
 rintro e wz ⟨rfl, hbz⟩
 have rJ := aa (ni.out.below hbz)
 clear hbz ni
 obtain ⟨hq, hdd, hd1, fT⟩ := rJ.out.fail
 have Gf := aa hd1
 have F_ := aa rJ.out.p
 have F9 := aa hq
 have DL := aa hdd
 have oP := aa fT
 clear hq hdd hd1 fT rJ
 go_wp2_with (first
  | ((with_reducible show wpList _ _ _ (⟨none, Op.store _ (Operand.tmp 8) _, _, _, _, _⟩ :: _) _ _); refine wpList_store_row rfl 32 _ _ rfl (w.heap.size + 2) lJ rfl rfl _ _ F_.out bH rfl (fB 0 rfl rfl) ?_)
  | ((with_reducible show wpList _ _ _ (⟨none, Op.store _ (Operand.tmp 10) _, _, _, _, _⟩ :: _) _ _); refine wpList_store_row rfl 27 _ _ rfl (w.heap.size + 3) (aJ (aT 32) 0) rfl rfl _ _ Gf.out (ai rfl) rfl (aR _ _) ?_))
 exact bodyPost_ret (v := zK 5) (bW (p := 8) (q := 9) (r := 10) (s := 11) (ty := 32) (ty2 := 27) rfl _ _ ⟨w.heap.size + 2, 0, none⟩ ⟨w.heap.size + 3, 0, none⟩ _ _ _ _ rfl rfl rfl rfl (run_loadVar_row _ _ _ _ _ _ _ F9.out Tryz.underlying32 rfl bH) (run_loadVar_row _ _ _ _ _ _ _ DL.out Tryz.underlying27 rfl (ai rfl))) rfl ⟨rfl, oP.out⟩
theorem IY (P Q G : Int) (m1 nn : Nat) (h : List Int) (c : Int) (hl : Hid (h.length = 32)) (hQ : Q < 9223372036854775808) (dG : Hid (ah P Q G = true)) (hdr : Hid (ow c = true)) (hnu : Hid (lT Q ((m1 + 1 : Nat) : Int) (nn : Int) = true)) (hm1 : m1 ≤ 100) (tZ : Hid (aA h = true)) (x0 c1 : Int) (JU : Kp (mV h Q 256 c = (x0, c1, false))) (zF : Hid (ow c1 = true)) (hst : Hid ((iI h Q c1 m1).2 = true)) (w : World) (hv : Hid (Vars w)) (hd : Hid (dQ w)) :
  Calls Tryz.prog 7 #[gv P Q G, .int .i64 ((m1 + 1 : Nat) : Int), .int .i64 (nn : Int), .agg (aJ h c)] w (Rt w (zK 5)) := by
 obtain ⟨NA, vp, Nz, Ny⟩ := az dG.out
 have q0 : IntKind.i64.wrap (((m1 + 1 : Nat) : Int) - 1) = (m1 : Int) := by rw [show ((m1 + 1 : Nat) : Int) - 1 = (m1 : Int) by omega]; exact IntWalk.i64_in _ (by omega)
 obtain ⟨W, hW⟩ : ∃ W, ((((w.alloc (aC P Q G)).alloc (.cells (aJ h c) 27)).alloc (.cells lJ 32)).alloc (.cells #[.int .u8 0, .int .u8 0, .int .u8 0, .int .u8 0, .int .u8 0, .int .u8 0, .int .u8 0, .int .u8 0, .int .u8 0, .int .u8 0, .int .u8 0, .int .u8 0, .int .u8 0, .int .u8 0, .int .u8 0, .int .u8 0, .int .u8 0, .int .u8 0, .int .u8 0, .int .u8 0, .int .u8 0, .int .u8 0, .int .u8 0, .int .u8 0, .int .u8 0, .int .u8 0, .int .u8 0, .int .u8 0, .int .u8 0, .int .u8 0, .int .u8 0, .int .u8 0, .int .i64 0] 27)) = W := ⟨_, rfl⟩
 have HI0 : Hid (jg w P Q G h c W) := aa (by rw [← hW]; exact jg.start w P Q G h c)
 have HW := aa hW
 clear hW
 go_in
 go_upto_region 1 with (fail)
 rw [HW.out]
 clear HW
 obtain ⟨g0, g1, g2⟩ := HI0.out.gb
 go_wp2_with fail
 clear g0 g1 g2
 refine (aH P Q G true dG hQ _ (aa (hv.out.below HI0.out.b))).mono ?_
 rintro e w1 ⟨rfl, hb1⟩
 have HI1 := aa (HI0.out.below hb1)
 clear hb1 HI0
 go_wp2_with ((with_reducible show wpList _ _ _ (⟨some 34, _, _, _, _, _⟩ :: _) _ _); refine bg (by rfl) 27 _ rfl (w.heap.size + 1) rfl _ _ _ _ HI1.out.d Tryz.underlying27 rfl (ai hl.out) ?_)
 refine (eB h hl c true hdr _).mono ?_
 rintro e w2 ⟨rfl, hb2⟩
 have HI2 := aa (HI1.out.below hb2)
 clear hb2 HI1
 obtain ⟨g0, g1, g2⟩ := HI2.out.gb
 go_wp2_with fail
 clear g0 g1 g2
 refine (kr P Q G ((m1 + 1 : Nat) : Int) (nn : Int) true hnu _).mono ?_
 rintro e w3 ⟨rfl, hb3⟩
 have HI3 := aa (HI2.out.below hb3)
 clear hb3 HI2
 obtain ⟨g0, g1, g2⟩ := HI3.out.gb
 go_wp2_with ((with_reducible show wpList _ _ _ (⟨some 57, _, _, _, _, _⟩ :: _) _ _); refine wpList_load_row rfl 27 _ rfl (w.heap.size + 1) rfl _ _ _ _ HI3.out.d Tryz.underlying27 rfl (ai hl.out) ?_)
 clear g0 g1 g2
 refine (rq h hl tZ c hdr Q (by omega) (by omega) x0 c1 false JU h c1 0 x0 (aa rfl) _ (aa (hd.out.below HI3.out.b))).mono ?_
 rintro e w4 ⟨rfl, hb4⟩
 rw [show uU h c1 x0 0 = .tuple #[.agg (aJ h c1), .int .i64 x0, .int .i64 0] from rfl]
 have HI4 := aa (HI3.out.below hb4)
 clear hb4 HI3
 go_upto_region 7 with ((with_reducible show wpList _ _ _ (⟨none, _, _, _, _, _⟩ :: _) _ _); refine wpList_store_row rfl 27 _ _ rfl (w.heap.size + 1) (aJ h c1) rfl rfl _ _ HI4.out.d (ai hl.out) (dZ hl.out hl.out) (aR _ _) ?_)
 have ni : Hid (jg w P Q G h c1 (w4.setRow (w.heap.size + 1) (aJ h c1))) := aa HI4.out.put
 clear HI4
 obtain ⟨w5, zD⟩ : ∃ u, w4.setRow (w.heap.size + 1) (aJ h c1) = u := ⟨_, rfl⟩
 rw [zD] at ni ⊢
 clear zD
 obtain ⟨g0, g1, g2⟩ := ni.out.gb
 go_wp2_with ((with_reducible show wpList _ _ _ (⟨some 74, _, _, _, _, _⟩ :: _) _ _); refine wpList_load_row rfl 27 _ rfl (w.heap.size + 1) rfl _ _ _ _ ni.out.d Tryz.underlying27 rfl (ai hl.out) ?_)
 clear g0 g1 g2
 refine (qh h hl tZ c1 zF Q (by omega) (by omega) m1 (by omega) _ (aa (hd.out.below ni.out.b))).mono ?_
 intro e w6 hL
 unfold rF at hL
 rw [if_pos hst.out] at hL
 obtain ⟨rfl, hb6⟩ := hL
 have Al := aa (ni.out.below hb6)
 clear hb6 ni
 go_upto_region 10 with ((with_reducible show wpList _ _ _ (⟨none, _, _, _, _, _⟩ :: _) _ _); refine wpList_store_row rfl 27 _ _ rfl (w.heap.size + 1) (aJ (aT 32) 0) rfl rfl _ _ Al.out.d (ai rfl) (dZ hl.out rfl) (aR _ _) ?_)
 have Ak : Hid (jg w P Q G (aT 32) 0 (w6.setRow (w.heap.size + 1) (aJ (aT 32) 0))) := aa Al.out.put
 clear Al
 obtain ⟨w7, hw7⟩ : ∃ u, w6.setRow (w.heap.size + 1) (aJ (aT 32) 0) = u := ⟨_, rfl⟩
 rw [hw7] at Ak ⊢
 clear hw7
 go_wp2_with fail
 refine (gJ 5 _).mono ?_
 rintro e wz ⟨rfl, hbz⟩
 have rJ := aa (Ak.out.below hbz)
 clear hbz Ak
 obtain ⟨hq, hdd, hd1, fT⟩ := rJ.out.fail
 have Gf := aa hd1
 have F_ := aa rJ.out.p
 have F9 := aa hq
 have DL := aa hdd
 have oP := aa fT
 clear hq hdd hd1 fT rJ
 go_wp2_with (first
  | ((with_reducible show wpList _ _ _ (⟨none, Op.store _ (Operand.tmp 8) _, _, _, _, _⟩ :: _) _ _); refine wpList_store_row rfl 32 _ _ rfl (w.heap.size + 2) lJ rfl rfl _ _ F_.out bH rfl (fB 0 rfl rfl) ?_)
  | ((with_reducible show wpList _ _ _ (⟨none, Op.store _ (Operand.tmp 10) _, _, _, _, _⟩ :: _) _ _); refine wpList_store_row rfl 27 _ _ rfl (w.heap.size + 3) (aJ (aT 32) 0) rfl rfl _ _ Gf.out (ai rfl) rfl (aR _ _) ?_))
 exact bodyPost_ret (v := zK 5) (bW (p := 8) (q := 9) (r := 10) (s := 11) (ty := 32) (ty2 := 27) rfl _ _ ⟨w.heap.size + 2, 0, none⟩ ⟨w.heap.size + 3, 0, none⟩ _ _ _ _ rfl rfl rfl rfl (run_loadVar_row _ _ _ _ _ _ _ F9.out Tryz.underlying32 rfl bH) (run_loadVar_row _ _ _ _ _ _ _ DL.out Tryz.underlying27 rfl (ai rfl))) rfl ⟨rfl, oP.out⟩
theorem q8 {W u u' : World} {r : Option Nat} {b : Nat} (h : W.grownBy u (some b)) (h2 : u.grownBy u' r) (hr : ∀ j, r = some j → W.heap.size ≤ j) : W.grownBy u' (some b) :=
 ⟨h2.os.trans h.os, h2.tape.trans h.tape, h2.output.trans h.output, Nat.le_trans h.size h2.size, fun k hk hne => (h2.block k (Nat.lt_of_lt_of_le hk h.size) (fun e => by have := hr k e.symm; omega)).trans (h.block k hk hne)⟩
def Dp (v : Value) : Prop := ∀ k x, v ≠ .int k x
theorem mg (A : Option Addr) (n c : Nat) : Dp (.slice A n c) := fun k x e => by cases e
theorem AV {w u : World} {A : Option Addr} {xs : List Int} {b : Nat} {need : Int} {v v2 v3 v4 : Value} (h : Sl w A xs) (hg : w.grownBy u (some b)) (h1 : bZ w b need v v2) (h2 : bZ u b need v3 v4) (n1 : Dp v) (n2 : Dp v2) : Sl u A xs := fun k hk => by
 obtain ⟨g, o, e, hc⟩ := h k hk
 refine ⟨g, o, e, ?_⟩
 by_cases hb : g = b
 ·
  subst hb
  generalize o + k = j at hc ⊢
  rw [cell_of_row w g j _ _ _ h1] at hc
  rw [cell_of_row u g j _ _ _ h2]
  match j, hc with
  | 0, hc => exact hc
  | 1, hc => exact absurd (by simpa using hc) (n1 _ _)
  | 2, hc => exact absurd (by simpa using hc) (n2 _ _)
  | j + 3, hc => simp at hc
 ·
  by_cases hs : g < w.heap.size
  ·
   rw [World.cell?_of_block (w := w) (w' := u) (a := ⟨g, o + k, none⟩) (hg.block g hs (fun e => by injection e with e; exact hb e))]
   exact hc
  ·
   exfalso
   have h0 : w.heap[g]? = none := Array.getElem?_eq_none (by omega)
   simp [World.cell?, h0] at hc
theorem nP {w : World} {b n : Nat} {v : Value} {xs : List Int} (h : w.ownsRow b 3 1 v n (xs.map (Value.int .i64))) : ∃ A c, v = .slice A n c ∧ n ≤ c ∧ xs.length = n ∧ Sl w A xs ∧ ∀ g o, A = some ⟨g, o, none⟩ → b ≤ g ∧ g < w.heap.size := by
 have hl : xs.length = n := by have := h.1; rw [List.length_map] at this; omega
 have hO : bq w b v xs := by unfold bq; rw [hl]; exact h
 obtain ⟨_, h2⟩ := h
 rcases h2 with ⟨rfl, h0⟩ | ⟨g, cap, cur, rfl, hbg, hg, hnc, _⟩
 ·
  have e : xs = [] := List.eq_nil_of_length_eq_zero (by omega)
  subst e
  exact ⟨none, 0, by rw [h0], by omega, hl, sl0 _ _, fun g o e => by cases e⟩
 ·
  obtain ⟨A, c, e, hS, _⟩ := hO.sl
  cases e
  exact ⟨_, _, by rw [← hl], hnc, hl, hS, fun g o e => by cases e; exact ⟨hbg, fQ hg⟩⟩
theorem xO (l : List (Int × Int)) : ∀ k, k < l.length → (vo l)[k * 2]? = some (.int .i64 (l.getD k (0, 0)).1) ∧ (vo l)[k * 2 + 1]? = some (.int .i64 (l.getD k (0, 0)).2) := by
 induction l with
 | nil => intro k hk; simp at hk
 | cons p t ih =>
  intro k hk
  cases k with
  | zero => exact ⟨rfl, rfl⟩
  | succ j =>
   have h := ih j (by simpa using hk)
   have e : vo (p :: t) = .int .i64 p.1 :: .int .i64 p.2 :: vo t := rfl
   rw [e, show (j + 1) * 2 = j * 2 + 1 + 1 by omega, List.getElem?_cons_succ, List.getElem?_cons_succ, show j * 2 + 1 + 1 + 1 = (j * 2 + 1) + 1 + 1 by omega, List.getElem?_cons_succ, List.getElem?_cons_succ, List.getD_cons_succ]
   exact h
theorem nN {w : World} {b n : Nat} {v : Value} {l : List (Int × Int)} (h : w.ownsRow b 39 2 v n (vo l)) : ∃ A c, v = .slice A n c ∧ l.length = n ∧ Sh w A l ∧ ∀ g o, A = some ⟨g, o, none⟩ → b ≤ g ∧ g < w.heap.size := by
 obtain ⟨h1, h2⟩ := h
 have hl : l.length = n := by rw [Ey] at h1; omega
 rcases h2 with ⟨rfl, h0⟩ | ⟨g, cap, cur, rfl, hbg, hg, hnc, _, hcs, htk⟩
 ·
  have e : l = [] := List.eq_nil_of_length_eq_zero (by omega)
  subst e
  exact ⟨none, 0, by rw [h0], hl, fun k hk => absurd hk (by simp), fun g o e => by cases e⟩
 ·
  refine ⟨some ⟨g, 0, none⟩, cap, rfl, hl, fun k hk => ⟨g, 0, rfl, ?_, ?_⟩, fun g o e => by cases e; exact ⟨hbg, fQ hg⟩⟩
  ·
   have h3 := (xO l k hk).1
   rw [← htk, List.getElem?_take_of_lt (by omega)] at h3
   rw [cell_of_row w g _ _ _ _ hg, Nat.zero_add]
   simpa using h3
  ·
   have h3 := (xO l k hk).2
   rw [← htk, List.getElem?_take_of_lt (by omega)] at h3
   rw [cell_of_row w g _ _ _ _ hg, Nat.zero_add]
   simpa using h3
theorem qH {w : World} {A : Option Addr} {xs : List Int} {k : Nat} {cs : Array Value} (h : Sl w A xs) (hA : ∀ g o, A = some ⟨g, o, none⟩ → g ≠ k) : Sl (w.setRow k cs) A xs := fun j hj => by
 obtain ⟨g, o, e, hc⟩ := h j hj
 exact ⟨g, o, e, by rw [cell_setRow_other _ _ _ _ (hA g o e)]; exact hc⟩
theorem A8 {w : World} {A : Option Addr} {l : List (Int × Int)} {k : Nat} {cs : Array Value} (h : Sh w A l) (hA : ∀ g o, A = some ⟨g, o, none⟩ → g ≠ k) : Sh (w.setRow k cs) A l := fun j hj => by
 obtain ⟨g, o, e, hc, hd⟩ := h j hj
 exact ⟨g, o, e, by rw [cell_setRow_other _ _ _ _ (hA g o e)]; exact hc, by rw [cell_setRow_other _ _ _ _ (hA g o e)]; exact hd⟩
theorem y7 {w u : World} {A : Option Addr} {xs : List Int} {b : Nat} (h : Sl w A xs) (hg : w.grownBy u (some b)) (hA : ∀ g o, A = some ⟨g, o, none⟩ → g ≠ b) : Sl u A xs := fun k hk => by
 obtain ⟨g, o, e, hc⟩ := h k hk
 refine ⟨g, o, e, ?_⟩
 by_cases hs : g < w.heap.size
 ·
  rw [World.cell?_of_block (w := w) (w' := u) (a := ⟨g, o + k, none⟩) (hg.block g hs (fun e2 => by injection e2 with e2; exact hA g o e e2))]
  exact hc
 ·
  exfalso
  have h0 : w.heap[g]? = none := Array.getElem?_eq_none (by omega)
  simp [World.cell?, h0] at hc
theorem FH {q a b : Int} (h : Cg q a b) : a % q = b % q := by
 obtain ⟨t, rfl⟩ := h
 rw [Int.add_mul_emod_self_left]
theorem nO {w w' : World} {b n s : Nat} {T : TypeId} {v : Value} {xs : List Value} {k : Nat} (h : w.ownsRow b T s v n xs) (hg : w.grownBy w' (some k)) (hk : k < b) : w'.ownsRow b T s v n xs :=
 World.ownsRow.kept h hg (Or.inr (fun e => by have := (World.ownsRow.lt h _ e).1; omega))
theorem own_below {w w' : World} {b n s : Nat} {T : TypeId} {v : Value} {xs : List Value} (h : w.ownsRow b T s v n xs) (hb : Below w.heap.size w w') : w'.ownsRow b T s v n xs :=
 World.ownsRow.kept h (aD hb none) (by cases hq : v.ownBlock with | none => exact Or.inl rfl | some j => exact Or.inr (by simp))
theorem p8 {w w' : World} {b n s : Nat} {T : TypeId} {v u : Value} {xs : List Value} (h : w.ownsRow b T s v n xs) (hg : w.grownBy w' u.ownBlock) (hne : ∀ j, v.ownBlock = some j → u.ownBlock ≠ some j) : w'.ownsRow b T s v n xs := by
 refine World.ownsRow.kept h hg ?_
 cases hq : v.ownBlock with
 | none => exact Or.inl rfl
 | some j => exact Or.inr (fun e => hne j hq e.symm)
theorem FE (P Q G : Int) (m1 nn : Nat) (h : List Int) (c : Int) (hl : Hid (h.length = 32)) (hQ : Q < 9223372036854775808) (dG : Hid (ah P Q G = true)) (hdr : Hid (ow c = true)) (hnu : Hid (lT Q ((m1 + 1 : Nat) : Int) (nn : Int) = true)) (hm1 : m1 ≤ 100) (tZ : Hid (aA h = true)) (x0 c1 : Int) (JU : Kp (mV h Q 256 c = (x0, c1, false))) (zF : Hid (ow c1 = true)) (c2 : Int) (hst : Hid ((iI h Q c1 m1).2 = false)) (hc2 : Hid ((iI h Q c1 m1).1 = c2)) (w : World) (hv : Hid (Vars w)) (hd : Hid (dQ w)) :
  Calls Tryz.prog 7 #[gv P Q G, .int .i64 ((m1 + 1 : Nat) : Int), .int .i64 (nn : Int), .agg (aJ h c)] w (LZ P Q G (x0 :: iE h Q c1 m1) (m1 + 1) nn h c2 w) := by
 obtain ⟨NA, vp, Nz, Ny⟩ := az dG.out
 have q0 : IntKind.i64.wrap (((m1 + 1 : Nat) : Int) - 1) = (m1 : Int) := by rw [show ((m1 + 1 : Nat) : Int) - 1 = (m1 : Int) by omega]; exact IntWalk.i64_in _ (by omega)
 have q1 : ∀ k : Nat, k ≤ 8 → IntKind.i64.wrap (((k : Int) + 1) + 1) = ((k : Int) + 1) + 1 := fun k hk => IntWalk.i64_in _ (by omega)
 obtain ⟨hn2, U8, U7⟩ : m1 + 1 ≤ nn ∧ nn ≤ 8 ∧ (nn : Int) < Q := by
  obtain ⟨nm, nk, e1, e2, n1, n2, n3, n4⟩ := nT hnu.out
  omega
 obtain ⟨i0, hi, hz0, hz1, hz2⟩ := info_parts gW
 obtain ⟨i1, hi1, hy0, hy1, hy2⟩ := info_parts Cf
 have LM : Hid (iT P Q G [G] = 0) := aa (fV dG.out (by simp [fE dG.out]))
 have Dz : Hid (dR Q = true) := aa (by have h2 := dG.out; simp [ah] at h2; exact h2.2.2.2.2.1)
 have xq : Hid ((iE h Q c1 m1).length = m1) := aa (nZ _ _ _ _)
 have HF : Hid ((x0 :: iE h Q c1 m1).all (bf Q) = true) := aa (by
  have h1 := hdr.out
  simp [ow] at h1
  have h2 := vM (h := h) (q := Q) (by omega) 256 c h1.2
  rw [JU.1] at h2
  have h3 := h2 rfl
  rw [List.all_cons, yt (by omega), Bool.and_true]
  simp [bf]; omega)
 obtain ⟨W, hW⟩ : ∃ W, ((((w.alloc (aC P Q G)).alloc (.cells (aJ h c) 27)).alloc (.cells lJ 32)).alloc (.cells #[.int .u8 0, .int .u8 0, .int .u8 0, .int .u8 0, .int .u8 0, .int .u8 0, .int .u8 0, .int .u8 0, .int .u8 0, .int .u8 0, .int .u8 0, .int .u8 0, .int .u8 0, .int .u8 0, .int .u8 0, .int .u8 0, .int .u8 0, .int .u8 0, .int .u8 0, .int .u8 0, .int .u8 0, .int .u8 0, .int .u8 0, .int .u8 0, .int .u8 0, .int .u8 0, .int .u8 0, .int .u8 0, .int .u8 0, .int .u8 0, .int .u8 0, .int .u8 0, .int .i64 0] 27)) = W := ⟨_, rfl⟩
 have HI0 : Hid (jg w P Q G h c W) := aa (by rw [← hW]; exact jg.start w P Q G h c)
 have HW := aa hW
 clear hW
 go_in
 go_upto_region 1 with (fail)
 rw [HW.out]
 clear HW
 obtain ⟨g0, g1, g2⟩ := HI0.out.gb
 go_wp2_with fail
 clear g0 g1 g2
 refine (aH P Q G true dG hQ _ (aa (hv.out.below HI0.out.b))).mono ?_
 rintro e w1 ⟨rfl, hb1⟩
 have HI1 := aa (HI0.out.below hb1)
 clear hb1 HI0
 go_wp2_with ((with_reducible show wpList _ _ _ (⟨some 34, _, _, _, _, _⟩ :: _) _ _); refine bg (by rfl) 27 _ rfl (w.heap.size + 1) rfl _ _ _ _ HI1.out.d Tryz.underlying27 rfl (ai hl.out) ?_)
 refine (eB h hl c true hdr _).mono ?_
 rintro e w2 ⟨rfl, hb2⟩
 have HI2 := aa (HI1.out.below hb2)
 clear hb2 HI1
 obtain ⟨g0, g1, g2⟩ := HI2.out.gb
 go_wp2_with fail
 clear g0 g1 g2
 refine (kr P Q G ((m1 + 1 : Nat) : Int) (nn : Int) true hnu _).mono ?_
 rintro e w3 ⟨rfl, hb3⟩
 have HI3 := aa (HI2.out.below hb3)
 clear hb3 HI2
 obtain ⟨g0, g1, g2⟩ := HI3.out.gb
 go_wp2_with ((with_reducible show wpList _ _ _ (⟨some 57, _, _, _, _, _⟩ :: _) _ _); refine wpList_load_row rfl 27 _ rfl (w.heap.size + 1) rfl _ _ _ _ HI3.out.d Tryz.underlying27 rfl (ai hl.out) ?_)
 clear g0 g1 g2
 refine (rq h hl tZ c hdr Q (by omega) (by omega) x0 c1 false JU h c1 0 x0 (aa rfl) _ (aa (hd.out.below HI3.out.b))).mono ?_
 rintro e w4 ⟨rfl, hb4⟩
 rw [show uU h c1 x0 0 = .tuple #[.agg (aJ h c1), .int .i64 x0, .int .i64 0] from rfl]
 have HI4 := aa (HI3.out.below hb4)
 clear hb4 HI3
 go_upto_region 7 with ((with_reducible show wpList _ _ _ (⟨none, _, _, _, _, _⟩ :: _) _ _); refine wpList_store_row rfl 27 _ _ rfl (w.heap.size + 1) (aJ h c1) rfl rfl _ _ HI4.out.d (ai hl.out) (dZ hl.out hl.out) (aR _ _) ?_)
 have ni : Hid (jg w P Q G h c1 (w4.setRow (w.heap.size + 1) (aJ h c1))) := aa HI4.out.put
 clear HI4
 obtain ⟨w5, zD⟩ : ∃ u, w4.setRow (w.heap.size + 1) (aJ h c1) = u := ⟨_, rfl⟩
 rw [zD] at ni ⊢
 clear zD
 have PY := ni.out.z
 obtain ⟨g0, g1, g2⟩ := ni.out.gb
 go_wp2_with ((with_reducible show wpList _ _ _ (⟨some 74, _, _, _, _, _⟩ :: _) _ _); refine wpList_load_row rfl 27 _ rfl (w.heap.size + 1) rfl _ _ _ _ ni.out.d Tryz.underlying27 rfl (ai hl.out) ?_)
 clear g0 g1 g2
 refine (qh h hl tZ c1 zF Q (by omega) (by omega) m1 (by omega) _ (aa (hd.out.below ni.out.b))).mono ?_
 intro e w6 hL
 unfold rF at hL
 rw [if_neg (by rw [hst.out]; decide)] at hL
 obtain ⟨v, rfl, JJ, hb6⟩ := hL
 rw [hc2.out]
 have GM := aa JJ
 clear JJ
 have Al := aa (ni.out.below hb6)
 clear hb6 ni
 go_upto_region 10 with ((with_reducible show wpList _ _ _ (⟨none, _, _, _, _, _⟩ :: _) _ _); refine wpList_store_row rfl 27 _ _ rfl (w.heap.size + 1) (aJ h c2) rfl rfl _ _ Al.out.d (ai hl.out) (dZ hl.out hl.out) (aR _ _) ?_)
 have Ak : Hid (jg w P Q G h c2 (w6.setRow (w.heap.size + 1) (aJ h c2))) := aa Al.out.put
 have JS : Hid (bq (w6.setRow (w.heap.size + 1) (aJ h c2)) (w.heap.size + 4) v (iE h Q c1 m1)) := aa (World.ownsRow.kept (bq.mono GM.out PY) (gZ _ _ _) (Or.inr (fun e => by have := (World.ownsRow.lt (bq.mono GM.out PY) _ e).1; omega)))
 clear GM
 clear Al
 obtain ⟨w7, hw7⟩ : ∃ u, w6.setRow (w.heap.size + 1) (aJ h c2) = u := ⟨_, rfl⟩
 rw [hw7] at Ak JS ⊢
 clear hw7
 obtain ⟨rest, hrest⟩ : ∃ r, iE h Q c1 m1 = r := ⟨_, rfl⟩
 rw [hrest] at JS HF xq
 have Jh := aa hrest
 have DK : Hid ((x0 :: rest).length = m1 + 1) := aa (by rw [List.length_cons, xq.out])
 have Lu : Hid (w7.ownsRow (w.heap.size + 4) 3 1 v m1 (rest.map (Value.int .i64))) := aa (by have h2 := JS.out; unfold bq at h2; rwa [xq.out] at h2)
 clear hrest JS
 have hrow : (w7.alloc (.cells #[.int .i64 x0] 3)).ownsRow w7.heap.size 3 1 (.slice (some ⟨w7.heap.size, 0, none⟩) 1 1) 1 [.int .i64 x0] := ⟨rfl, Or.inr ⟨w7.heap.size, 1, #[.int .i64 x0], rfl, Nat.le_refl _, heap_alloc_new _ _, Nat.le_refl _, by unfold maxLen; decide, rfl, rfl⟩⟩
 go_upto_region 13 with (at_builtin; refine jw rfl _ _ 30 rfl w7.heap.size 3 i0 (.int .i64 0) 1 8 Tryz.underlying30 hi hz0 hz1 hz2 rfl (by decide) (.slice (some ⟨w7.heap.size, 0, none⟩) 1 1) 1 [.int .i64 x0] rfl hrow (w.heap.size + 4) v m1 (rest.map (Value.int .i64)) rfl (Lu.out.alloc _) (ints_oneCell .i64 rest) (by unfold maxLen; omega) (by omega) (by simp) ?_; intro vf w8 Gv Cr)
 have Qv : Below w7.heap.size w7 w8 := ((Below.refl w7.heap.size w7).alloc (Nat.le_refl _) (.cells #[.int .i64 x0] 3)).grown Cr (by simp) (fun j hj => by cases hj; exact Nat.le_refl _)
 have Cm : w8.ownsRow w7.heap.size 3 1 vf (m1 + 1) ((x0 :: rest).map (Value.int .i64)) := by rw [Nat.add_comm m1 1]; exact Gv
 obtain ⟨F, cf, R9, hcf, hfl, JG, Qs⟩ := nP Cm
 subst R9
 have GU := aa (Ak.out.below Qv)
 have GL := aa JG
 have Ri := aa Qs
 clear Qv Gv Cm Cr hrow Lu Ak JG Qs hfl
 go_upto_region 14 with ((with_reducible show wpList _ _ _ (⟨none, _, _, _, _, _⟩ :: _) _ _); refine wpList_store_row rfl 32 _ _ rfl w8.heap.size (oU ((m1 + 1 : Nat) : Int) (.slice none 0 0) (.slice none 0 0)) rfl rfl _ _ (heap_alloc_new _ _) bH rfl (fB _ rfl rfl) ?_)
 rw [World.setRow_alloc_new]
 try simp only [Act.put]
 have Mk : bZ (w8.alloc (.cells (oU ((m1 + 1 : Nat) : Int) (.slice none 0 0) (.slice none 0 0)) 32)) w8.heap.size ((m1 + 1 : Nat) : Int) (.slice none 0 0) (.slice none 0 0) := heap_alloc_new _ _
 have rT := af w8 (.cells (oU ((m1 + 1 : Nat) : Int) (.slice none 0 0) (.slice none 0 0)) 32)
 have DV : (w8.alloc (.cells (oU ((m1 + 1 : Nat) : Int) (.slice none 0 0) (.slice none 0 0)) 32)).heap.size = w8.heap.size + 1 := by simp
 obtain ⟨W9, Qd⟩ : ∃ u, w8.alloc (.cells (oU ((m1 + 1 : Nat) : Int) (.slice none 0 0) (.slice none 0 0)) 32) = u := ⟨_, rfl⟩
 rw [Qd] at Mk rT DV ⊢
 have DJ := aa (GU.out.below rT)
 have Rk := aa (GL.out.below rT)
 have IK := GU.out.z
 obtain ⟨bt, hbt⟩ : ∃ b, w8.heap.size = b := ⟨_, rfl⟩
 have Nk : Hid (∀ g o, F = some ⟨g, o, none⟩ → g < bt) := aa (fun g o e => by have := (Ri.out g o e).2; omega)
 rw [hbt] at Mk DV IK ⊢
 have FZ := aa Mk
 have Jg := aa DV
 clear Mk rT Qd hbt DV GU GL Ri
 go_wp2
 go_loopw [100] (fun i u => ∃ (k : Nat) (vc : Value), k ≤ m1 + 1 ∧ i = .int .i64 k ∧ Hid (bZ u bt ((m1 + 1 : Nat) : Int) vc (.slice none 0 0)) ∧ Hid (u.ownsRow (bt + 1) 3 1 vc k (((jL P Q G (x0 :: rest)).take k).map (Value.int .i64))) ∧ Hid (W9.grownBy u (some bt))) (fun i _ => m1 + 1 - (intOf i).toNat)
 case atStart => exact ⟨0, _, by omega, rfl, FZ, aa (kg _ _), aa (aD (Below.refl _ _) _)⟩
 case round =>
  obtain ⟨k, vc, hk, rfl, HU, HO, uO⟩ := hrel
  have xA := aa (DJ.out.grown uO.out IK)
  have zZ := aa (hv.out.below xA.out.b)
  have hfr := AZ Rk.out uO.out Nk.out (by have := Jg.out; omega)
  by_cases hlt : k < m1 + 1
  ·
   obtain ⟨b, o, hA, hi9⟩ := hfr k (by rw [DK.out]; exact hlt)
   subst hA
   obtain ⟨x1, x2⟩ := bV HF.out (k := k) (by rw [DK.out]; exact hlt)
   have Je := aa (CY (P := P) (Q := Q) (G := G) (f := x0 :: rest) (k := k) (by rw [DK.out]; exact hlt))
   obtain ⟨x, hx⟩ : ∃ x, (x0 :: rest).getD k 0 = x := ⟨_, rfl⟩
   rw [hx] at hi9 x1 x2 Je
   obtain ⟨p, hp⟩ : ∃ p, pw G (x % Q) P = p := ⟨_, rfl⟩
   rw [hp] at Je
   have Ga := aa hp
   obtain ⟨g0, g1, g2⟩ := xA.out.gb
   clear hx hp hfr
   go_wp2_with fail
   clear g0 g1 g2 hi9
   refine (g_ P Q G G x p LM Ga (by omega) (by omega) _ zZ).mono ?_
   rintro e w1 ⟨rfl, hb1⟩
   have JN := aa (HU.out.below hb1)
   have D9 := aa (own_below HO.out hb1)
   have GV := aa (bI uO.out (aD hb1 _))
   have hs1 := JN.out.lt
   have NU : vc.ownBlock ≠ some bt := fun e => by have := (World.ownsRow.lt D9.out _ e).1; omega
   obtain ⟨c5, f5⟩ := JN.out.c1
   clear hb1 HU HO uO xA zZ
   go_wp2_with (at_builtin; refine _root_.Go.wpList_append_lies _ rfl _ _ 30 rfl (bt + 1) 3 i0 (.int .i64 0) 1 8 Tryz.underlying30 hi hz0 hz1 hz2 rfl (by decide) _ _ _ rfl (D9.out.alloc _) ⟨w1.heap.size, 0, none⟩ 1 1 [.int .i64 p] rfl rfl (cell_one_new _ _ _) (ints_oneCell .i64 [p]) (by decide) (by unfold maxLen; omega) (by omega) (by simp; omega) (w1.heap.size + 1) (by simp) ?_; intro gk ck w5 hown5 iP IM KD; have IQ := (JN.out.below (af w1 (.cells #[.int .i64 p] 3))).grown iP NU; obtain ⟨c6, f6⟩ := IQ.c1)
   obtain ⟨v', hv'⟩ : ∃ x, Value.slice (some ⟨gk, 0, none⟩) (k + 1) ck = x := ⟨_, rfl⟩
   rw [hv'] at hown5 ⊢
   have Jc := aa (IQ.set1 v')
   have GM : Hid ((w5.setCell ⟨bt, 1, none⟩ v').ownsRow (bt + 1) 3 1 v' (k + 1) (((jL P Q G (x0 :: rest)).take (k + 1)).map (Value.int .i64))) := aa (by rw [Je.out, List.map_append]; exact nO hown5 (dN bt 1 v') (Nat.lt_succ_self _))
   have Pm : Hid (W9.grownBy (w5.setCell ⟨bt, 1, none⟩ v') (some bt)) := aa (bI (q8 (bI GV.out (aD (af w1 (.cells #[.int .i64 p] 3)) _)) iP (fun j hj => by have := (World.ownsRow.lt D9.out _ hj).1; have := Jg.out; omega)) (dN bt 1 v'))
   clear hown5 iP IQ c5 f5 c6 f6 hv'
   go_roundw
   case rel => exact ⟨k + 1, v', by omega, by go_num, Jc, GM, Pm⟩
   case measure => simp [intOf]; omega
  ·
   obtain rfl : k = m1 + 1 := by omega
   have hO := HO.out
   rw [List.take_of_length_le (by rw [jL, List.length_map, DK.out]; exact Nat.le_refl _)] at hO
   obtain ⟨C, cC, R_, hcC, SX, Qj, Qt⟩ := nP hO
   subst R_
   have JP := aa Qj
   have Jr := aa Qt
   have Rj := aa hfr
   obtain ⟨g0, g1, g2⟩ := xA.out.gb
   clear hO HO Qj Qt hfr hlt hk uO SX hcC
   go_wp2_with fail
   clear g0 g1 g2
   refine (BI Q F (x0 :: rest) (m1 + 1) cf (m1 + 1) (by omega) Dz DK hcf (Nat.le_refl _) (by omega) HF _ zZ Rj).mono ?_
   rintro e wA ⟨A2, cA, L, rfl, hL, Ql, Qu, gL⟩
   have Ur := aa (xA.out.below gL)
   have K9 := aa (HU.out.below gL)
   have Nn := aa (JP.out.below gL)
   have Pv : Hid (∀ g o, C = some ⟨g, o, none⟩ → bt < g ∧ g < wA.heap.size) := aa (fun g o e => by have h1 := Jr.out g o e; have := gL.size; omega)
   have Q_ := aa hL
   have Jk := aa Ql
   have Pt := aa Qu
   obtain ⟨lL, IC⟩ : ∃ l, L.length = l := ⟨_, rfl⟩
   rw [IC]
   have uM := aa IC
   clear hL Ql Qu IC xA HU JP Jr zZ Rj gL DJ Rk Nk FZ Jg
   go_wp2
   go_loopw [23, 24] (fun vS i u => ∃ (k : Nat) (vK : Value), k ≤ nn ∧ i = .int .i64 ((k : Int) + 1) ∧ Hid (bZ u bt ((m1 + 1 : Nat) : Int) (.slice C (m1 + 1) cC) vK) ∧ Hid (u.ownsRow wA.heap.size 3 1 vK k ((kP P Q G (x0 :: rest) k).map (Value.int .i64))) ∧ Hid (u.ownsRow wA.heap.size 39 2 vS k (vo (rU Q (x0 :: rest) k))) ∧ Hid (∀ j, vK.ownBlock = some j → vS.ownBlock ≠ some j) ∧ Hid (wA.grownBy u (some bt))) (fun _ i _ => nn + 1 - (intOf i).toNat)
   case atStart => exact ⟨0, _, by omega, rfl, K9, aa (kg _ _), aa (World.ownsRow_nil _ _ _ _), aa (fun j hj => by cases hj), aa (aD (Below.refl _ _) _)⟩
   case round =>
    obtain ⟨k, vK, hk, rfl, HU, HK, HS, HN, uO⟩ := hrel
    have xA := aa (Ur.out.grown uO.out IK)
    have zZ := aa (hv.out.below xA.out.b)
    by_cases hlt : k < nn
    ·
     have d1 : decide ((k : Int) + 1 ≤ (nn : Int)) = true := by simp; omega
     have Q9 := aa (AV Q_.out uO.out K9.out HU.out (mg _ _ _) (mg _ _ _))
     have Po : Hid (pv L ((k : Int) + 1) % Q = CV Q (x0 :: rest) k) := aa (FH (Pt.out _))
     obtain ⟨V, hV⟩ : ∃ z, CV Q (x0 :: rest) k = z := ⟨_, rfl⟩
     have V0 : 0 ≤ V := by rw [← hV]; exact Int.emod_nonneg _ (by omega)
     have V1 : V < Q := by rw [← hV]; exact Int.emod_lt_of_pos _ (by omega)
     obtain ⟨p, hp⟩ : ∃ p, pw G (V % Q) P = p := ⟨_, rfl⟩
     have Je : Hid (kP P Q G (x0 :: rest) (k + 1) = kP P Q G (x0 :: rest) k ++ [p]) := aa (by rw [CX, hV, hp])
     have OM : Hid (rU Q (x0 :: rest) (k + 1) = rU Q (x0 :: rest) k ++ [((k : Int) + 1, V)]) := aa (by rw [CW, hV])
     rw [hV] at Po
     have Ga := aa hp
     have U0 := q1 k (by omega)
     obtain ⟨g0, g1, g2⟩ := xA.out.gb
     clear hV hp
     go_wp2_with fail
     clear g0 g1 g2
     refine (nM Q A2 L lL cA (m1 + 1) ((k : Int) + 1) (by omega) Dz uM Jk (by omega) (by omega) (by omega) _ zZ Q9).mono ?_
     rintro e w1 ⟨rfl, hb1⟩
     rw [Po.out]
     have HI1 := aa (xA.out.below hb1)
     have JN := aa (HU.out.below hb1)
     have Rc := aa (own_below HK.out hb1)
     have D8 := aa (own_below HS.out hb1)
     have GV := aa (bI uO.out (aD hb1 _))
     obtain ⟨g0, g1, g2⟩ := HI1.out.gb
     clear hb1 HU HK HS uO xA zZ Q9 Po
     go_wp2_with fail
     clear g0 g1 g2
     refine (g_ P Q G G V p LM Ga (by omega) (by omega) _ (aa (hv.out.below HI1.out.b))).mono ?_
     rintro e w2 ⟨rfl, hb2⟩
     have MS := aa (JN.out.below hb2)
     have z_ := aa (own_below Rc.out hb2)
     have HS2 := aa (own_below D8.out hb2)
     have HG2 := aa (bI GV.out (aD hb2 _))
     have hs2 := MS.out.lt
     have hs3 := HG2.out.size
     have gL := K9.out.lt
     have Kz : vK.ownBlock ≠ some bt := fun e => by have := (World.ownsRow.lt z_.out _ e).1; omega
     obtain ⟨c5, f5⟩ := MS.out.c2
     clear hb2 JN Rc D8 GV HI1
     go_upto_region 32 with (at_builtin; refine _root_.Go.wpList_append_lies _ rfl _ _ 30 rfl wA.heap.size 3 i0 (.int .i64 0) 1 8 Tryz.underlying30 hi hz0 hz1 hz2 rfl (by decide) _ _ _ rfl (z_.out.alloc _) ⟨w2.heap.size, 0, none⟩ 1 1 [.int .i64 p] rfl rfl (cell_one_new _ _ _) (ints_oneCell .i64 [p]) (by decide) (by unfold maxLen; omega) (by omega) (by simp; omega) (w2.heap.size + 1) (by simp) ?_; intro gk ck w5 hown5 iP IM KD; have IQ := (MS.out.below (af w2 (.cells #[.int .i64 p] 3))).grown iP Kz; obtain ⟨c6, f6⟩ := IQ.c2)
     obtain ⟨vN, NM⟩ : ∃ x, Value.slice (some ⟨gk, 0, none⟩) (k + 1) ck = x := ⟨_, rfl⟩
     have Qn : vN.ownBlock = some gk := by rw [← NM]; rfl
     rw [NM] at hown5 ⊢
     have Ol := IQ.set2 vN
     have JJ : (w5.setCell ⟨bt, 2, none⟩ vN).ownsRow wA.heap.size 3 1 vN (k + 1) ((kP P Q G (x0 :: rest) (k + 1)).map (Value.int .i64)) := by rw [Je.out, List.map_append]; exact nO hown5 (dN bt 2 vN) (by omega)
     have Mo : wA.grownBy (w5.setCell ⟨bt, 2, none⟩ vN) (some bt) := bI (q8 (bI HG2.out (aD (af w2 (.cells #[.int .i64 p] 3)) _)) iP (fun j hj => (World.ownsRow.lt z_.out _ hj).1)) (dN bt 2 vN)
     have Om : (w5.setCell ⟨bt, 2, none⟩ vN).ownsRow wA.heap.size 39 2 u23 k (vo (rU Q (x0 :: rest) k)) := nO (p8 (HS2.out.alloc _) iP (fun j hj e => HN.out j e hj)) (dN bt 2 vN) (by omega)
     have Qo : ∀ j, vN.ownBlock = some j → u23.ownBlock ≠ some j := fun j hj e => by
      rw [Qn] at hj
      cases hj
      rcases IM with h1 | h1
      · exact HN.out _ h1 e
      ·
       have := (World.ownsRow.lt HS2.out _ e).2
       omega
     obtain ⟨wB, P5⟩ : ∃ u, w5.setCell ⟨bt, 2, none⟩ vN = u := ⟨_, rfl⟩
     rw [P5] at Ol JJ Mo Om ⊢
     have Jc := aa Ol
     have JZ := aa JJ
     have Pm := aa Mo
     have F5 := aa Om
     have Q8 := aa Qo
     have hs6 := Mo.size
     clear hown5 iP IQ c5 f5 c6 f6 Ol JJ Mo Om Qo P5 IM KD NM Qn HN MS z_ HS2 HG2 hs2 hs3 Kz
     go_wp2_with (at_builtin; refine _root_.Go.wpList_append_lies _ rfl _ _ 33 rfl wA.heap.size 39 i1 (.agg #[.int .i64 0, .int .i64 0]) 2 16 Tryz.underlying33 hi1 hy0 hy1 hy2 rfl (by decide) _ _ _ rfl (F5.out.alloc _) ⟨wB.heap.size, 0, none⟩ 1 1 [.int .i64 ((k : Int) + 1), .int .i64 V] rfl rfl (World.news_of_block (cs := #[.int .i64 ((k : Int) + 1), .int .i64 V]) (t := 39) (fr := (0, 0)) (heap_alloc_new wB _)) (by simp [Value.oneCell']) (by decide) (by unfold maxLen; omega) (by omega) (by simp; omega) (wB.heap.size + 1) (by simp) ?_; intro gs cs w9 tV jK Fv IB)
     have Ky : u23.ownBlock ≠ some bt := fun e => by have := (World.ownsRow.lt F5.out _ e).1; omega
     have FZ := aa ((Jc.out.below (af wB (.cells #[.int .i64 ((k : Int) + 1), .int .i64 V] 39))).grown jK Ky)
     have Um : Hid (w9.ownsRow wA.heap.size 3 1 vN (k + 1) ((kP P Q G (x0 :: rest) (k + 1)).map (Value.int .i64))) := aa (p8 (JZ.out.alloc _) jK Q8.out)
     have Jg : Hid (w9.ownsRow wA.heap.size 39 2 (.slice (some ⟨gs, 0, none⟩) (k + 1) cs) (k + 1) (vo (rU Q (x0 :: rest) (k + 1)))) := aa (by rw [OM.out, xP]; exact tV)
     have T_ : Hid (∀ j, vN.ownBlock = some j → (Value.slice (some ⟨gs, 0, none⟩) (k + 1) cs).ownBlock ≠ some j) := aa (fun j hj e => by
      cases e
      rcases Fv with h1 | h1
      · exact Q8.out _ hj h1
      ·
       have h3 : gs < wB.heap.size := (World.ownsRow.lt JZ.out _ hj).2
       omega)
     have Us : Hid (wA.grownBy w9 (some bt)) := aa (q8 (bI Pm.out (aD (af wB (.cells #[.int .i64 ((k : Int) + 1), .int .i64 V] 39)) _)) jK (fun j hj => (World.ownsRow.lt F5.out _ hj).1))
     clear tV jK Fv IB Ky
     go_roundw
     case rel => exact ⟨k + 1, vN, by omega, by go_num, FZ, Um, Jg, T_, Us⟩
     case measure => simp [intOf]; omega
    ·
     obtain rfl : k = nn := by omega
     have d1 : decide ((k : Int) + 1 ≤ (k : Int)) = false := by simp; omega
     obtain ⟨B, cB, hvk, hcB, SV, Qi, hKb⟩ := nP HK.out
     subst hvk
     obtain ⟨S, cS, hvs, KH, hSS, hSb⟩ := nN HS.out
     subst hvs
     have Dw := aa Qi
     have Du := aa hSS
     have gL := K9.out.lt
     have Li := aa (y7 Nn.out uO.out (fun g o e => by have := (Pv.out g o e).1; omega))
     have hkb : ∀ g o, B = some ⟨g, o, none⟩ → w.heap.size + 4 ≤ g := fun g o e => by have := (hKb g o e).1; omega
     have hsb : ∀ g o, S = some ⟨g, o, none⟩ → w.heap.size + 4 ≤ g := fun g o e => by have := (hSb g o e).1; omega
     have hcb : ∀ g o, C = some ⟨g, o, none⟩ → w.heap.size + 4 ≤ g := fun g o e => by have := (Pv.out g o e).1; omega
     have Ra := aa hkb
     have QX := aa hsb
     have Jr := aa hcb
     clear Qi hSS hKb hSb hkb hsb hcb SV KH hcB HK HS HN Q_ K9 Nn Pv hlt hk
     go_wp2
     have Jq := aa (xA.out.below (Below.refl wr.heap.size wr).drew)
     have OJ := aa (HU.out.below (Below.refl wr.heap.size wr).drew)
     have Uk := aa (Dw.out.below (Below.refl wr.heap.size wr).drew)
     have TH := aa (Du.out.below (Below.refl wr.heap.size wr).drew)
     have Uy := aa (Li.out.below (Below.refl wr.heap.size wr).drew)
     clear xA HU Dw Du Li uO zZ
     have Rn : Hid (aQ (wr.drew.setRow (w.heap.size + 2) (oU ((m1 + 1 : Nat) : Int) (.slice C (m1 + 1) cC) (.slice B k cB))) (w.heap.size + 3) (aT 32) 0) := aa (Jq.out.e.row (by omega))
     have JQ : Hid (bZ ((wr.drew.setRow (w.heap.size + 2) (oU ((m1 + 1 : Nat) : Int) (.slice C (m1 + 1) cC) (.slice B k cB))).setRow (w.heap.size + 3) (aJ h c2)) (w.heap.size + 2) ((m1 + 1 : Nat) : Int) (.slice C (m1 + 1) cC) (.slice B k cB)) := aa (Jq.out.p.setRow.row (by omega))
     have DL : Hid (aQ ((wr.drew.setRow (w.heap.size + 2) (oU ((m1 + 1 : Nat) : Int) (.slice C (m1 + 1) cC) (.slice B k cB))).setRow (w.heap.size + 3) (aJ h c2)) (w.heap.size + 3) h c2) := aa Rn.out.setRow
     have oP : Hid (Below w.heap.size w ((wr.drew.setRow (w.heap.size + 2) (oU ((m1 + 1 : Nat) : Int) (.slice C (m1 + 1) cC) (.slice B k cB))).setRow (w.heap.size + 3) (aJ h c2))) := aa (aj (aj Jq.out.b (by omega)) (by omega))
     have UA : Hid (Sl ((wr.drew.setRow (w.heap.size + 2) (oU ((m1 + 1 : Nat) : Int) (.slice C (m1 + 1) cC) (.slice B k cB))).setRow (w.heap.size + 3) (aJ h c2)) C (jL P Q G (x0 :: rest))) := aa (qH (qH Uy.out (fun g o e => by have := Jr.out g o e; omega)) (fun g o e => by have := Jr.out g o e; omega))
     have Ul : Hid (Sl ((wr.drew.setRow (w.heap.size + 2) (oU ((m1 + 1 : Nat) : Int) (.slice C (m1 + 1) cC) (.slice B k cB))).setRow (w.heap.size + 3) (aJ h c2)) B (kP P Q G (x0 :: rest) k)) := aa (qH (qH Uk.out (fun g o e => by have := Ra.out g o e; omega)) (fun g o e => by have := Ra.out g o e; omega))
     have GL : Hid (Sh ((wr.drew.setRow (w.heap.size + 2) (oU ((m1 + 1 : Nat) : Int) (.slice C (m1 + 1) cC) (.slice B k cB))).setRow (w.heap.size + 3) (aJ h c2)) S (rU Q (x0 :: rest) k)) := aa (A8 (A8 TH.out (fun g o e => by have := QX.out g o e; omega)) (fun g o e => by have := QX.out g o e; omega))
     refine di (S := fun w' => bZ w' bt ((m1 + 1 : Nat) : Int) (.slice C (m1 + 1) cC) (.slice B k cB) ∧ aQ w' (w.heap.size + 1) h c2) (E := [5, 6]) (by kernel_rfl) (by exact ⟨OJ.out, Jq.out.d⟩) (fun hHeld => ?_)
     refine PT 0 (.agg (oU ((m1 + 1 : Nat) : Int) (.slice C (m1 + 1) cC) (.slice B k cB))) rfl (nC 32 _ rfl bt rfl _ _ _ _ (fun _ h => h.1) Tryz.underlying32 rfl bH) ?_
     refine lG 1 ?_
     refine PT 2 (.agg (aJ h c2)) rfl (nC 27 _ rfl (w.heap.size + 1) rfl _ _ _ _ (fun _ h => h.2) Tryz.underlying27 rfl (ai hl.out)) ?_
     refine mP 3 fun K hK => ?_
     rw [show (if Region.wanted _ _ = true then _ else _ : Prop) = _ from if_pos rfl]
     refine wp_store_row 32 _ _ rfl (w.heap.size + 2) (oU ((m1 + 1 : Nat) : Int) (.slice C (m1 + 1) cC) (.slice B k cB)) rfl rfl 32 _ Jq.out.p bH rfl (fB _ rfl rfl) ?_
     refine hK.out _ _ ?_ (fun hHeld => ?_)
     · exact ⟨OJ.out.row (by omega), Jq.out.d.row (by omega)⟩
     clear hK K
     try simp only [qq]
     refine mP 4 fun K hK => ?_
     go_simp
     refine hK.out _ _ ?_ (fun hHeld => ?_)
     · exact ⟨OJ.out.row (by omega), Jq.out.d.row (by omega)⟩
     clear hK K
     try simp only [qq]
     refine JA 5 fun K hK => ?_
     rw [show (if Region.wanted _ _ = true then _ else _ : Prop) = _ from if_pos rfl]
     refine wp_store_row 27 _ _ rfl (w.heap.size + 3) (aJ h c2) rfl rfl 27 _ Rn.out (ai hl.out) (dZ rfl hl.out) (aR _ _) ?_
     refine hK.out _ _ ?_
     clear hK K
     try simp only [qq]
     refine JA 6 fun K hK => ?_
     go_simp
     refine hK.out _ _ ?_
     clear hK K
     try simp only [qq]
     refine AA ?_
     go_wp2
     exact bodyPost_ret (v := .tuple #[mO ((m1 + 1 : Nat) : Int) C (m1 + 1) cC B k cB, .slice S k cS, .agg (aJ h c2), .int .i64 0]) (bW (p := 8) (q := 9) (r := 10) (s := 11) (ty := 32) (ty2 := 27) rfl _ _ ⟨w.heap.size + 2, 0, none⟩ ⟨w.heap.size + 3, 0, none⟩ _ _ _ _ rfl rfl rfl rfl (run_loadVar_row _ _ _ _ _ _ _ JQ.out Tryz.underlying32 rfl bH) (run_loadVar_row _ _ _ _ _ _ _ DL.out Tryz.underlying27 rfl (ai hl.out))) rfl (by rw [Jh.out]; exact ⟨C, cC, B, cB, S, cS, rfl, UA.out, Ul.out, GL.out, oP.out⟩)
def GG (P Q G need n : Int) (h : List Int) (c : Int) : Bool := ah P Q G && (ow c && (lT Q need n && (!(mV h Q 256 c).2.2 && !(iI h Q (mV h Q 256 c).2.1 (need.toNat - 1)).2)))
def L6 (P Q G need n : Int) (h : List Int) (c : Int) (w : World) (e : Ending) (w' : World) : Prop :=
 (GG P Q G need n h c = false ∧ ∃ x, x ≠ 0 ∧ e = .returned (zK x) ∧ Below w.heap.size w w') ∨
 (∃ (m1 nn : Nat) (f : List Int) (c2 : Int), ah P Q G = true ∧ need = ((m1 + 1 : Nat) : Int) ∧ n = (nn : Int) ∧ f.length = m1 + 1 ∧ f.all (bf Q) = true ∧ 0 < f.getD 0 0 ∧ m1 + 1 ≤ nn ∧ nn ≤ 8 ∧ (nn : Int) < Q ∧ LZ P Q G f (m1 + 1) nn h c2 w e w')
theorem C9 (P Q G need n : Int) (h : List Int) (c : Int) (hl : Hid (h.length = 32)) (tZ : Hid (aA h = true)) (hQ : Q < 9223372036854775808) (w : World) (hv : Hid (Vars w)) (hd : Hid (dQ w)) :
  Calls Tryz.prog 7 #[gv P Q G, .int .i64 need, .int .i64 n, .agg (aJ h c)] w (L6 P Q G need n h c w) := by
 cases jP : ah P Q G with
 | false => exact (I5 P Q G need n h c hl hQ (aa jP) w hv hd).mono (fun e w' hh => .inl ⟨by simp [GG, jP], 1, by decide, hh⟩)
 | true =>
  cases hdr : ow c with
  | false => exact (I4 P Q G need n h c hl hQ (aa jP) (aa hdr) w hv hd).mono (fun e w' hh => .inl ⟨by simp [GG, hdr], 1, by decide, hh⟩)
  | true =>
   cases hnu : lT Q need n with
   | false => exact (I1 P Q G need n h c hl hQ (aa jP) (aa hdr) (aa hnu) w hv hd).mono (fun e w' hh => .inl ⟨by simp [GG, hnu], 2, by decide, hh⟩)
   | true =>
    obtain ⟨x0, c1, b, hnz⟩ : ∃ x0 c1 b, mV h Q 256 c = (x0, c1, b) := ⟨_, _, _, rfl⟩
    obtain ⟨NA, vp, Nz, Ny⟩ := az jP
    cases b with
    | true => exact (IZ P Q G need n h c hl hQ (aa jP) (aa hdr) (aa hnu) tZ x0 c1 ⟨hnz⟩ w hv hd).mono (fun e w' hh => .inl ⟨by simp [GG, hnz], 5, by decide, hh⟩)
    | false =>
     obtain ⟨m, nn, rfl, rfl, n1, n2, n3, n4⟩ := nT hnu
     obtain ⟨m1, rfl⟩ : ∃ m1, m = m1 + 1 := ⟨m - 1, by omega⟩
     obtain ⟨hc0, hc1⟩ : 0 ≤ c ∧ c ≤ 1099511627776 := by have h2 := hdr; simp [ow] at h2; exact h2
     have h4 := vM (h := h) (q := Q) (by omega) 256 c hc1
     rw [hnz] at h4
     obtain ⟨y1, y2, y3, y4⟩ := h4 rfl
     dsimp only at y1 y2 y3 y4
     have zF : ow c1 = true := by simp [ow]; omega
     cases hst : (iI h Q c1 m1).2 with
     | true => exact (IY P Q G m1 nn h c hl hQ (aa jP) (aa hdr) (aa hnu) (by omega) tZ x0 c1 ⟨hnz⟩ (aa zF) (aa hst) w hv hd).mono (fun e w' hh => .inl ⟨by
       have e1 : (((m1 + 1 : Nat) : Int).toNat - 1) = m1 := by omega
       rw [GG, hnz, e1, hst]; simp, 5, by decide, hh⟩)
     | false =>
      refine (FE P Q G m1 nn h c hl hQ (aa jP) (aa hdr) (aa hnu) (by omega) tZ x0 c1 ⟨hnz⟩ (aa zF) (iI h Q c1 m1).1 (aa hst) (aa rfl) w hv hd).mono (fun e w' hh => .inr ⟨m1, nn, x0 :: iE h Q c1 m1, _, jP, rfl, rfl, by rw [List.length_cons, nZ], ?_, y1, n2, n3, n4, hh⟩)
      rw [List.all_cons, yt (by omega), Bool.and_true]
      simp [bf]; omega
def Ac (q : Int) (d : List Int) : Prop := ∀ c ∈ d, Cg q c 0
theorem FV {q : Int} {d : List Int} (h : Ac q d) (X : Int) : Cg q (pv d X) 0 := by
 induction d with
 | nil => exact Cg.refl _ _
 | cons c t ih =>
  rw [pv]
  exact ((h c (by simp)).add ((Cg.refl q X).mul (ih fun b hb => h b (by simp [hb])))).trans (Cg.of_eq (by grind))
def o8 (x : Int) : List Int → List Int
 | [] => []
 | c :: t => match t with
  | [] => []
  | b :: u => pv (b :: u) x :: o8 x (b :: u)
theorem sH (x : Int) : ∀ d : List Int, (o8 x d).length = d.length - 1
 | [] => rfl
 | [_] => rfl
 | c :: b :: u => by
  rw [o8, List.length_cons, sH x (b :: u)]
  simp
theorem xK (x X : Int) : ∀ d : List Int, pv d X = pv d x + (X - x) * pv (o8 x d) X
 | [] => by simp [pv, o8]
 | [c] => by simp [pv, o8]
 | c :: b :: u => by
  have h := xK x X (b :: u)
  show c + X * pv (b :: u) X = (c + x * pv (b :: u) x) + (X - x) * (pv (b :: u) x + X * pv (o8 x (b :: u)) X)
  rw [h]
  grind
theorem pO {q x : Int} : ∀ d : List Int, Ac q (o8 x d) → Cg q (pv d x) 0 → Ac q d
 | [], _, _ => fun c hc => by cases hc
 | [c], _, h => fun b hb => by
  rw [List.mem_singleton.1 hb]
  exact (Cg.of_eq (by simp [pv])).trans h
 | c :: b :: u, h, h2 => by
  rw [o8] at h
  have h3 : Cg q (pv (b :: u) x) 0 := h _ (by simp)
  have h4 := pO (b :: u) (fun z hz => h z (by simp [hz])) h3
  intro z hz
  rcases List.mem_cons.1 hz with rfl | hz
  ·
   rw [pv] at h2
   have h5 : Cg q (z + x * pv (b :: u) x - x * pv (b :: u) x) (0 - x * 0) := h2.sub ((Cg.refl q x).mul h3)
   exact (Cg.of_eq (by omega)).trans (h5.trans (Cg.of_eq (by omega)))
  · exact h4 z hz
theorem Es {q a b : Int} (h : Un q a) (h2 : Cg q (a * b) 0) : Cg q b 0 := by
 obtain ⟨y, hy⟩ := h
 have h3 : Cg q (y * a * b) (1 * b) := hy.mul (Cg.refl q b)
 have h4 : Cg q (y * (a * b)) (y * 0) := (Cg.refl q y).mul h2
 exact ((Cg.of_eq (by rw [Int.one_mul])).trans h3.symm).trans ((Cg.of_eq (Int.mul_assoc _ _ _)).trans (h4.trans (Cg.of_eq (Int.mul_zero _))))
theorem nI {q : Int} {xs : Nat → Int} : ∀ (n : Nat) (d : List Int), d.length ≤ n → (∀ i j, i < n → j < n → i ≠ j → Un q (xs i - xs j)) → (∀ i, i < n → Cg q (pv d (xs i)) 0) → Ac q d
 | 0, d, hl, _, _ => by
  have e : d = [] := List.eq_nil_of_length_eq_zero (by omega)
  subst e
  exact fun c hc => by cases hc
 | n + 1, d, hl, hu, hr => by
  have h0 := hr n (by omega)
  refine pO (x := xs n) d (nI n (o8 (xs n) d) (by rw [sH]; omega) (fun i j hi hj => hu i j (by omega) (by omega)) fun i hi => ?_) h0
  refine Es (hu i n (by omega) (by omega) (by omega)) ?_
  have h1 := hr i (by omega)
  rw [xK (xs n) (xs i) d] at h1
  exact (Cg.of_eq (by omega)).trans ((h1.sub h0).trans (Cg.of_eq (by omega)))
def zY : List Int → List Int → List Int
 | [], g => g
 | f, [] => f
 | a :: f, b :: g => (a + b) :: zY f g
theorem oM (X : Int) : ∀ f g : List Int, pv (zY f g) X = pv f X + pv g X
 | [], g => by simp [zY, pv]
 | a :: f, [] => by simp [zY, pv]
 | a :: f, b :: g => by
  rw [zY, pv, oM X f g, pv, pv]
  grind
theorem m_ : ∀ f g : List Int, ∀ n, f.length ≤ n → g.length ≤ n → (zY f g).length ≤ n
 | [], g, n, _, h => by rw [zY]; exact h
 | a :: f, [], n, h, _ => by rw [zY]; exact h; simp
 | a :: f, b :: g, n, h, h2 => by
  rw [zY, List.length_cons]
  simp only [List.length_cons] at h h2
  have := m_ f g (n - 1) (by omega) (by omega)
  omega
def Gr (k : Int) (f : List Int) : List Int := f.map (k * ·)
theorem nV (k X : Int) : ∀ f : List Int, pv (Gr k f) X = k * pv f X
 | [] => by simp [Gr, pv]
 | a :: f => by
  have h := nV k X f
  rw [Gr] at h ⊢
  rw [List.map_cons, pv, h, pv]
  grind
theorem qW (k : Int) (f : List Int) : (Gr k f).length = f.length := List.length_map _
theorem yz (xs : Nat → Int) : ∀ m, ∃ g : List Int, g.length ≤ m + 1 ∧ ∀ X, pv g X = gp xs X m
 | 0 => ⟨[1], by simp, fun X => by simp [pv, gp]⟩
 | m + 1 => by
  obtain ⟨g, h1, h2⟩ := yz xs m
  refine ⟨zY (0 :: g) (Gr (-(xs m)) g), m_ _ _ _ (by simp; omega) (by rw [qW]; omega), fun X => ?_⟩
  rw [oM, nV, pv, gp, ← h2 X]
  grind
theorem ym (xs ys kp : Nat → Int) : ∀ n, ∃ L : List Int, L.length ≤ n ∧ ∀ X, pv L X = nw xs ys kp X n
 | 0 => ⟨[], by simp, fun X => rfl⟩
 | n + 1 => by
  obtain ⟨L, h1, h2⟩ := ym xs ys kp n
  obtain ⟨g, h3, h4⟩ := yz xs n
  refine ⟨zY L (Gr (kp n) g), m_ _ _ _ (by omega) (by rw [qW]; omega), fun X => ?_⟩
  rw [oM, nV, h2, h4]
  rfl
theorem qa {q : Int} {xs ys : Nat → Int} : ∀ n, (∀ i j, i < n → j < n → i ≠ j → Un q (xs i - xs j)) → ∃ kp : Nat → Int, ∀ m, m < n → Cg q (kp m * gp xs (xs m) m) (ys m - nw xs ys kp (xs m) m)
 | 0, _ => ⟨fun _ => 0, fun m h => absurd h (by omega)⟩
 | n + 1, hu => by
  obtain ⟨kp, hk⟩ := qa n (fun i j hi hj => hu i j (by omega) (by omega))
  obtain ⟨y, hy⟩ : Un q (gp xs (xs n) n) := Cw n (fun j hj => hu n j (by omega) (by omega) (by omega))
  have hc : ∀ k, ∀ m, m ≤ n → ∀ X, nw xs ys (fun m => if m = n then k else kp m) X m = nw xs ys kp X m := fun k m hm X => zz m fun j hj => if_neg (by omega)
  refine ⟨fun m => if m = n then (ys n - nw xs ys kp (xs n) n) * y else kp m, fun m hm => ?_⟩
  rw [hc _ m (by omega)]
  by_cases e : m = n
  ·
   subst e
   dsimp only
   rw [if_pos rfl]
   exact (Cg.of_eq (Int.mul_assoc _ _ _)).trans (((Cg.refl q _).mul hy).trans (Cg.of_eq (Int.mul_one _)))
  ·
   dsimp only
   rw [if_neg e]
   exact hk m (by omega)
where zz {xs ys k1 k2 : Nat → Int} {x : Int} : ∀ m, (∀ j, j < m → k1 j = k2 j) → nw xs ys k1 x m = nw xs ys k2 x m := nS
theorem agree {q : Int} {xs : Nat → Int} {n : Nat} {f g : List Int} (hu : ∀ i j, i < n → j < n → i ≠ j → Un q (xs i - xs j)) (hf : f.length ≤ n) (hg : g.length ≤ n) (h : ∀ i, i < n → Cg q (pv f (xs i)) (pv g (xs i))) : Ac q (zY f (Gr (-1) g)) := by
 refine nI n _ (m_ _ _ _ hf (by rw [qW]; exact hg)) hu fun i hi => ?_
 rw [oM, nV]
 exact ((h i hi).sub (Cg.refl q (pv g (xs i)))).trans (Cg.of_eq (by omega)) |> fun h => (Cg.of_eq (by omega)).trans h
theorem Dj {q : Int} {f g : List Int} (h : Ac q (zY f (Gr (-1) g))) (X : Int) : Cg q (pv f X) (pv g X) := by
 have h1 := FV h X
 rw [oM, nV] at h1
 exact (Cg.of_eq (by omega)).trans ((h1.add (Cg.refl q (pv g X))).trans (Cg.of_eq (by omega)))
abbrev fC (l : List (Int × Int)) (k : Nat) : Int × Int := l.getD k (0, 0)
def fK (Q : Int) (kn : Nat) (p : Int × Int) : Bool := iD kn p.1 && bf Q p.2
def valOf : List (Int × Int) → Int → Option Int
 | [], _ => none
 | p :: t, x => if p.1 = x then some p.2 else valOf t x
def pts (l : List (Int × Int)) : Nat → List (Int × Int)
 | 0 => []
 | k + 1 => match valOf (pts l k) (fC l k).1 with
  | some _ => pts l k
  | none => pts l k ++ [fC l k]
def gm (l : List (Int × Int)) : Nat → Bool
 | 0 => true
 | k + 1 => gm l k && (match valOf (pts l k) (fC l k).1 with
  | some v => v == (fC l k).2
  | none => true)
theorem qf {l : List (Int × Int)} {k : Nat} (h : gm l k = false) : ∀ m, k ≤ m → gm l m = false
  | 0, hm => by obtain rfl : k = 0 := by omega
                exact h
  | m + 1, hm => by
    by_cases e : k = m + 1
    · rw [← e]; exact h
    · rw [gm, qf h m (by omega)]; rfl
theorem xX (l : List (Int × Int)) : ∀ k, (pts l k).length ≤ k
 | 0 => Nat.le_refl _
 | k + 1 => by
  have := xX l k
  rw [pts]
  split
  · omega
  · rw [List.length_append]; simp; omega
theorem qL {l : List (Int × Int)} : ∀ k, k ≤ l.length → ∀ p ∈ pts l k, p ∈ l
 | 0, _, p, hp => by cases hp
 | k + 1, hk, p, hp => by
  rw [pts] at hp
  split at hp
  · exact qL k (by omega) p hp
  ·
   rcases List.mem_append.1 hp with h | h
   · exact qL k (by omega) p h
   ·
    rw [List.mem_singleton.1 h, fC, List.getD_eq_getElem?_getD, List.getElem?_eq_getElem (by omega)]
    exact List.getElem_mem _
theorem uZ {D : List (Int × Int)} {x : Int} (h : valOf D x = none) : ∀ j, j < D.length → (fC D j).1 ≠ x := by
 induction D with
 | nil => exact fun j hj => absurd hj (by simp)
 | cons p t ih =>
  rw [valOf] at h
  split at h
  · cases h
  ·
   rename_i hne
   intro j hj
   cases j with
   | zero => exact hne
   | succ j => exact ih h j (by simpa using hj)
theorem jc {D : List (Int × Int)} {p : Int × Int} {j : Nat} (h : j < D.length) : fC (D ++ [p]) j = fC D j := by
 rw [fC, fC, List.getD_eq_getElem?_getD, List.getD_eq_getElem?_getD, List.getElem?_append_left h]
theorem pR {D : List (Int × Int)} {p : Int × Int} : fC (D ++ [p]) D.length = p := by
 rw [fC, List.getD_eq_getElem?_getD, List.getElem?_append_right (Nat.le_refl _), Nat.sub_self]; rfl
theorem vF (l : List (Int × Int)) : ∀ k i j, i < (pts l k).length → j < i → (fC (pts l k) i).1 ≠ (fC (pts l k) j).1
 | 0, i, j, hi, _ => absurd hi (by simp [pts])
 | k + 1, i, j, hi, hj => by
  cases hv : valOf (pts l k) (fC l k).1 with
  | some v =>
   rw [pts, hv] at hi ⊢
   exact vF l k i j hi hj
  | none =>
   have he : pts l (k + 1) = pts l k ++ [fC l k] := by rw [pts, hv]
   rw [he] at hi ⊢
   rw [List.length_append] at hi
   by_cases e : i = (pts l k).length
   ·
    rw [e, pR, jc (by omega)]
    exact (uZ hv j (by omega)).symm
   ·
    have hi2 : i < (pts l k).length := by simp at hi; omega
    rw [jc hi2, jc (by omega)]
    exact vF l k i j hi2 hj
theorem Ik (l : List (Int × Int)) (k : Nat) : bY (ixs (pts l k)) := fun i j hi hj => by
 rw [List.length_map] at hi
 rw [dF hi, dF (by omega)]
 exact vF l k i j hi hj
def qJ (Q : Int) : Nat → Option Int
 | 0 => some 1
 | k + 1 => match qJ Q k with
  | none => none
  | some n => if 2305843009213693951 / Q < n then none else some (n * Q)
theorem sO {Q : Int} {k : Nat} (h : qJ Q k = none) : ∀ m, k ≤ m → qJ Q m = none
  | 0, hm => by obtain rfl : k = 0 := by omega
                exact h
  | m + 1, hm => by
    by_cases e : k = m + 1
    · rw [← e]; exact h
    · rw [qJ, sO h m (by omega)]
theorem jC {Q : Int} (hQ : 2 ≤ Q) : ∀ k n, qJ Q k = some n → 1 ≤ n ∧ n < 2305843009213693952
 | 0, n, h => by cases h; omega
 | k + 1, n, h => by
  rw [qJ] at h
  cases hp : qJ Q k with
  | none => rw [hp] at h; cases h
  | some m =>
   rw [hp] at h
   dsimp only at h
   split at h
   · cases h
   ·
    rename_i hle
    cases h
    obtain ⟨m1, _⟩ := jC hQ k m hp
    have h1 : m * Q ≤ 2305843009213693951 / Q * Q := Int.mul_le_mul_of_nonneg_right (by omega) (by omega)
    have h2 : 2305843009213693951 / Q * Q ≤ 2305843009213693951 := Int.ediv_mul_le _ (by omega)
    have h3 : 1 * 2 ≤ m * Q := Int.mul_le_mul m1 hQ (by omega) (by omega)
    omega
noncomputable def lX (Q : Int) (D : List (Int × Int)) (m : Nat) : Nat → Bool
 | 0 => true
 | k + 1 => lX Q D m k && (decide (k < m) || smT Q ((ixs D).getD k 0) ((ixs D).take m) (b_ D) m == (b_ D).getD k 0)
theorem qy {Q : Int} {D : List (Int × Int)} {m k : Nat} (h : lX Q D m k = false) : ∀ j, k ≤ j → lX Q D m j = false
  | 0, hm => by obtain rfl : k = 0 := by omega
                exact h
  | j + 1, hm => by
    by_cases e : k = j + 1
    · rw [← e]; exact h
    · rw [lX, qy h j (by omega)]; rfl
noncomputable def jF (Q : Int) (m kn : Nat) (l : List (Int × Int)) : Int :=
 if l.all (fK Q kn) = true then (if gm l l.length = true then (if m < (pts l l.length).length then 0 else if (qJ Q (m - (pts l l.length).length)).isNone = true then 9 else 0) else 0) else 2
noncomputable def jE (Q : Int) (m kn : Nat) (l : List (Int × Int)) : Int :=
 if l.all (fK Q kn) = true then (if gm l l.length = true then (if m < (pts l l.length).length then (if lX Q (pts l l.length) m (pts l l.length).length = true then 1 else 0) else (qJ Q (m - (pts l l.length).length)).getD 0) else 0) else 0
theorem Cc : ((List.range 114).all fun Q : Nat => !dR (Q : Int) || (List.range Q).all fun d => d == 0 || (List.range Q).any fun u => d * u % Q == 1) = true := by kernel_rfl
theorem vQ {Q d : Nat} (hQ : Q ≤ 113) (hp : dR (Q : Int) = true) (h1 : 1 ≤ d) (h2 : d < Q) : ∃ u : Nat, d * u % Q = 1 := by
 have h := List.all_eq_true.1 Cc Q (List.mem_range.2 (by omega))
 rw [hp, Bool.not_true, Bool.false_or] at h
 have h3 := List.all_eq_true.1 h d (List.mem_range.2 h2)
 have h4 : (d == 0) = false := by simp; omega
 rw [h4, Bool.false_or] at h3
 obtain ⟨u, _, hu⟩ := List.any_eq_true.1 h3
 exact ⟨u, by simpa using hu⟩
theorem zo {P Q G x : Int} (hQ : Q ≤ 113) (hv : ah P Q G = true) (h1 : 0 < x) (h2 : x < Q) : pw G x P ≠ 1 := by
 intro h
 have hm := fE hv
 obtain ⟨hP, _, hq, _⟩ := az hv
 obtain ⟨q, rfl⟩ := Int.eq_ofNat_of_zero_le (show 0 ≤ Q by omega)
 obtain ⟨d, rfl⟩ := Int.eq_ofNat_of_zero_le (show 0 ≤ x by omega)
 obtain ⟨u, hu⟩ := vQ (Q := q) (d := d) (by omega) (eT hv) (by omega) (by omega)
 have hg2 : G ≠ 1 := by
  have h3 := hv
  simp [ah] at h3
  omega
 have e1 : pw G ((d : Int) * u) P = 1 := by rw [← sP _ _ _ _ (by omega) (by omega), h, qK _ _ hP]
 have e2 : pw G ((d : Int) * u) P = pw G (((d : Int) * u) % q) P := Bu hP (by omega) (Int.mul_nonneg (by omega) (by omega)) (kF hm)
 have e3 : ((d : Int) * u) % q = 1 := by rw [← Int.natCast_mul, ← Int.natCast_emod, hu]; rfl
 rw [e3, vD, Int.emod_eq_of_lt (by have := eF hm; omega) (eG hm)] at e2
 exact hg2 (e2.symm.trans e1)
def GA (Q i : Int) (f : List Int) : Nat → Int
 | 0 => 0
 | k + 1 => GA Q i f k + f.getD k 0 * qg Q i k
theorem CR (Q i : Int) : ∀ k, Cg Q (qg Q i k) (i ^ k)
 | 0 => Cg.of_eq (by rw [qg, Int.pow_zero])
 | k + 1 => by
  rw [qg, Int.pow_succ]
  exact (Cg.mod _ _).trans ((CR Q i k).mul (Cg.refl _ _))
theorem CQ {Q i : Int} {f : List Int} : ∀ k, k ≤ f.length → Cg Q (GA Q i f k) (pv (f.take k) i)
 | 0, _ => Cg.refl _ _
 | k + 1, h => by
  rw [GA, jd i f k (by omega)]
  exact (CQ k (by omega)).add ((Cg.refl _ _).mul (CR Q i k))
theorem q9 {Q i : Int} {f : List Int} (hQ : 2 ≤ Q) (hf : f.all (bf Q) = true) : ∀ k, k ≤ f.length → 0 ≤ GA Q i f k
 | 0, _ => Int.le_refl _
 | k + 1, h => by
  rw [GA]
  have h1 := q9 (i := i) hQ hf k (by omega)
  have h2 := (bV hf (k := k) (by omega)).1
  have h3 := Int.mul_nonneg h2 (ic (i := i) hQ k).1
  omega
theorem ru {P Q G : Int} {f : List Int} (hf : f.all (bf Q) = true) {k : Nat} (hk : k < f.length) : (jL P Q G f).getD k 0 = pw G (f.getD k 0) P := by
 have h2 := bV hf hk
 have h3 : (jL P Q G f).getD k 0 = pw G (f.getD k 0 % Q) P := by
  rw [jL, List.getD_eq_getElem?_getD, List.getElem?_map, List.getElem?_eq_getElem hk, List.getD_eq_getElem?_getD, List.getElem?_eq_getElem hk]; rfl
 rw [h3, Int.emod_eq_of_lt h2.1 h2.2]
theorem Ca {P Q G i : Int} {f : List Int} (hQ : 2 ≤ Q) (hf : f.all (bf Q) = true) : ∀ k, k ≤ f.length → 2 ≤ P → qb P Q (jL P Q G f) i k = pw G (GA Q i f k) P
 | 0, _, hP => by rw [qb, GA, xV hP]
 | k + 1, h, hP => by
  have e := ic (i := i) hQ k
  have h2 := (bV hf (k := k) (by omega)).1
  rw [qb, Ca hQ hf k (by omega) hP, ru hf (by omega), Int.emod_eq_of_lt e.1 e.2, sP _ _ _ _ h2 e.1, GA, Bw _ _ _ _ (q9 hQ hf k (by omega)) (Int.mul_nonneg h2 e.1)]
where xV {a m : Int} (h : 2 ≤ m) : 1 = pw a 0 m := by rw [pw]; show 1 = a ^ 0 % m; rw [Int.pow_zero]; exact (Int.emod_eq_of_lt (by omega) (by omega)).symm
theorem Ii {P Q G i : Int} {f : List Int} (hv : ah P Q G = true) (hf : f.all (bf Q) = true) : qb P Q (jL P Q G f) i (jL P Q G f).length = pw G (pv f i % Q) P := by
 obtain ⟨hP, _, hq, _⟩ := az hv
 have hl : (jL P Q G f).length = f.length := by rw [jL, List.length_map]
 rw [hl, Ca (by omega) hf f.length (Nat.le_refl _) hP, Bu hP (by omega) (q9 (by omega) hf _ (Nat.le_refl _)) (kF (fE hv)), (CQ f.length (Nat.le_refl _)).eq, List.take_length]
theorem B_ {P Q : Int} {cs : List Int} : ∀ (ks : List Int) (i : Nat), (∀ k, k < ks.length → ks.getD k 0 = qb P Q cs (((i + k : Nat) : Int) + 1) cs.length) → qY P Q cs i ks = true
 | [], _, _ => rfl
 | y :: t, i, h => by
  have h0 := h 0 (by simp)
  rw [qY, B_ t (i + 1) (fun k hk => by
   have h1 := h (k + 1) (by simpa using hk)
   rw [List.getD_cons_succ] at h1
   rw [h1, show i + (k + 1) = i + 1 + k by omega]), Bool.and_true]
  rw [List.getD_cons_zero, Nat.add_zero] at h0
  rw [h0]
  simp
theorem mZ (P Q G : Int) (f : List Int) (n : Nat) : (kP P Q G f n).length = n := by simp [kP]
theorem yG (P Q G : Int) (f : List Int) : (jL P Q G f).length = f.length := by simp [jL]
theorem Fz (Q : Int) (f : List Int) (n : Nat) : (rU Q f n).length = n := by simp [rU]
theorem FC (Q : Int) (f : List Int) {n k : Nat} (hk : k < n) : (rU Q f n).getD k (0, 0) = ((k : Int) + 1, CV Q f k) := by
 simp [rU, List.getD_eq_getElem?_getD, List.getElem?_eq_getElem, hk]
theorem yF (P Q G : Int) (f : List Int) {n k : Nat} (hk : k < n) : (kP P Q G f n).getD k 0 = pw G (CV Q f k % Q) P := by
 simp [kP, List.getD_eq_getElem?_getD, List.getElem?_eq_getElem, hk]
theorem CU {P Q G : Int} {f : List Int} {m nn : Nat} (hv : ah P Q G = true) (hQ : Q ≤ 113) (hf : f.all (bf Q) = true) (hl : f.length = m) (h0 : 0 < f.getD 0 0) (h1 : 1 ≤ m) (h2 : m ≤ nn) (h3 : nn ≤ 8) (h4 : (nn : Int) < Q) : Ay P Q G (m : Int) (jL P Q G f) (kP P Q G f nn) = true := by
 obtain ⟨hP, _, hq, _⟩ := az hv
 have hm := fE hv
 have e1 : fI Q (m : Int) nn = true := by simp [fI]; omega
 have x0 := bV hf (k := 0) (by omega)
 have e2 : (jL P Q G f).getD 0 0 ≠ 1 := by rw [ru hf (by omega)]; exact zo hQ hv h0 x0.2
 have e3 : (jL P Q G f).all (aG P Q) = true := by
  rw [List.all_eq_true]
  intro y hy
  obtain ⟨x, _, rfl⟩ := List.mem_map.1 hy
  exact qX hP (by omega) (Int.emod_nonneg _ (by omega)) hm
 have e4 : qY P Q (jL P Q G f) 0 (kP P Q G f nn) = true := B_ _ 0 fun k hk => by
  rw [mZ] at hk
  rw [yF _ _ _ _ hk, Ii hv hf, CV, Nat.zero_add, Int.emod_emod]
 have e5 : ((jL P Q G f).getD 0 0 == 1) = false := by simpa using e2
 rw [Ay, hv, mZ, e1, yG, hl, e5, e3, e4]
 simp
structure mK (Q : Int) (f : List Int) (nn : Nat) (l : List (Int × Int)) : Prop where
 rng : ∀ k, k < l.length → 1 ≤ (fC l k).1 ∧ (fC l k).1 ≤ nn ∧ (fC l k).2 = pv f (fC l k).1 % Q
 ne : ∀ i j, i < l.length → j < i → (fC l i).1 ≠ (fC l j).1
theorem r_ {x : Int} : ∀ D : List (Int × Int), (∀ j, j < D.length → (fC D j).1 ≠ x) → valOf D x = none
 | [], _ => rfl
 | p :: t, h => by
  rw [valOf, if_neg (show p.1 ≠ x from h 0 (by simp)), r_ t (fun j hj => h (j + 1) (by simpa using hj))]
theorem A_ {l : List (Int × Int)} {j k : Nat} (h : j < k) : fC (l.take k) j = fC l j := by
 rw [fC, fC, List.getD_eq_getElem?_getD, List.getElem?_take_of_lt h, ← List.getD_eq_getElem?_getD]
section
variable {Q : Int} {f : List Int} {nn : Nat} {l : List (Int × Int)}
theorem mK.val (h : mK Q f nn l) {k : Nat} (hk : k < l.length) : valOf (l.take k) (fC l k).1 = none := r_ _ fun j hj => by
 rw [List.length_take] at hj
 rw [A_ (by omega)]
 exact fun e => h.ne k j hk (by omega) e.symm
theorem mK.pts (h : mK Q f nn l) : ∀ k, k ≤ l.length → pts l k = l.take k
 | 0, _ => rfl
 | k + 1, hk => by
  rw [Go.Proofs.YticegghameafgaaGreatDoor.pts, h.pts k (by omega), h.val (by omega), List.take_add_one, List.getElem?_eq_getElem (by omega), fC, List.getD_eq_getElem?_getD, List.getElem?_eq_getElem (by omega)]
  rfl
theorem mK.fit (h : mK Q f nn l) : ∀ k, k ≤ l.length → gm l k = true
 | 0, _ => rfl
 | k + 1, hk => by
  rw [gm, h.fit k (by omega), h.pts k (by omega), h.val (by omega)]; rfl
theorem mK.all (h : mK Q f nn l) (hQ : 2 ≤ Q) : l.all (fK Q nn) = true := by
 rw [List.all_eq_true]
 intro p hp
 obtain ⟨k, hk, rfl⟩ := List.getElem_of_mem hp
 have h1 := h.rng k hk
 rw [fC, List.getD_eq_getElem?_getD, List.getElem?_eq_getElem hk] at h1
 simp only [Option.getD_some] at h1
 rw [fK, iD, h1.2.2, jZ (by omega)]
 simp
 omega
theorem mK.un (h : mK Q f nn l) (hp : dR Q = true) (h8 : nn ≤ 8) (hq : (nn : Int) < Q) {i j : Nat} (hi : i < l.length) (hj : j < l.length) (hne : i ≠ j) : Un Q (cK (ixs l) i - cK (ixs l) j) := by
 have h1 : 1 ≤ (l.getD i (0, 0)).1 ∧ (l.getD i (0, 0)).1 ≤ nn ∧ _ := h.rng i hi
 have h2 : 1 ≤ (l.getD j (0, 0)).1 ∧ (l.getD j (0, 0)).1 ≤ nn ∧ _ := h.rng j hj
 show Un Q ((ixs l).getD i 0 - (ixs l).getD j 0)
 rw [dF hi, dF hj]
 refine qE hp h1.1 (by have := h1.2.1; omega) (by have := h1.2.1; omega) (by have := h2.1; omega) (by have := h2.2.1; omega) (by have := h2.2.1; omega) fun e => ?_
 rcases Nat.lt_or_gt_of_ne hne with h3 | h3
 · exact h.ne j i hj h3 e.symm
 · exact h.ne i j hi h3 e
end
theorem E5 {q : Int} {xs ys f : List Int} {n : Nat} (hu : ∀ i j, i < n → j < n → i ≠ j → Un q (cK xs i - cK xs j)) (hf : f.length ≤ n) (h : ∀ i, i < n → Cg q (pv f (cK xs i)) (cK ys i)) : rE q xs ys n f := by
 obtain ⟨kp, hk⟩ := qa (ys := cK ys) n hu
 obtain ⟨L, h1, h2⟩ := ym (cK xs) (cK ys) kp n
 refine ⟨kp, hk, fun X => ?_⟩
 have h3 := agree (f := f) (g := L) hu hf h1 fun i hi => (h i hi).trans ((Cg.of_eq (h2 _)).trans (BM hk n hi (Nat.le_refl _))).symm
 exact (Dj h3 X).trans (Cg.of_eq (h2 X))
theorem nG {xs : List Int} {m i : Nat} (h : i < m) : cK (xs.take m) i = cK xs i := by
 show (xs.take m).getD i 0 = xs.getD i 0
 rw [List.getD_eq_getElem?_getD, List.getElem?_take_of_lt h, ← List.getD_eq_getElem?_getD]
theorem mK.smT {Q : Int} {f : List Int} {nn m : Nat} {l : List (Int × Int)} (h : mK Q f nn l) (hp : dR Q = true) (h8 : nn ≤ 8) (hq : (nn : Int) < Q) (hf : f.length ≤ m) (hm : m ≤ l.length) (t : Int) : smT Q t ((ixs l).take m) (b_ l) m = pv f t % Q := by
 have hu : ∀ i j, i < m → j < m → i ≠ j → Un Q (cK ((ixs l).take m) i - cK ((ixs l).take m) j) := fun i j hi hj hne => by
  rw [nG hi, nG hj]
  exact h.un hp h8 hq (by omega) (by omega) hne
 refine (ko (eH hp) (by rw [List.length_take, List.length_map]; omega) (E5 hu hf fun i hi => ?_) hu t).symm
 rw [nG hi]
 have h1 := (h.rng i (by omega)).2.2
 show Cg Q (pv f ((ixs l).getD i 0)) ((b_ l).getD i 0)
 rw [dF (by omega), mM (by omega), h1]
 exact (Cg.mod _ _).symm
theorem xM (Q : Int) (xs ys : List Int) : ∀ k, yZ Q xs ys k = smT Q 0 xs ys k
 | 0 => rfl
 | k + 1 => by rw [yZ, smT, xM Q xs ys k]
theorem mK.aft {Q : Int} {f : List Int} {nn m : Nat} {l : List (Int × Int)} (h : mK Q f nn l) (hp : dR Q = true) (h8 : nn ≤ 8) (hq : (nn : Int) < Q) (hf : f.length ≤ m) (hm : m ≤ l.length) : ∀ k, k ≤ l.length → lX Q l m k = true
 | 0, _ => rfl
 | k + 1, hk => by
  rw [lX, h.aft hp h8 hq hf hm k (by omega), h.smT hp h8 hq hf hm, dF (by omega), mM (by omega), (h.rng k (by omega)).2.2]
  simp
theorem Gn {Q : Int} (h0 : 1 ≤ Q) (hQ : Q ≤ 113) : ∀ k : Nat, Q ^ k ≤ 113 ^ k
 | 0 => by rw [Int.pow_zero, Int.pow_zero]; exact Int.le_refl 1
 | k + 1 => by
  rw [Int.pow_succ, Int.pow_succ]
  exact Int.mul_le_mul (Gn h0 hQ k) hQ (by omega) (Int.pow_nonneg (by decide))
theorem Hz (a b : Nat) (h : a ≤ b) : (113 : Int) ^ a ≤ 113 ^ b := by
 have h1 : (113 : Nat) ^ a ≤ 113 ^ b := Nat.pow_le_pow_right (by decide) h
 have h2 : ((113 ^ a : Nat) : Int) ≤ ((113 ^ b : Nat) : Int) := Int.ofNat_le.2 h1
 rwa [Int.natCast_pow, Int.natCast_pow] at h2
theorem KR {Q : Int} (h0 : 1 ≤ Q) (hQ : Q ≤ 113) : 2305843009213693951 / 113 ≤ 2305843009213693951 / Q := by
 rw [Int.le_ediv_iff_mul_le (by omega)]
 have h1 : 2305843009213693951 / 113 * Q ≤ 2305843009213693951 / 113 * 113 := Int.mul_le_mul_of_nonneg_left hQ (by decide)
 have h2 : (2305843009213693951 : Int) / 113 * 113 ≤ 2305843009213693951 := Int.ediv_mul_le _ (by decide)
 omega
theorem xU {Q : Int} (h0 : 1 ≤ Q) (hQ : Q ≤ 113) : ∀ k, k ≤ 8 → qJ Q k = some (Q ^ k)
 | 0, _ => by rw [qJ, Int.pow_zero]
 | k + 1, hk => by
  have h1 : Q ^ k ≤ 113 ^ k := Gn h0 hQ k
  have h2 : (113 : Int) ^ k ≤ 113 ^ 7 := Hz k 7 (by omega)
  have h3 : (113 : Int) ^ 7 ≤ 2305843009213693951 / 113 := by decide +kernel
  have h4 : 2305843009213693951 / 113 ≤ 2305843009213693951 / Q := KR h0 hQ
  rw [qJ, xU h0 hQ k (by omega)]
  dsimp only
  rw [if_neg (by omega), Int.pow_succ]
section
variable {Q : Int} {f : List Int} {nn m : Nat} {l : List (Int × Int)}
theorem mK.ply (h : mK Q f nn l) (hp : dR Q = true) (hQ : Q ≤ 113) (h8 : nn ≤ 8) (hq : (nn : Int) < Q) (hf : f.length ≤ m) (hm : m ≤ 8) : jF Q m nn l = 0 ∧ jE Q m nn l = if l.length ≤ m then Q ^ (m - l.length) else 1 := by
 have q2 := eH hp
 have hl : Go.Proofs.YticegghameafgaaGreatDoor.pts l l.length = l := by rw [h.pts l.length (Nat.le_refl _), List.take_length]
 unfold jF jE
 rw [if_pos (h.all q2), if_pos (h.fit l.length (Nat.le_refl _)), if_pos (h.all q2), if_pos (h.fit l.length (Nat.le_refl _)), hl]
 by_cases hlt : m < l.length
 ·
  rw [if_pos hlt, if_pos hlt, if_pos (h.aft hp h8 hq hf (by omega) l.length (Nat.le_refl _)), if_neg (by omega)]
  exact ⟨rfl, rfl⟩
 ·
  rw [if_neg hlt, if_neg hlt, xU (by omega) hQ _ (by omega)]
  exact ⟨by simp, by rw [if_pos (by omega)]; rfl⟩
end
theorem vE : ∀ f : List Int, pv f 0 = f.getD 0 0
 | [] => rfl
 | c :: t => by rw [pv, Int.zero_mul, Int.add_zero]; rfl
theorem qP {h : List Int} {q m : Int} : ∀ (k : Nat) (c x : Int), c + k ≤ 1099511627776 → (bN h q m k c x).2.2 = false ∧ (bN h q m k c x).2.1 ≤ c + k
 | 0, c, x, hc => ⟨rfl, by show c ≤ c + 0; omega⟩
 | k + 1, c, x, hc => by
  simp only [bN]
  rw [if_neg (show ¬ c = 1099511627776 by omega)]
  by_cases hy : bits BinOp.and IntKind.u64 (iG (iU h c)) m < q
  · rw [if_pos hy]; exact ⟨rfl, by show c + 1 ≤ c + ((k + 1 : Nat) : Int); omega⟩
  ·
   rw [if_neg hy]
   have h1 := qP (h := h) (q := q) (m := m) k (c + 1) (bits BinOp.and IntKind.u64 (iG (iU h c)) m) (by omega)
   exact ⟨h1.1, by omega⟩
theorem BL {h : List Int} {q : Int} : ∀ (k : Nat) (c : Int), c + 256 * k ≤ 1099511627776 → (mV h q k c).2.2 = false ∧ (mV h q k c).2.1 ≤ c + 256 * k
 | 0, c, hc => ⟨rfl, by show c ≤ c + 256 * 0; omega⟩
 | k + 1, c, hc => by
  have h1 := qP (h := h) (q := q) (m := bG q) 256 c 0 (by omega)
  simp only [mV]
  rw [if_neg (by rw [h1.1]; decide)]
  by_cases hz : (bN h q (bG q) 256 c 0).1 = 0
  ·
   rw [if_pos hz]
   have h2 := BL (h := h) (q := q) k (bN h q (bG q) 256 c 0).2.1 (by omega)
   exact ⟨h2.1, by omega⟩
  · rw [if_neg hz]; exact ⟨h1.1, by omega⟩
theorem AJ {h : List Int} {q c : Int} : ∀ (k : Nat), c + 256 * k ≤ 1099511627776 → (iI h q c k).2 = false ∧ (iI h q c k).1 ≤ c + 256 * k
 | 0, hc => ⟨rfl, by show c ≤ c + 256 * 0; omega⟩
 | k + 1, hc => by
  have h1 := AJ (h := h) (q := q) (c := c) k (by omega)
  have h2 := qP (h := h) (q := q) (m := bG q) 256 (iI h q c k).1 0 (by omega)
  exact ⟨h2.1, by show (bN h q (bG q) 256 (iI h q c k).1 0).2.1 ≤ _; omega⟩
theorem zJ {P Q G c : Int} {need n : Nat} {h : List Int} (hv : ah P Q G = true) (c0 : 0 ≤ c) (c1 : c ≤ 1073741824) (h1 : 1 ≤ need) (h2 : need ≤ n) (h3 : n ≤ 8) (h4 : (n : Int) < Q) : GG P Q G need n h c = true := by
 have e1 : ow c = true := by simp [ow]; omega
 have e2 : lT Q need n = true := by simp [lT, fI]; omega
 have g1 := BL (h := h) (q := Q) 256 c (by omega)
 have g2 := AJ (h := h) (q := Q) (c := (mV h Q 256 c).2.1) ((need : Int).toNat - 1) (by omega)
 rw [GG, hv, e1, e2, g1.1, g2.1]
 rfl
theorem Hw {P Q G : Int} {f : List Int} {nn : Nat} {l : List (Int × Int)} (h : mK Q f nn l) (hQ : 2 ≤ Q) : l.all (fun p => jB P Q G (kP P Q G f nn) p.1 p.2) = true := by
 rw [List.all_eq_true]
 intro p hp
 obtain ⟨k, hk, rfl⟩ := List.getElem_of_mem hp
 have h1 := h.rng k hk
 rw [fC, List.getD_eq_getElem?_getD, List.getElem?_eq_getElem hk] at h1
 simp only [Option.getD_some] at h1
 obtain ⟨a, b, e⟩ := h1
 obtain ⟨j, hj⟩ : ∃ j : Nat, l[k].1 = (j : Int) + 1 := ⟨(l[k].1 - 1).toNat, by omega⟩
 have hjn : j < nn := by omega
 have e3 : bf Q l[k].2 = true := by rw [e]; exact jZ (by omega)
 have e4 : iD nn l[k].1 = true := by simp [iD]; omega
 have hs : 0 ≤ l[k].2 ∧ l[k].2 < Q := by simp [bf] at e3; exact e3
 have e5 : (kP P Q G f nn).getD (l[k].1 - 1).toNat 0 = pw G (l[k].2 % Q) P := by
  rw [hj, show ((j : Int) + 1 - 1).toNat = j by omega, yF _ _ _ _ hjn, CV, ← hj, ← e]
 simp only [jB, mZ, e3, e4, Bool.true_and, e5, beq_self_eq_true]
theorem G_ {P Q G : Int} {f : List Int} {nn m : Nat} {l : List (Int × Int)} (h : mK Q f nn l) (hp : dR Q = true) (h8 : nn ≤ 8) (hq : (nn : Int) < Q) (hf : f.length = m) (hm : m ≤ l.length) (hs : f.all (bf Q) = true) (h1 : 1 ≤ m) : jY P Q G (m : Int) (kP P Q G f nn) l = 0 ∧ qI P Q G (m : Int) (kP P Q G f nn) l = f.getD 0 0 := by
 have q2 := eH hp
 have hnt : bY (ixs l) := fun i j hi hj => by
  rw [List.length_map] at hi
  rw [dF hi, dF (by omega)]
  exact h.ne i j hi hj
 have e1 : jY P Q G (m : Int) (kP P Q G f nn) l = 0 := by
  rw [jY, if_pos (Hw h q2)]
  simp [hnt]; omega
 refine ⟨e1, ?_⟩
 rw [qI, if_pos e1, Int.toNat_natCast, xM, h.smT hp h8 hq (by omega) hm, vE, Int.emod_eq_of_lt (bV hs (k := 0) (by omega)).1 (bV hs (k := 0) (by omega)).2]
def jW (Q : Int) (f : List Int) (n tn : Nat) : Nat → List (Int × Int)
 | 0 => []
 | k + 1 => jW Q f n tn k ++ [(rU Q f n).getD ((tn + k) % n) (0, 0)]
theorem iJ (Q : Int) (f : List Int) (n tn : Nat) : ∀ k, (jW Q f n tn k).length = k
 | 0 => rfl
 | k + 1 => by rw [jW, List.length_append, iJ Q f n tn k]; rfl
theorem jV (Q : Int) (f : List Int) {n tn : Nat} (hn : 0 < n) : ∀ k i, i < k → fC (jW Q f n tn k) i = ((((tn + i) % n : Nat) : Int) + 1, CV Q f ((tn + i) % n))
 | 0, i, h => absurd h (by omega)
 | k + 1, i, h => by
  rw [jW]
  by_cases e : i < k
  ·
   rw [jc (by rw [iJ]; exact e)]
   exact jV Q f hn k i e
  ·
   obtain rfl : i = k := by omega
   have h1 := pR (D := jW Q f n tn i) (p := (rU Q f n).getD ((tn + i) % n) (0, 0))
   rw [iJ] at h1
   rw [h1, FC Q f (Nat.mod_lt _ hn)]
theorem Ic {n a i j : Nat} (h : i < j) (hj : j - i < n) : (a + i) % n ≠ (a + j) % n := by
 intro e
 have h1 : (n : Int) ∣ ((a + j : Nat) : Int) - ((a + i : Nat) : Int) := by
  refine Int.dvd_of_emod_eq_zero ?_
  have h2 : (((a + j : Nat) : Int)) % n = (((a + i : Nat) : Int)) % n := by rw [← Int.natCast_emod, ← Int.natCast_emod, e]
  exact Int.emod_eq_emod_iff_emod_sub_eq_zero.1 h2
 have h3 := Int.le_of_dvd (by omega) h1
 omega
theorem Ex (Q : Int) (f : List Int) {n tn : Nat} (hn : 0 < n) {k : Nat} (hk : k ≤ n) : mK Q f n (jW Q f n tn k) := by
 refine ⟨fun i hi => ?_, fun i j hi hj => ?_⟩
 ·
  rw [iJ] at hi
  rw [jV Q f hn k i hi]
  have := Nat.mod_lt (tn + i) hn
  exact ⟨by show (1 : Int) ≤ _ + 1; omega, by show _ + 1 ≤ (n : Int); omega, rfl⟩
 ·
  rw [iJ] at hi
  rw [jV Q f hn k i hi, jV Q f hn k j (by omega)]
  have h1 := Ic (n := n) (a := tn) hj (by omega)
  show (((tn + i) % n : Nat) : Int) + 1 ≠ (((tn + j) % n : Nat) : Int) + 1
  omega
theorem BK {Q : Int} {f : List Int} {n : Nat} {l : List (Int × Int)} (h : mK Q f n l) : mK Q f n (l.drop 1) := by
 have e : ∀ i, fC (l.drop 1) i = fC l (i + 1) := fun i => by
  rw [fC, fC, List.getD_eq_getElem?_getD, List.getElem?_drop, List.getD_eq_getElem?_getD, Nat.add_comm]
 refine ⟨fun i hi => ?_, fun i j hi hj => ?_⟩
 ·
  rw [List.length_drop] at hi
  rw [e]
  exact h.rng (i + 1) (by omega)
 ·
  rw [List.length_drop] at hi
  rw [e, e]
  exact h.ne (i + 1) (j + 1) (by omega) (by omega)
theorem CF {Q : Int} {f : List Int} {n : Nat} {l : List (Int × Int)} (h : mK Q f n l) (hp : dR Q = true) (h8 : n ≤ 8) (hq : (n : Int) < Q) : (∀ i j, i < l.length + 1 → j < l.length + 1 → i ≠ j → Un Q (cK (0 :: ixs l) i - cK (0 :: ixs l) j)) ∧ bY (0 :: ixs l) ∧ (0 :: ixs l).all (bf Q) = true := by
 have q2 := eH hp
 have a0 : ∀ i, i < l.length → cK (0 :: ixs l) (i + 1) = (fC l i).1 := fun i hi => by
  show (0 :: ixs l).getD (i + 1) 0 = _
  rw [List.getD_cons_succ]
  exact dF hi
 have z0 : cK (0 :: ixs l) 0 = 0 := rfl
 have hu0 : ∀ i, i < l.length → Un Q ((fC l i).1 - 0) := fun i hi => by
  have h1 := h.rng i hi
  exact qE hp h1.1 (by omega) (by omega) (Int.le_refl 0) (by decide) (by omega) (by omega)
 refine ⟨fun i j hi hj hne => ?_, fun i j hi hj => ?_, ?_⟩
 ·
  cases i with
  | zero =>
   cases j with
   | zero => exact absurd rfl hne
   | succ b =>
    rw [z0, a0 b (by omega)]
    have h1 := (hu0 b (by omega)).neg
    rwa [show -((fC l b).1 - 0) = 0 - (fC l b).1 by omega] at h1
  | succ a =>
   cases j with
   | zero => rw [z0, a0 a (by omega)]; exact hu0 a (by omega)
   | succ b =>
    rw [a0 a (by omega), a0 b (by omega)]
    have h1 := h.un hp h8 hq (i := a) (j := b) (by omega) (by omega) (by omega)
    have h2 : cK (ixs l) a = (fC l a).1 := dF (by omega)
    have h3 : cK (ixs l) b = (fC l b).1 := dF (by omega)
    rwa [h2, h3] at h1
 ·
  rw [List.length_cons, List.length_map] at hi
  have g : ∀ k, (0 :: ixs l).getD k 0 = cK (0 :: ixs l) k := fun k => rfl
  rw [g, g]
  cases i with
  | zero => omega
  | succ a =>
   rw [a0 a (by omega)]
   have h1 := (h.rng a (by omega)).1
   cases j with
   | zero => rw [z0]; omega
   | succ b => rw [a0 b (by omega)]; exact h.ne a b (by omega) (by omega)
 ·
  rw [List.all_cons, List.all_eq_true.2]
  · simp [bf]; omega
  ·
   intro x hx
   obtain ⟨p, hpm, rfl⟩ := List.mem_map.1 hx
   obtain ⟨k, hk, rfl⟩ := List.getElem_of_mem hpm
   have h1 := h.rng k hk
   rw [fC, List.getD_eq_getElem?_getD, List.getElem?_eq_getElem hk] at h1
   simp only [Option.getD_some] at h1
   simp [bf]; omega
theorem Eh {Q : Int} {f : List Int} {n : Nat} {l : List (Int × Int)} (h : mK Q f n l) (hq : 2 ≤ Q) : (b_ l).all (bf Q) = true := by
 rw [List.all_eq_true]
 intro x hx
 obtain ⟨p, hpm, rfl⟩ := List.mem_map.1 hx
 obtain ⟨k, hk, rfl⟩ := List.getElem_of_mem hpm
 have h1 := h.rng k hk
 rw [fC, List.getD_eq_getElem?_getD, List.getElem?_eq_getElem hk] at h1
 simp only [Option.getD_some] at h1
 rw [h1.2.2]
 exact jZ (by omega)
structure Jw (w u : World) : Prop where
 g : l5 u w.heap.size 23 11 4
 p : lY u (w.heap.size + 1 + 1 + 1) (.slice (some ⟨w.heap.size + 1, 0, none⟩) 1 1) (.int .i64 1) (.slice (some ⟨w.heap.size + 1 + 1, 0, none⟩) 1 1)
 a : One u (some ⟨w.heap.size + 1, 0, none⟩) 1 16
 z : One u (some ⟨w.heap.size + 1 + 1, 0, none⟩) 1 5
 b : Below w.heap.size w u
theorem Jw.below {w u u' : World} (H : Jw w u) (hb : Below u.heap.size u u') : Jw w u' :=
 ⟨H.g.below hb, H.p.below hb, H.a.below hb, H.z.below hb, ag H.b hb⟩
theorem Jw.start (w : World) : Jw w ((((w.alloc (aC 23 11 4)).alloc (.cells #[.int .i64 16] 3)).alloc (.cells #[.int .i64 5] 3)).alloc (iL (some ⟨w.heap.size + 1, 0, none⟩) 1 1 1 (some ⟨w.heap.size + 1 + 1, 0, none⟩) 1 1)) := by
 have e1 : (w.alloc (aC 23 11 4)).heap.size = w.heap.size + 1 := by simp
 have e2 : ((w.alloc (aC 23 11 4)).alloc (.cells #[.int .i64 16] 3)).heap.size = w.heap.size + 1 + 1 := by simp
 have e3 : (((w.alloc (aC 23 11 4)).alloc (.cells #[.int .i64 16] 3)).alloc (.cells #[.int .i64 5] 3)).heap.size = w.heap.size + 1 + 1 + 1 := by simp
 have b0 := af w (aC 23 11 4)
 have b1 := af (w.alloc (aC 23 11 4)) (.cells #[.int .i64 16] 3)
 have b2 := af ((w.alloc (aC 23 11 4)).alloc (.cells #[.int .i64 16] 3)) (.cells #[.int .i64 5] 3)
 have b3 := af (((w.alloc (aC 23 11 4)).alloc (.cells #[.int .i64 16] 3)).alloc (.cells #[.int .i64 5] 3)) (iL (some ⟨w.heap.size + 1, 0, none⟩) 1 1 1 (some ⟨w.heap.size + 1 + 1, 0, none⟩) 1 1)
 refine ⟨(((aM w 23 11 4).below b1).below b2).below b3, ?_, fun _ => ⟨_, _, rfl, ?_⟩, fun _ => ⟨_, _, rfl, ?_⟩, ag (ag (ag b0 b1) b2) b3⟩
 ·
  have h : lY ((((w.alloc (aC 23 11 4)).alloc (.cells #[.int .i64 16] 3)).alloc (.cells #[.int .i64 5] 3)).alloc (iL (some ⟨w.heap.size + 1, 0, none⟩) 1 1 1 (some ⟨w.heap.size + 1 + 1, 0, none⟩) 1 1)) (((w.alloc (aC 23 11 4)).alloc (.cells #[.int .i64 16] 3)).alloc (.cells #[.int .i64 5] 3)).heap.size (.slice (some ⟨w.heap.size + 1, 0, none⟩) 1 1) (.int .i64 1) (.slice (some ⟨w.heap.size + 1 + 1, 0, none⟩) 1 1) :=
   ⟨ax (heap_alloc_new _ _) 0, ax (heap_alloc_new _ _) 1, ax (heap_alloc_new _ _) 2⟩
  rwa [e3] at h
 ·
  have h := ((jN (w.alloc (aC 23 11 4)) 3 16).below b2).below b3 0 (by simp)
  rwa [e1] at h
 ·
  have h := (jN ((w.alloc (aC 23 11 4)).alloc (.cells #[.int .i64 16] 3)) 3 5).below b3 0 (by simp)
  rwa [e2] at h
theorem KP : Hid (uA 23 11 4 4 18 1 16 1 1 5 = true) := aa (by kernel_rfl)
theorem KO : Hid (uA 23 11 4 4 2 1 16 1 1 5 = false) := aa (by kernel_rfl)
theorem lW (w : World) (hv : Hid (Vars w)) :
  Calls Tryz.prog 5 #[] w (Rt w (.bool true)) := by
 go_in
 go_upto_region 3 with (fail)
 obtain ⟨W, hW⟩ : ∃ W, (((w.alloc (aC 23 11 4)).alloc (.cells #[.int .i64 16] 3)).alloc (.cells #[.int .i64 5] 3)).alloc (iL (some ⟨w.heap.size + 1, 0, none⟩) 1 1 1 (some ⟨w.heap.size + 1 + 1, 0, none⟩) 1 1) = W := ⟨_, rfl⟩
 have HI0 : Hid (Jw w W) := aa (by rw [← hW]; exact Jw.start w)
 rw [show ((((w.alloc (.cells #[.int .i64 23, .int .i64 11, .int .i64 4] 23)).alloc (.cells #[.int .i64 16] 3)).alloc (.cells #[.int .i64 5] 3)).alloc (.cells #[.slice (some ⟨w.heap.size + 1, 0, none⟩) 1 1, .int .i64 1, .slice (some ⟨w.heap.size + 1 + 1, 0, none⟩) 1 1] 50)) = W from hW]
 clear hW
 obtain ⟨⟨g0, g1, g2⟩, ⟨p0, p1, p2⟩⟩ := And.intro HI0.out.g HI0.out.p
 go_wp2_with fail
 clear g0 g1 g2 p0 p1 p2
 refine (mq 23 11 4 4 18 (some ⟨w.heap.size + 1, 0, none⟩) 1 1 16 1 (some ⟨w.heap.size + 1 + 1, 0, none⟩) 1 1 5 true KP (by decide) _ (aa (hv.out.below HI0.out.b)) (aa HI0.out.a) (aa HI0.out.z)).mono ?_
 rintro e w1 ⟨rfl, hb1⟩
 have HI1 := aa (HI0.out.below hb1)
 clear hb1 HI0
 obtain ⟨⟨g0, g1, g2⟩, ⟨p0, p1, p2⟩⟩ := And.intro HI1.out.g HI1.out.p
 go_wp2_with fail
 clear g0 g1 g2 p0 p1 p2
 refine (mq 23 11 4 4 2 (some ⟨w.heap.size + 1, 0, none⟩) 1 1 16 1 (some ⟨w.heap.size + 1 + 1, 0, none⟩) 1 1 5 false KO (by decide) _ (aa (hv.out.below HI1.out.b)) (aa HI1.out.a) (aa HI1.out.z)).mono ?_
 rintro e w2 ⟨rfl, hb2⟩
 have HI2 := aa (HI1.out.below hb2)
 clear hb2 HI1
 go_wp2
 go_ret
 exact ⟨rfl, HI2.out.b⟩
end Go.Proofs.YticegghameafgaaGreatDoor
namespace Go.Proofs.YticegghameafgaaGreatDoor
open Go.RowKit jq Go.Maps
theorem yV (D : List (Int × Int)) (p : Int × Int) (a : Int) : valOf (D ++ [p]) a = (match valOf D a with | some v => some v | none => if p.1 = a then some p.2 else none) := by
 induction D with
 | nil => rfl
 | cons q t ih =>
  rw [List.cons_append, valOf, valOf]
  by_cases h : q.1 = a
  · rw [if_pos h, if_pos h]
  · rw [if_neg h, if_neg h, ih]
theorem Am (w : World) : (zeroValue 3).run Tryz.prog w = .ok (.int .i64 0) w := by kernel_rfl
theorem tF {a b : Int} (h : (DataW.lit (.int .i64 a) : DataW Unit) = .lit (.int .i64 b)) : a = b := by
 injection h with h1
 injection h1
def yO (pt : List (Int × Int)) (wr : World) (B kk : Nat) : Prop := ∃ D : DataW Unit, wr.ownsMap Tryz.prog 3 (plainElem Tryz.prog 3) B kk D ∧ ∀ a : Int, has D (.int .i64 a) = (valOf pt a).isSome ∧ ∀ v, valOf pt a = some v → D.atKey (.int .i64 a) (.lit (.int .i64 0)) = .lit (.int .i64 v)
theorem BR (w : World) : yO [] (w.alloc (.map #[] 0)) w.heap.size 0 := ⟨.map [], World.ownsMap_made _ _ _ _, fun a => ⟨by simp [has, valOf], fun v h => by cases h⟩⟩
theorem E8 {pt : List (Int × Int)} {w' : World} {B kk : Nat} {x v : Int} {D : DataW Unit} (ht : Tidy D) (hx : valOf pt x = none)
  (h1 : w'.ownsMap Tryz.prog 3 (plainElem Tryz.prog 3) B (kk + 1) (D.put (.int .i64 x) (.lit (.int .i64 v))))
  (hA : ∀ a : Int, has D (.int .i64 a) = (valOf pt a).isSome ∧ ∀ v, valOf pt a = some v → D.atKey (.int .i64 a) (.lit (.int .i64 0)) = .lit (.int .i64 v)) : yO (pt ++ [(x, v)]) w' B (kk + 1) := by
 refine ⟨_, h1, fun a => ?_⟩
 rw [yV]
 by_cases hax : a = x
 ·
  subst hax
  rw [hx]
  dsimp only
  rw [if_pos rfl]
  refine ⟨has_put_same ht.isMap (by simp [WideAt.IsKeyLit]) _, fun v' h => ?_⟩
  cases h
  exact atKey_put_same ht.isMap (by simp [WideAt.IsKeyLit]) _ _
 ·
  rw [has_put_other (kJ hax), atKey_put_other (kJ hax)]
  have e : (match valOf pt a with | some v => some v | none => if (x, v).1 = a then some (x, v).2 else none) = valOf pt a := by
   cases valOf pt a with
   | some _ => rfl
   | none => exact if_neg (fun e => hax e.symm)
  rw [e]
  exact hA a
theorem yO.blk {pt : List (Int × Int)} {w w' : World} {B kk : Nat} (h : yO pt w B kk) (hb : w'.heap[B]? = w.heap[B]?) : yO pt w' B kk := by
 obtain ⟨D, ⟨es, clock, h1, h2⟩, h3⟩ := h
 exact ⟨D, ⟨es, clock, hb.trans h1, h2⟩, h3⟩
theorem yO.obj {pt : List (Int × Int)} {w : World} {B kk : Nat} (h : yO pt w B kk) : ∃ o, w.heap[B]? = some o := by
 obtain ⟨D, ⟨es, clock, h1, h2⟩, h3⟩ := h
 exact ⟨_, h1⟩
theorem yO.lt {pt : List (Int × Int)} {w : World} {B kk : Nat} (h : yO pt w B kk) : B < w.heap.size := by
 obtain ⟨o, h1⟩ := h.obj
 exact fQ h1
structure dV (w0 : World) (hb : Nat) (box : Obj) (mb : Nat) (mo : Obj) (vX : Value) (nX : Nat) (xs : List Int) (vY : Value) (nY : Nat) (ys : List Int) (u : World) : Prop where
 a : dH w0 hb box vX nX xs vY nY ys u
 c : dH w0 mb mo vX nX xs vY nY ys u
section
variable {w0 : World} {hb : Nat} {box : Obj} {mb : Nat} {mo : Obj} {vX vY : Value} {nX nY : Nat} {xs ys : List Int} {u u2 : World}
theorem dV.b (h : dV w0 hb box mb mo vX nX xs vY nY ys u) : Below w0.heap.size w0 u := h.a.b
theorem dV.x (h : dV w0 hb box mb mo vX nX xs vY nY ys u) : u.heap[hb]? = some box := h.a.x
theorem dV.ox (h : dV w0 hb box mb mo vX nX xs vY nY ys u) : u.ownsRow w0.heap.size 3 1 vX nX (xs.map (Value.int .i64)) := h.a.ox
theorem dV.oy (h : dV w0 hb box mb mo vX nX xs vY nY ys u) : u.ownsRow w0.heap.size 3 1 vY nY (ys.map (Value.int .i64)) := h.a.oy
theorem dV.nxy (h : dV w0 hb box mb mo vX nX xs vY nY ys u) : ∀ j, vX.ownBlock = some j → vY.ownBlock ≠ some j := h.a.nxy
theorem dV.below (h : dV w0 hb box mb mo vX nX xs vY nY ys u) (hq : Below u.heap.size u u2) : dV w0 hb box mb mo vX nX xs vY nY ys u2 := ⟨h.a.below hq, h.c.below hq⟩
theorem dV.appX (h : dV w0 hb box mb mo vX nX xs vY nY ys u) {a : Int} {g cap : Nat} (ho : u2.ownsRow w0.heap.size 3 1 (.slice (some ⟨g, 0, none⟩) (nX + 1) cap) (nX + 1) (xs.map (Value.int .i64) ++ [.int .i64 a])) (hg : u.grownBy u2 vX.ownBlock) (hgg : vX.ownBlock = some g ∨ g = u.heap.size) :
  dV w0 hb box mb mo (.slice (some ⟨g, 0, none⟩) (nX + 1) cap) (nX + 1) (xs ++ [a]) vY nY ys u2 := ⟨h.a.appX ho hg hgg, h.c.appX ho hg hgg⟩
theorem dV.appY (h : dV w0 hb box mb mo vX nX xs vY nY ys u) {a : Int} {g cap : Nat} (ho : u2.ownsRow w0.heap.size 3 1 (.slice (some ⟨g, 0, none⟩) (nY + 1) cap) (nY + 1) (ys.map (Value.int .i64) ++ [.int .i64 a])) (hg : u.grownBy u2 vY.ownBlock) (hgg : vY.ownBlock = some g ∨ g = u.heap.size) :
  dV w0 hb box mb mo vX nX xs (.slice (some ⟨g, 0, none⟩) (nY + 1) cap) (nY + 1) (ys ++ [a]) u2 := ⟨h.a.appY ho hg hgg, h.c.appY ho hg hgg⟩
theorem aN.newB (h : dV w0 hb box mb mo vX nX xs vY nY ys u) (a : Int) : aN (u.alloc (.cells #[.int .i64 a] 3)) u.heap.size a vX vY := aN.new h.a a
end
theorem sI (q t : Int) (xs ys : List Int) (m : Nat) : ∀ k, k ≤ m → smT q t xs (ys.take m) k = smT q t xs ys k
 | 0, _ => rfl
 | k + 1, h => by
  rw [smT, smT, sI q t xs ys m k (by omega), List.getD_eq_getElem?_getD, List.getElem?_take_of_lt (by omega), ← List.getD_eq_getElem?_getD]
theorem qw {Q : Int} {kn : Nat} {l : List (Int × Int)} (h : l.all (fK Q kn) = true) {p : Int × Int} (hp : p ∈ l) : iD kn p.1 = true ∧ bf Q p.2 = true := by
 have h9 := List.all_eq_true.1 h p hp
 simpa [fK] using h9
theorem EO {Q : Int} {kn : Nat} {l : List (Int × Int)} (h : l.all (fK Q kn) = true) (k : Nat) (hk : k ≤ l.length) (j : Nat) (hj : j < (pts l k).length) : iD kn (fC (pts l k) j).1 = true ∧ bf Q (fC (pts l k) j).2 = true := by
 refine qw h (qL k hk _ ?_)
 rw [fC, List.getD_eq_getElem?_getD, List.getElem?_eq_getElem hj]
 exact List.getElem_mem _
theorem xY {Q : Int} {m kn : Nat} {l : List (Int × Int)} (h : l.all (fK Q kn) = false) : jE Q m kn l = 0 ∧ jF Q m kn l = 2 := by
 rw [jE, jF, h]; exact ⟨rfl, rfl⟩
theorem zx {Q : Int} {m kn : Nat} {l : List (Int × Int)} (h : l.all (fK Q kn) = true) (h2 : gm l l.length = false) : jE Q m kn l = 0 ∧ jF Q m kn l = 0 := by
 rw [jE, jF, h, h2]; exact ⟨rfl, rfl⟩
theorem ER {Q : Int} {m kn : Nat} {l : List (Int × Int)} (h : l.all (fK Q kn) = true) (h2 : gm l l.length = true) (h3 : ¬ m < (pts l l.length).length) (h4 : qJ Q (m - (pts l l.length).length) = none) : jE Q m kn l = 0 ∧ jF Q m kn l = 9 := by
 rw [jE, jF, if_pos h, if_pos h2, if_neg h3, if_pos h, if_pos h2, if_neg h3, h4]; exact ⟨rfl, rfl⟩
theorem EP {Q N : Int} {m kn : Nat} {l : List (Int × Int)} (h : l.all (fK Q kn) = true) (h2 : gm l l.length = true) (h3 : ¬ m < (pts l l.length).length) (h4 : qJ Q (m - (pts l l.length).length) = some N) : jE Q m kn l = N ∧ jF Q m kn l = 0 := by
 rw [jE, jF, if_pos h, if_pos h2, if_neg h3, if_pos h, if_pos h2, if_neg h3, h4]; exact ⟨rfl, rfl⟩
theorem xZ {Q : Int} {m kn : Nat} {l : List (Int × Int)} (h : l.all (fK Q kn) = true) (h2 : gm l l.length = true) (h3 : m < (pts l l.length).length) (b : Bool) (h4 : lX Q (pts l l.length) m (pts l l.length).length = b) : jE Q m kn l = (if b = true then 1 else 0) ∧ jF Q m kn l = 0 := by
 rw [jE, jF, if_pos h, if_pos h2, if_pos h3, if_pos h, if_pos h2, if_pos h3, h4]; exact ⟨rfl, rfl⟩
end Go.Proofs.YticegghameafgaaGreatDoor