/- Contracts and lemmas: Poy, HdG, TpD, TpE, TpF. -/
import Derived.Maps.OwnSet
import Derived.Deep.QuietTactic
import Derived.BigQuiet
import Derived.Test.YticegghameafgaaGreatDoorTp5
set_option linter.unusedVariables false
set_option linter.unusedSimpArgs false
set_option maxRecDepth 100000
set_option maxHeartbeats 25600000
namespace Go.Proofs.YticegghameafgaaGreatDoor
open Go.RowKit jq Go.Maps
theorem BG (P Q G : Int) (m : Nat) (Cs : Option Addr) (cs : List Int) (cn cc : Nat) (Ks : Option Addr) (ks : List Int) (kn kc : Nat) (hcn : Hid (cs.length = cn)) (hkn : Hid (ks.length = kn)) (A : Option Addr) (l : List (Int × Int)) (n c : Nat) (hn : Hid (l.length = n)) (hnb : n ≤ 100) (hlr : Hid (∀ k, k < n → EI (l.getD k (0, 0)))) (hr : Hid (Ay P Q G (m : Int) cs ks = true)) (hQ : Q < 9223372036854775808) (w : World) (hv : Hid (Vars w)) (hC : Hid (Sl w Cs cs)) (hK : Hid (Sl w Ks ks)) (hA : Hid (Sh w A l)) :
  Calls Tryz.prog 9 #[gv P Q G, mO (m : Int) Cs cn cc Ks kn kc, .slice A n c] w (Rt w (.tuple #[.int .i64 (jE Q m kn l), .int .i64 (jF Q m kn l)])) := by
 obtain ⟨i0, hi, hz0, hz1, hz2⟩ := info_parts gW
 obtain ⟨dG, n1, n2, n3, n4, n5, n6⟩ := pM hr.out hcn.out hkn.out
 obtain ⟨w0, HW, bB, kC⟩ := st2 (aC P Q G) qm (o7 (m : Int) Cs cn cc Ks kn kc) uR w
 have kV := mkV bB hv
 have lU := mkS bB hC
 have rR := mkS bB hK
 have kA := Me (fun u => Sh u A l) bB hA (·.below)
 have aL := iH w0
 clear hv hC hK hA
 go_in
 go_upto_region 1 with (fail)
 rw [HW.out]
 have zc := kC.out _ aL
 go_wp2_with fail
 clear zc
 refine gM kC aL (xJ P Q G (m : Int) Cs cs cn cc Ks ks kn kc hcn hkn true hr hQ _ (kV.out _ aL) (lU.out _ aL) (rR.out _ aL)) fun w1 bQ zc => ?_
 go_wp2
 clear zc
 go_loopw [30] (fun i wr => ∃ k : Nat, k ≤ n ∧ i = .int .i64 k ∧ Hid (l.all (fK Q kn) = (l.drop k).all (fK Q kn)) ∧ Hid (Below w0.heap.size w0 wr)) (fun i _ => n - (intOf i).toNat)
 case atStart => exact ⟨0, by omega, rfl, aa rfl, bQ⟩
 case round =>
  obtain ⟨k, hk, rfl, HR, aB⟩ := hrel
  by_cases hlt : k < n
  ·
   have hkl : k < l.length := by rw [hn.out]; exact hlt
   obtain ⟨b, o, hA, tQ, tT⟩ := (kA.out _ aB).out k hkl
   subst hA
   obtain ⟨px, hpx⟩ : ∃ x, l.getD k (0, 0) = x := ⟨_, rfl⟩
   obtain ⟨ix, v⟩ := px
   rw [hpx] at tQ tT
   dsimp only at tQ tT
   have cZ := iH wr
   have zc := kC.out _ aB
   obtain ⟨w2, hw, rH, Dv, z_, kS⟩ := KU (iK ix v) GH wr
   have aK := FL aB rH
   have bO := FL cZ rH
   have bP := iH w2
   clear rH
   have Ec := kC.out _ aK
   have nA := kS.out _ bP
   cases hmb : iD kn ix with
   | false =>
    have HF : Hid (l.all (fK Q kn) = false) := aa (HR.out.trans (oJ hkl (by rw [hpx]; simp [fK, hmb])))
    have M6 := aa hmb
    clear hmb HR hpx
    go_wp2_with fail
    clear zc Ec nA hw tQ tT
    refine wM aK bO bP (ek (m : Int) Cs cn cc Ks kn kc ix false M6 _) fun w3 cu f_ dK => ?_
    have zc := kC.out _ cu
    have rW := kS.out _ dK
    have fT := ag bB.out cu.out
    go_wp2
    go_ret2
    obtain ⟨e1, e2⟩ := xY (m := m) HF.out
    exact ⟨by rw [e1, e2]; rfl, fT⟩
   | true =>
    have M6 := aa hmb
    cases hsc : bf Q v with
    | false =>
     have HF : Hid (l.all (fK Q kn) = false) := aa (HR.out.trans (oJ hkl (by rw [hpx]; simp [fK, hsc])))
     have JP := aa hsc
     clear hmb hsc HR hpx
     go_wp2_with fail
     clear zc Ec nA hw tQ tT
     refine wM aK bO bP (ek (m : Int) Cs cn cc Ks kn kc ix true M6 _) fun w3 cu f_ dK => ?_
     have zc := kC.out _ cu
     have rW := kS.out _ dK
     go_wp2_with fail
     clear zc rW
     refine wM cu f_ dK (gU P Q G v false JP _) fun w4 lZ nu rM => ?_
     have zc := kC.out _ lZ
     have rW := kS.out _ rM
     have fT := ag bB.out lZ.out
     go_wp2
     go_ret2
     obtain ⟨e1, e2⟩ := xY (m := m) HF.out
     exact ⟨by rw [e1, e2]; rfl, fT⟩
    | true =>
     have HS : Hid (l.all (fK Q kn) = (l.drop (k + 1)).all (fK Q kn)) := aa (HR.out.trans (qx hkl (by rw [hpx]; simp [fK, hsc, hmb])))
     have JP := aa hsc
     clear hmb hsc HR hpx
     go_wp2_with fail
     clear zc Ec nA hw tQ tT
     refine wM aK bO bP (ek (m : Int) Cs cn cc Ks kn kc ix true M6 _) fun w3 cu f_ dK => ?_
     have zc := kC.out _ cu
     have rW := kS.out _ dK
     go_wp2_with fail
     clear zc rW
     refine wM cu f_ dK (gU P Q G v true JP _) fun w4 lZ nu rM => ?_
     have zc := kC.out _ lZ
     have rW := kS.out _ rM
     go_wp2
     go_roundw
     case rel => exact ⟨k + 1, by omega, by go_num, HS, lZ⟩
     case measure => simp [intOf]; omega
  ·
   have hke : n = k := by omega
   subst hke
   have iV : Hid (l.all (fK Q kn) = true) := aa (by rw [HR.out, ← hn.out, List.drop_length]; rfl)
   clear HR
   have hmm := fun t w => run_makeMap (P := Tryz.prog) t w
   have JX := aa (BR wr)
   have IL := af wr (.map #[] 0)
   obtain ⟨mb, Fq⟩ : ∃ B, wr.heap.size = B := ⟨_, rfl⟩
   obtain ⟨W, IP⟩ : ∃ W, wr.alloc (.map #[] 0) = W := ⟨_, rfl⟩
   have NZ : w0.heap.size ≤ mb := by rw [← Fq]; exact aB.out.size
   have rO : Hid (Below w0.heap.size w0 W) := aa (by rw [← IP]; exact ag aB.out IL)
   rw [Fq, IP] at JX
   have LD := aa Fq
   have QK := aa IP
   clear Fq IP IL
   have zc := kC.out _ aB
   go_wp2
   rw [QK.out, LD.out]
   clear zc
   go_loopw [11, 12, 50] (fun vx vy i wr => ∃ k kk : Nat, k ≤ n ∧ i = .int .i64 k ∧ Hid ((pts l k).length = kk) ∧ Hid (gm l k = true) ∧ Hid (wr.ownsRow w0.heap.size 3 1 vx kk ((ixs (pts l k)).map (Value.int .i64))) ∧ Hid (wr.ownsRow w0.heap.size 3 1 vy kk ((b_ (pts l k)).map (Value.int .i64))) ∧ Hid (∀ j, vx.ownBlock = some j → vy.ownBlock ≠ some j) ∧ Hid (vx.ownBlock ≠ some mb) ∧ Hid (vy.ownBlock ≠ some mb) ∧ Hid (yO (pts l k) wr mb kk) ∧ Hid (Below w0.heap.size w0 wr)) (fun _ _ i _ => n - (intOf i).toNat)
   case atStart => exact ⟨0, 0, by omega, rfl, aa rfl, aa rfl, aa (World.ownsRow_nil _ _ _ _), aa (World.ownsRow_nil _ _ _ _), aa (fun j h => by cases h), aa (fun h => by cases h), aa (fun h => by cases h), JX, rO⟩
   case round =>
    clear JX rO LD QK hmm aB
    obtain ⟨k, kk, hk, rfl, HKK, Ni, xy, xw, oN, Gb, M5, O_, aB⟩ := hrel
    have hkk : kk ≤ k := by rw [← HKK.out]; exact xX l k
    by_cases hlt : k < n
    ·
     have hkl : k < l.length := by rw [hn.out]; exact hlt
     obtain ⟨b, o, hA, tQ, tT⟩ := (kA.out _ aB).out k hkl
     subst hA
     obtain ⟨px, hpx⟩ : ∃ x, l.getD k (0, 0) = x := ⟨_, rfl⟩
     obtain ⟨ix, v⟩ := px
     rw [hpx] at tQ tT
     dsimp only at tQ tT
     have cZ := iH wr
     have zc := kC.out _ aB
     obtain ⟨w2, hw, rH, Dv, z_, kS⟩ := KU (iK ix v) GH wr
     have aK := FL aB rH
     have bO := FL cZ rH
     have bP := iH w2
     clear rH
     have Ec := kC.out _ aK
     have nA := kS.out _ bP
     have hpm : (ix, v) ∈ l := by rw [← hpx, List.getD_eq_getElem?_getD, List.getElem?_eq_getElem hkl]; exact List.getElem_mem _
     obtain ⟨hmb, hsc⟩ := qw iV.out hpm
     obtain ⟨q1, q2, q3, q4⟩ := az dG.out
     have v0 := lM hsc
     have v1 := lN hsc
     obtain ⟨r1, r2⟩ := hlr.out k hlt
     rw [hpx] at r1 r2
     dsimp only at r1 r2
     have wf1 : (Lit.int .i64 ix).wf = true := WalkArith.wf_i64 (by omega)
     have RP : (Lit.int .i64 v).wf = true := WalkArith.wf_i64 (by omega)
     have hkey : keyOf Tryz.prog 3 (.int .i64 ix) = some (.int .i64 ix) := keyOf_int_mk Tryz.underlying3 wf1
     have NY := O_.out.lt
     have Pb : Hid (yO (pts l k) w2 mb kk) := aa (O_.out.blk (bO.out.block mb NY))
     obtain ⟨D, hown, vZ⟩ := Pb.out
     have Nt := aa vZ
     have TC := aa (hown.tidy tJ)
     obtain ⟨hA1, hA2⟩ := vZ ix
     clear vZ
     have hsh : fC l k = (ix, v) := hpx
     cases Ae : valOf (pts l k) ix with
     | some z =>
      have hh : has D (.int .i64 ix) = true := by rw [hA1, Ae]; rfl
      have hat := hA2 z Ae
      have qA : Hid (pts l (k + 1) = pts l k) := aa (by rw [pts, hsh]; dsimp only; rw [Ae])
      by_cases hzv : z = v
      ·
       have Uu : Hid (gm l (k + 1) = true) := aa (by rw [gm, Ni.out, hsh]; dsimp only; rw [Ae]; simp [hzv])
       have xx : Hid (w2.ownsRow w0.heap.size 3 1 u11 kk ((ixs (pts l (k + 1))).map (Value.int .i64))) := aa (by rw [qA.out]; exact xy.out.kept (aD bO.out none) (dI _))
       have xu : Hid (w2.ownsRow w0.heap.size 3 1 u12 kk ((b_ (pts l (k + 1))).map (Value.int .i64))) := aa (by rw [qA.out]; exact xw.out.kept (aD bO.out none) (dI _))
       have Ud : Hid (yO (pts l (k + 1)) w2 mb kk) := aa (by rw [qA.out]; exact Pb.out)
       have JY : Hid ((pts l (k + 1)).length = kk) := aa (by rw [qA.out]; exact HKK.out)
       have hza : D.atKey (.int .i64 ix) (.lit (.int .i64 0)) = .lit (.int .i64 v) := by rw [hat, hzv]
       have dz : ((v : Int) != v) = false := by simp
       clear hat Ae hA1 hA2 hpm hpx hsh hzv
       go_wp2_with (at_lookup; refine wpList_lookup_own_ok_int _ rfl _ _ 66 rfl 3 3 .i64 tJ Tryz.underlying66 Tryz.underlying3 (Am _) mb kk D rfl hown _ _ rfl hkey ?_; intro c vV hwc; rw [hh]; have hcv : c = v := tF (vV.symm.trans hza); clear vV hwc)
       go_roundw
       case rel => exact ⟨k + 1, kk, by omega, by go_num, JY, Uu, xx, xu, oN, Gb, M5, Ud, aK⟩
       case measure => simp [intOf]; omega
      ·
       have hF1 : gm l (k + 1) = false := by rw [gm, Ni.out, hsh]; dsimp only; rw [Ae]; simp [hzv]
       have Nj : Hid (gm l l.length = false) := aa (by rw [hn.out]; exact qf hF1 n (by omega))
       have dz : ((z : Int) != v) = true := by simpa using hzv
       have fT := ag bB.out aK.out
       clear hF1 Ae hA1 hA2 hpm hpx hsh hzv
       go_wp2_with (at_lookup; refine wpList_lookup_own_ok_int _ rfl _ _ 66 rfl 3 3 .i64 tJ Tryz.underlying66 Tryz.underlying3 (Am _) mb kk D rfl hown _ _ rfl hkey ?_; intro c vV hwc; rw [hh]; have hcv : c = z := tF (vV.symm.trans hat); clear vV hwc)
       go_ret2
       obtain ⟨e1, e2⟩ := zx (m := m) iV.out Nj.out
       exact ⟨by rw [e1, e2]; rfl, fT⟩
     | none =>
      have hh : has D (.int .i64 ix) = false := by rw [hA1, Ae]; rfl
      have MW : Hid (pts l (k + 1) = pts l k ++ [(ix, v)]) := aa (by rw [pts, hsh]; dsimp only; rw [Ae])
      have Ut : Hid (gm l (k + 1) = true) := aa (by rw [gm, Ni.out, hsh]; dsimp only; rw [Ae]; rfl)
      have ng : Hid ((pts l (k + 1)).length = kk + 1) := aa (by rw [MW.out, List.length_append, HKK.out]; rfl)
      have Ty := aa Ae
      clear Ae hA1 hA2 hpm hpx hsh
      go_upto_region 19 with (first | (at_lookup; refine wpList_lookup_own_ok_int _ rfl _ _ 66 rfl 3 3 .i64 tJ Tryz.underlying66 Tryz.underlying3 (Am _) mb kk D rfl hown _ _ rfl hkey ?_; intro c vV hwc; rw [hh]; clear vV hwc) | (at_mapUpdate; refine wpList_mapUpdate_own _ rfl _ _ _ 66 rfl 3 3 tJ Tryz.underlying66 _ mb kk _ rfl hown (by unfold maxLen; omega) _ _ _ rfl rfl hkey _ [] (plainElem_int Tryz.underlying3 RP) ?_; intro Eg hown1 hgrow1))
      clear zc Ec nA hw
      have Gc : Hid (yO (pts l k ++ [(ix, v)]) Eg mb (kk + 1)) := aa (E8 TC.out Ty.out hown1 Nt.out)
      obtain ⟨mo, hmo⟩ := Gc.out.obj
      have Uc := aa hmo
      have Sc : mb < w2.heap.size := Pb.out.lt
      have Gl : Hid (Below w0.heap.size w0 Eg) := aa (aK.out.grown hgrow1 aK.out.size (fun j hj => by cases hj; exact NZ))
      have HT : Hid (dV w0 wr.heap.size (iK ix v) mb mo u11 kk (ixs (pts l k)) u12 kk (b_ (pts l k)) Eg) := aa (by
       have h1 : w2.ownsRow w0.heap.size 3 1 u11 kk ((ixs (pts l k)).map (Value.int .i64)) := xy.out.kept (aD bO.out none) (dI _)
       have h2 : w2.ownsRow w0.heap.size 3 1 u12 kk ((b_ (pts l k)).map (Value.int .i64)) := xw.out.kept (aD bO.out none) (dI _)
       have h3 : Eg.ownsRow w0.heap.size 3 1 u11 kk ((ixs (pts l k)).map (Value.int .i64)) := h1.kept hgrow1 (.inr Gb.out)
       have h4 : Eg.ownsRow w0.heap.size 3 1 u12 kk ((b_ (pts l k)).map (Value.int .i64)) := h2.kept hgrow1 (.inr M5.out)
       exact ⟨⟨Gl.out, (hgrow1.block wr.heap.size (by have := Dv.out; omega) (fun e => by injection e with e; omega)).trans z_.out, h3, h4, oN.out, fun e => by have := (xy.out.lt _ e).2; omega, fun e => by have := (xw.out.lt _ e).2; omega⟩,
        ⟨Gl.out, hmo, h3, h4, oN.out, Gb.out, M5.out⟩⟩)
      clear hmo hown hown1 hgrow1 hh
      have hS := aa (show ∀ (za : Value) (zi : Nat) (zl : List Int) (zb : Value) (zj : Nat) (zm : List Int) (zu : World), Hid (dV w0 (wr.heap.size) (iK ix v) mb mo za (zi) (zl) zb (zj) (zm) zu) → (zu.cell? ⟨w.heap.size, 0, none⟩ = some (.int .i64 P) ∧ zu.cell? ⟨w.heap.size, 1, none⟩ = some (.int .i64 Q) ∧ zu.cell? ⟨w.heap.size, 2, none⟩ = some (.int .i64 G) ∧ zu.cell? ⟨w.heap.size + 1, 0, none⟩ = some (.int .i64 (m : Int)) ∧ zu.cell? ⟨w.heap.size + 1, 1, none⟩ = some (.slice Cs cn cc) ∧ zu.cell? ⟨w.heap.size + 1, 2, none⟩ = some (.slice Ks kn kc) ∧ zu.cell? ⟨wr.heap.size, 0, none⟩ = some (.int .i64 ix) ∧ zu.cell? ⟨wr.heap.size, 1, none⟩ = some (.int .i64 v)) from fun za zi zl zb zj zm zu h => by
       obtain ⟨y0, y1, y2, y3, y4, y5⟩ := kC.out _ (aa h.out.b)
       exact ⟨y0, y1, y2, y3, y4, y5, ax h.out.x 0, ax h.out.x 1⟩)
      have Dr := aa (HT.out.below (Below.refl _ _).drew)
      refine di (S := fun w' => w'.cell? ⟨w.heap.size, 0, none⟩ = some (.int .i64 P) ∧ w'.cell? ⟨w.heap.size, 1, none⟩ = some (.int .i64 Q) ∧ w'.cell? ⟨w.heap.size, 2, none⟩ = some (.int .i64 G) ∧ w'.cell? ⟨w.heap.size + 1, 0, none⟩ = some (.int .i64 (m : Int)) ∧ w'.cell? ⟨w.heap.size + 1, 1, none⟩ = some (.slice Cs cn cc) ∧ w'.cell? ⟨w.heap.size + 1, 2, none⟩ = some (.slice Ks kn kc) ∧ w'.cell? ⟨wr.heap.size, 0, none⟩ = some (.int .i64 ix) ∧ w'.cell? ⟨wr.heap.size, 1, none⟩ = some (.int .i64 v)) (E := []) (by kernel_rfl) (hS.out _ _ _ _ _ _ _ Dr) (fun hHeld => ?_)
      obtain ⟨wD, Gs⟩ : ∃ u, Eg.drew = u := ⟨_, rfl⟩
      rw [Gs] at Dr hHeld ⊢
      clear Gs
      refine lG 0 ?_
      refine lG 1 ?_
      refine lG 2 ?_
      refine lG 5 ?_
      refine lG 6 ?_
      refine lG 7 ?_
      refine lI (fun T a0 hT ha0 => ?_)
      clear hHeld
      have iW : ∀ (g3 : Nat) (gX : Nat) (cX : Nat) (g8 : Nat) (gY : Nat) (cY : Nat) (uT : World), (Hid (dV w0 (wr.heap.size) (iK ix v) mb mo (.slice (some ⟨gX, 0, none⟩) (kk + 1) cX) (kk + 1) (ixs (pts l k) ++ [ix]) (.slice (some ⟨gY, 0, none⟩) (kk + 1) cY) (kk + 1) (b_ (pts l k) ++ [v]) uT)) → T 2 #[true, true, true, true, true, true, true, true, true, true, false, false] ((((a0.put (some 74) (.slice (some ⟨g3, 0, none⟩) 1 1)).put (some 75) (.slice (some ⟨gX, 0, none⟩) (kk + 1) cX)).put (some 79) (.slice (some ⟨g8, 0, none⟩) 1 1)).put (some 80) (.slice (some ⟨gY, 0, none⟩) (kk + 1) cY)) uT := by
       intro g3 gX cX g8 gY cY uT FT
       have hHeld := hS.out _ _ _ _ _ _ _ FT
       rw [hT, ha0]
       try simp only [qq]
       refine lG 10 ?_
       refine lG 11 ?_
       refine AA ?_
       clear hHeld hT ha0
       have Ju := aa FT.out.b
       have hox := FT.out.ox
       have hoy := FT.out.oy
       rw [show (ixs (pts l k) ++ [ix]) = ixs (pts l (k + 1)) by rw [MW.out]; simp] at hox
       rw [show (b_ (pts l k) ++ [v]) = b_ (pts l (k + 1)) by rw [MW.out]; simp] at hoy
       have xx := aa hox
       have xu := aa hoy
       have DC := aa FT.out.nxy
       have Ub : Hid (yO (pts l (k + 1)) uT mb (kk + 1)) := aa (by rw [MW.out]; exact Gc.out.blk (FT.out.c.x.trans Uc.out.symm))
       have O8 := aa FT.out.c.nx
       have TZ := aa FT.out.c.ny
       clear hox hoy FT
       have zc := kC.out _ Ju
       go_wp2
       go_roundw
       case rel => exact ⟨k + 1, kk + 1, by omega, by go_num, ng, Ut, xx, xu, DC, O8, TZ, Ub, Ju⟩
       case measure => simp [intOf]; omega
      have iX : ∀ (g3 : Nat) (gX : Nat) (cX : Nat) (g8 : Nat) (uT : World), (Hid (dV w0 (wr.heap.size) (iK ix v) mb mo (.slice (some ⟨gX, 0, none⟩) (kk + 1) cX) (kk + 1) (ixs (pts l k) ++ [ix]) u12 (kk) (b_ (pts l k)) uT)) → (Hid (aN uT g8 (v) (.slice (some ⟨gX, 0, none⟩) (kk + 1) cX) u12)) → T 3 #[true, true, true, true, true, true, true, true, true, false, false, false] (((a0.put (some 74) (.slice (some ⟨g3, 0, none⟩) 1 1)).put (some 75) (.slice (some ⟨gX, 0, none⟩) (kk + 1) cX)).put (some 79) (.slice (some ⟨g8, 0, none⟩) 1 1)) uT := by
       intro g3 gX cX g8 uT FT F8
       have hHeld := hS.out _ _ _ _ _ _ _ FT
       rw [hT, ha0]
       try simp only [qq]
       refine mP 9 fun K hK => ?_
       refine step_append_lies _ (by rfl) _ _ _ (by rfl) w0.heap.size 3 i0 _ 1 8 Tryz.underlying30 hi hz0 hz1 hz2 rfl (by omega) u12 (kk) ((b_ (pts l k)).map (Value.int .i64)) (by rfl) FT.out.oy ⟨g8, 0, none⟩ 1 1 [.int .i64 (v)] (by rfl) (by rfl) F8.out.news (ints_oneCell .i64 [v]) (by omega) (by unfold maxLen; omega) (by omega) FT.out.b.size uT.heap.size rfl ?_
       intro gY cY uN hown1 hgrow1 hgg hlt1
       have dA := aa (FT.out.appY hown1 hgrow1 hgg)
       refine hK.out _ _ ?_ (fun hHeld => ?_)
       · exact hS.out _ _ _ _ _ _ _ dA
       clear hK K hHeld
       try simp only [qq]
       have hG := iW g3 gX cX g8 gY cY uN dA
       rw [hT, ha0] at hG
       (try simp only [qq] at hG)
       exact hG
      have DU : ∀ (g3 : Nat) (gX : Nat) (cX : Nat) (uT : World), (Hid (dV w0 (wr.heap.size) (iK ix v) mb mo (.slice (some ⟨gX, 0, none⟩) (kk + 1) cX) (kk + 1) (ixs (pts l k) ++ [ix]) u12 (kk) (b_ (pts l k)) uT)) → T 4 #[true, true, true, true, true, true, true, true, false, false, false, false] ((a0.put (some 74) (.slice (some ⟨g3, 0, none⟩) 1 1)).put (some 75) (.slice (some ⟨gX, 0, none⟩) (kk + 1) cX)) uT := by
       intro g3 gX cX uT FT
       have hHeld := hS.out _ _ _ _ _ _ _ FT
       rw [hT, ha0]
       try simp only [qq]
       refine mP 8 fun K hK => ?_
       go_simp
       have dA := aa (FT.out.below (af uT (.cells #[.int .i64 (v)] 3)))
       refine hK.out _ _ ?_ (fun hHeld => ?_)
       · exact hS.out _ _ _ _ _ _ _ dA
       clear hK K hHeld
       try simp only [qq]
       have hG := iX g3 gX cX (uT.heap.size) (uT.alloc (.cells #[.int .i64 (v)] 3)) dA (aa (aN.newB FT.out (v)))
       rw [hT, ha0] at hG
       (try simp only [qq] at hG)
       exact hG
      have uQ : ∀ (g3 : Nat) (g8 : Nat) (uT : World), (Hid (dV w0 (wr.heap.size) (iK ix v) mb mo u11 (kk) (ixs (pts l k)) u12 (kk) (b_ (pts l k)) uT)) → (Hid (aN uT g3 (ix) u11 u12)) → (Hid (aN uT g8 (v) u11 u12)) → T 4 #[true, true, true, true, false, true, true, true, true, false, false, false] ((a0.put (some 74) (.slice (some ⟨g3, 0, none⟩) 1 1)).put (some 79) (.slice (some ⟨g8, 0, none⟩) 1 1)) uT := by
       intro g3 g8 uT FT F3 F8
       have hHeld := hS.out _ _ _ _ _ _ _ FT
       rw [hT, ha0]
       try simp only [qq]
       refine mP 4 fun K hK => ?_
       refine step_append_lies _ (by rfl) _ _ _ (by rfl) w0.heap.size 3 i0 _ 1 8 Tryz.underlying30 hi hz0 hz1 hz2 rfl (by omega) u11 (kk) ((ixs (pts l k)).map (Value.int .i64)) (by rfl) FT.out.ox ⟨g3, 0, none⟩ 1 1 [.int .i64 (ix)] (by rfl) (by rfl) F3.out.news (ints_oneCell .i64 [ix]) (by omega) (by unfold maxLen; omega) (by omega) FT.out.b.size uT.heap.size rfl ?_
       intro gX cX uN hown1 hgrow1 hgg hlt1
       have dA := aa (FT.out.appX hown1 hgrow1 hgg)
       refine hK.out _ _ ?_ (fun hHeld => ?_)
       · exact hS.out _ _ _ _ _ _ _ dA
       clear hK K hHeld
       try simp only [qq]
       have hG := iX g3 gX cX g8 uN dA (aa (F8.out.appX hgrow1 hgg))
       rw [hT, ha0] at hG
       (try simp only [qq] at hG)
       exact hG
      have G3 : ∀ (g3 : Nat) (uT : World), (Hid (dV w0 (wr.heap.size) (iK ix v) mb mo u11 (kk) (ixs (pts l k)) u12 (kk) (b_ (pts l k)) uT)) → (Hid (aN uT g3 (ix) u11 u12)) → T 5 #[true, true, true, true, false, true, true, true, false, false, false, false] (a0.put (some 74) (.slice (some ⟨g3, 0, none⟩) 1 1)) uT := by
       intro g3 uT FT F3
       have hHeld := hS.out _ _ _ _ _ _ _ FT
       rw [hT, ha0]
       try simp only [qq]
       refine iY (i1 := 4) (i2 := 8) (by kernel_rfl) rfl rfl (fun K hK => ?_) (fun K hK => ?_)
       ·
        refine step_append_lies _ (by rfl) _ _ _ (by rfl) w0.heap.size 3 i0 _ 1 8 Tryz.underlying30 hi hz0 hz1 hz2 rfl (by omega) u11 (kk) ((ixs (pts l k)).map (Value.int .i64)) (by rfl) FT.out.ox ⟨g3, 0, none⟩ 1 1 [.int .i64 (ix)] (by rfl) (by rfl) F3.out.news (ints_oneCell .i64 [ix]) (by omega) (by unfold maxLen; omega) (by omega) FT.out.b.size uT.heap.size rfl ?_
        intro gX cX uN hown1 hgrow1 hgg hlt1
        have dA := aa (FT.out.appX hown1 hgrow1 hgg)
        refine hK.out _ _ ?_ (fun hHeld => ?_)
        · exact hS.out _ _ _ _ _ _ _ dA
        clear hK K hHeld
        try simp only [qq]
        have hG := DU g3 gX cX uN dA
        rw [hT, ha0] at hG
        (try simp only [qq] at hG)
        exact hG
       ·
        go_simp
        have dA := aa (FT.out.below (af uT (.cells #[.int .i64 (v)] 3)))
        refine hK.out _ _ ?_ (fun hHeld => ?_)
        · exact hS.out _ _ _ _ _ _ _ dA
        clear hK K hHeld
        try simp only [qq]
        have hG := uQ g3 (uT.heap.size) (uT.alloc (.cells #[.int .i64 (v)] 3)) dA (aa (F3.out.below (af uT (.cells #[.int .i64 (v)] 3)))) (aa (aN.newB FT.out (v)))
        rw [hT, ha0] at hG
        (try simp only [qq] at hG)
        exact hG
      have G8 : ∀ (g8 : Nat) (uT : World), (Hid (dV w0 (wr.heap.size) (iK ix v) mb mo u11 (kk) (ixs (pts l k)) u12 (kk) (b_ (pts l k)) uT)) → (Hid (aN uT g8 (v) u11 u12)) → T 5 #[true, true, true, false, false, true, true, true, true, false, false, false] (a0.put (some 79) (.slice (some ⟨g8, 0, none⟩) 1 1)) uT := by
       intro g8 uT FT F8
       have hHeld := hS.out _ _ _ _ _ _ _ FT
       rw [hT, ha0]
       try simp only [qq]
       refine mP 3 fun K hK => ?_
       go_simp
       have dA := aa (FT.out.below (af uT (.cells #[.int .i64 (ix)] 3)))
       refine hK.out _ _ ?_ (fun hHeld => ?_)
       · exact hS.out _ _ _ _ _ _ _ dA
       clear hK K hHeld
       try simp only [qq]
       have hG := uQ (uT.heap.size) g8 (uT.alloc (.cells #[.int .i64 (ix)] 3)) dA (aa (aN.newB FT.out (ix))) (aa (F8.out.below (af uT (.cells #[.int .i64 (ix)] 3))))
       rw [hT, ha0] at hG
       (try simp only [qq] at hG)
       exact hG
      have G0 : ∀  (uT : World), (Hid (dV w0 (wr.heap.size) (iK ix v) mb mo u11 (kk) (ixs (pts l k)) u12 (kk) (b_ (pts l k)) uT)) → T 6 #[true, true, true, false, false, true, true, true, false, false, false, false] a0 uT := by
       intro  uT FT
       have hHeld := hS.out _ _ _ _ _ _ _ FT
       rw [hT, ha0]
       try simp only [qq]
       refine iY (i1 := 3) (i2 := 8) (by kernel_rfl) rfl rfl (fun K hK => ?_) (fun K hK => ?_)
       ·
        go_simp
        have dA := aa (FT.out.below (af uT (.cells #[.int .i64 (ix)] 3)))
        refine hK.out _ _ ?_ (fun hHeld => ?_)
        · exact hS.out _ _ _ _ _ _ _ dA
        clear hK K hHeld
        try simp only [qq]
        have hG := G3 (uT.heap.size) (uT.alloc (.cells #[.int .i64 (ix)] 3)) dA (aa (aN.newB FT.out (ix)))
        rw [hT, ha0] at hG
        (try simp only [qq] at hG)
        exact hG
       ·
        go_simp
        have dA := aa (FT.out.below (af uT (.cells #[.int .i64 (v)] 3)))
        refine hK.out _ _ ?_ (fun hHeld => ?_)
        · exact hS.out _ _ _ _ _ _ _ dA
        clear hK K hHeld
        try simp only [qq]
        have hG := G8 (uT.heap.size) (uT.alloc (.cells #[.int .i64 (v)] 3)) dA (aa (aN.newB FT.out (v)))
        rw [hT, ha0] at hG
        (try simp only [qq] at hG)
        exact hG
      exact G0 _ Dr
    ·
     have hke : n = k := by omega
     subst hke
     have hln : l.length = n := hn.out
     have Gd : Hid ((ixs (pts l n)).length = kk) := aa (by rw [List.length_map]; exact HKK.out)
     have K7 : Hid ((b_ (pts l n)).length = kk) := aa (by rw [List.length_map]; exact HKK.out)
     obtain ⟨AX, cX, NL, sX, Sy⟩ := j_ xy.out Gd.out
     obtain ⟨AY, cY, NK, sY, Sw⟩ := j_ xw.out K7.out
     subst NL
     subst NK
     have GK := aa sX
     have F4 := aa sY
     have JV : Hid (bY (ixs (pts l n))) := aa (Ik l n)
     have O5 : Hid (∀ j, j < kk → iD kn ((ixs (pts l n)).getD j 0) = true ∧ bf Q ((b_ (pts l n)).getD j 0) = true) := aa (fun j hj => by
      have h9 := EO iV.out n (by rw [hln]; exact Nat.le_refl _) j (by rw [HKK.out]; exact hj)
      rw [dF (by rw [HKK.out]; exact hj), mM (by rw [HKK.out]; exact hj)]
      exact h9)
     have uM : Hid (gm l l.length = true) := aa (by rw [hln]; exact Ni.out)
     have Jp : Hid ((pts l l.length).length = kk) := aa (by rw [hln]; exact HKK.out)
     obtain ⟨q1, q2, q3, q4⟩ := az dG.out
     clear sX sY xy xw oN Gb M5 O_ hln
     have cZ := iH wr
     have kX := JC (w := wr) (fun u => Sl u AX (ixs (pts l n))) GK.out (·.below)
     have kY := JC (w := wr) (fun u => Sl u AY (b_ (pts l n))) F4.out (·.below)
     have zc := kC.out _ aB
     obtain ⟨T, hT⟩ : ∃ T, (2305843009213693951 : Int) / Q = T := ⟨_, rfl⟩
     have hT0 : 0 ≤ T := by rw [← hT]; exact Int.ediv_nonneg (by omega) (by omega)
     have hT1 : T ≤ 2305843009213693951 := by rw [← hT]; exact Int.ediv_le_self _ (by omega)
     have Vf : (2305843009213693951 : Int).tdiv Q = T := by rw [Int.tdiv_eq_ediv_of_nonneg (by omega)]; exact hT
     have Ve : IntKind.i64.wrap T = T := IntWalk.i64_in _ (by omega)
     have SH : wrap64 T = T := IntWalk.wrap64_in _ (by omega)
     have hQn : ¬ (Q = 0) := by omega
     have JH : ((Q : Int) == 0) = false := by simp; omega
     go_wp2
     go_loopw [17, 87] (fun a i wz => ∃ (j : Nat) (EM : Int), j ≤ m - kk ∧ i = .int .i64 j ∧ a = .int .i64 EM ∧ Hid (qJ Q j = some EM) ∧ wz = wr) (fun _ i _ => m - kk - (intOf i).toNat)
     case atStart => exact ⟨0, 1, by omega, rfl, rfl, aa rfl, rfl⟩
     case round =>
      obtain ⟨j, EM, hj, rfl, rfl, Ga, rfl⟩ := hrel
      obtain ⟨p0, p1⟩ := jC (by omega) j EM Ga.out
      by_cases hjm : j < m - kk
      ·
       have dj : decide ((j : Int) < (m : Int) - (kk : Int)) = true := by simp; omega
       by_cases hbg : T < EM
       ·
        have db : decide (T < EM) = true := by simp; omega
        have JW : Hid (qJ Q (m - kk) = none) := aa (sO (k := j + 1) (by rw [qJ, Ga.out]; dsimp only; rw [if_pos (by rw [hT]; exact hbg)]) _ (by omega))
        have fT := ag bB.out aB.out
        go_wp2
        go_ret2
        obtain ⟨e1, e2⟩ := ER (m := m) iV.out uM.out (by rw [Jp.out]; omega) (by rw [Jp.out]; exact JW.out)
        exact ⟨by rw [e1, e2]; rfl, fT⟩
       ·
        have db : decide (T < EM) = false := by simp; omega
        have h8 : qJ Q (j + 1) = some (EM * Q) := by rw [qJ, Ga.out]; dsimp only; rw [if_neg (by rw [hT]; exact hbg)]
        have Ls := aa h8
        obtain ⟨p2, p3⟩ := jC (by omega) (j + 1) _ h8
        obtain ⟨pn, hpn⟩ : ∃ x, EM * Q = x := ⟨_, rfl⟩
        rw [hpn] at Ls p2 p3
        have e1 : IntKind.i64.wrap pn = pn := IntWalk.i64_in _ (by omega)
        have e2 : wrap64 pn = pn := IntWalk.wrap64_in _ (by omega)
        clear h8
        go_wp2
        go_roundw
        case rel => exact ⟨j + 1, pn, by omega, by go_num, rfl, Ls, by first | rfl | trivial⟩
        case measure => simp [intOf]; omega
      ·
       obtain rfl : j = m - kk := by omega
       have dj : decide ((((m - kk : Nat) : Nat) : Int) < (m : Int) - (kk : Int)) = false := by simp; omega
       obtain ⟨jj, hjj⟩ : ∃ x, m - kk = x := ⟨_, rfl⟩
       rw [hjj] at dj Ga ⊢
       by_cases hle : kk ≤ m
       ·
        have dl : decide ((kk : Int) ≤ (m : Int)) = true := by simp; omega
        have fT := ag bB.out aB.out
        have Uo := aa hjj
        clear hjj
        go_wp2
        go_ret2
        obtain ⟨e1, e2⟩ := EP (m := m) iV.out uM.out (by rw [Jp.out]; omega) (by rw [Jp.out, Uo.out]; exact Ga.out)
        exact ⟨by rw [e1, e2]; rfl, fT⟩
       ·
        have dl : decide ((kk : Int) ≤ (m : Int)) = false := by simp; omega
        have hml : m < (pts l l.length).length := by rw [Jp.out]; omega
        have Dz : Hid (dR Q = true) := aa (eT dG.out)
        have MN : Hid (((ixs (pts l n)).take m).length = m) := aa (by rw [List.length_take, Gd.out]; omega)
        have OG : Hid (((b_ (pts l n)).take m).length = m) := aa (by rw [List.length_take, K7.out]; omega)
        have Nh : Hid (∀ j, j < m → ((ixs (pts l n)).take m).getD j 0 = (ixs (pts l n)).getD j 0) := aa (fun j hj => by rw [List.getD_eq_getElem?_getD, List.getElem?_take_of_lt hj, ← List.getD_eq_getElem?_getD])
        have Rf : Hid (∀ j, j < m → ((b_ (pts l n)).take m).getD j 0 = (b_ (pts l n)).getD j 0) := aa (fun j hj => by rw [List.getD_eq_getElem?_getD, List.getElem?_take_of_lt hj, ← List.getD_eq_getElem?_getD])
        have Ng : Hid (∀ j, j < kk → 1 ≤ (ixs (pts l n)).getD j 0 ∧ (ixs (pts l n)).getD j 0 ≤ 8 ∧ (ixs (pts l n)).getD j 0 < Q) := aa (fun j hj => by
         obtain ⟨h1, _⟩ := O5.out j hj
         obtain ⟨mm, h3, h4⟩ := nW h1
         rw [h4]
         omega)
        have K5 : Hid (((ixs (pts l n)).take m).all (bf Q) = true) := aa (by
         rw [List.all_eq_true]
         intro x hx
         obtain ⟨j, hj, rfl⟩ := List.getElem_of_mem hx
         rw [MN.out] at hj
         have h9 := Ng.out j (by omega)
         rw [← Nh.out j hj, List.getD_eq_getElem?_getD, List.getElem?_eq_getElem (by rw [MN.out]; exact hj)] at h9
         obtain ⟨g1, _, g3⟩ := h9
         change 1 ≤ _ at g1
         have g4 : ∀ z : Int, 1 ≤ z → z < Q → bf Q z = true := fun z z1 z2 => by simp [bf]; omega
         exact g4 _ g1 g3)
        have K4 : Hid (((b_ (pts l n)).take m).all (bf Q) = true) := aa (by
         rw [List.all_eq_true]
         intro x hx
         obtain ⟨j, hj, rfl⟩ := List.getElem_of_mem hx
         rw [OG.out] at hj
         have h9 := (O5.out j (by omega)).2
         rw [← Rf.out j hj, List.getD_eq_getElem?_getD, List.getElem?_eq_getElem (by rw [OG.out]; exact hj)] at h9
         exact h9)
        have MM : Hid (bY ((ixs (pts l n)).take m)) := aa (kz JV.out)
        have QN : Hid (∀ i j, i < m → j < m → i ≠ j → Un Q (cK ((ixs (pts l n)).take m) i - cK ((ixs (pts l n)).take m) j)) := aa (fun i j hi hj hij => by
         show Un Q (((ixs (pts l n)).take m).getD i 0 - ((ixs (pts l n)).take m).getD j 0)
         rw [Nh.out i hi, Nh.out j hj]
         obtain ⟨a1, a2, a3⟩ := Ng.out i (by omega)
         obtain ⟨b1, b2, b3⟩ := Ng.out j (by omega)
         refine qE Dz.out a1 a2 a3 (by omega) b2 b3 (fun e => ?_)
         rcases Nat.lt_or_gt_of_ne hij with h | h
         · exact JV.out j i (by rw [Gd.out]; omega) h e.symm
         · exact JV.out i j (by rw [Gd.out]; omega) h e)
        have Sd : m ≤ cX := by omega
        have U9 : m ≤ cY := by omega
        have NI := aa (show ∀ u : World, Hid (Below wr.heap.size wr u) → Hid (Sl u AX ((ixs (pts l n)).take m)) from fun u h => aa ((ja (GK.out.below h.out) m)))
        have R4 := aa (show ∀ u : World, Hid (Below wr.heap.size wr u) → Hid (Sl u AY ((b_ (pts l n)).take m)) from fun u h => aa ((ja (F4.out.below h.out) m)))
        have KC : m ≤ 100 := by omega
        clear hjj
        go_upto_region 30 with (fail)
        clear zc
        have hO := aa (fun (u : World) (h : Hid (Below w0.heap.size w0 u ∧ Below wr.heap.size wr u)) => kC.out u (aa h.out.1))
        refine Md (fun u => Below w0.heap.size w0 u ∧ Below wr.heap.size wr u) [] (bb2 (aa ⟨aB.out, cZ.out⟩) ((Below.refl _ _).drew)) (fun hHeld => ?_)
        refine jT 0 1 2 3 ?_
        refine jT 4 5 6 7 ?_
        refine sD 8 ?_
        refine sD 9 ?_
        refine mP 10 fun K hK => ?_
        go_simp
        refine (x_ Q AX ((ixs (pts l n)).take m) m cX AY ((b_ (pts l n)).take m) cY (by omega) Dz MN OG KC Sd K5 K4 MM QN _ (kV.out _ (aa hHeld.out.1)) (NI.out _ (aa hHeld.out.2)) (R4.out _ (aa hHeld.out.2))).mono ?_
        rintro e wA ⟨AL, cL, L, rfl, hsL, P7, P_, gL⟩
        have D7 := aa hsL
        have Jk := aa P7
        have Q7 := aa P_
        clear hsL P7 P_
        refine hK.out _ _ (bb2 hHeld gL) (fun hHeld => ?_)
        clear hK K
        try simp only [qq]
        obtain ⟨lL, IC⟩ : ∃ x, L.length = x := ⟨_, rfl⟩
        have Pf := aa IC
        rw [IC]
        clear IC
        refine jT 11 12 13 14 ?_
        refine sD 15 ?_
        refine AA ?_
        clear hO
        have DI := (aa hHeld.out.1)
        have LF := (aa hHeld.out.2)
        clear hHeld
        have Ru := iH wA
        have kL := JC (w := wA) (fun u => Sl u AL L) D7.out (·.below)
        have zc := kC.out _ DI
        go_wp2
        clear zc
        go_loopw [124] (fun i wz => ∃ j : Nat, j ≤ kk ∧ i = .int .i64 j ∧ Hid (lX Q (pts l n) m j = true) ∧ Hid (Below wA.heap.size wA wz)) (fun i _ => kk - (intOf i).toNat)
        case atStart => exact ⟨0, by omega, rfl, aa rfl, aa (Below.refl _ _)⟩
        case round =>
         obtain ⟨j, hj, rfl, Rz, rV⟩ := hrel
         have mG := aa (ag DI.out rV.out)
         have yQ := aa (ag LF.out rV.out)
         by_cases kK : j < kk
         ·
          obtain ⟨b1, o1, hA1, i1⟩ := (kX.out _ yQ).out j (by rw [Gd.out]; exact kK)
          obtain ⟨b2, o2, hA2, i2⟩ := (kY.out _ yQ).out j (by rw [K7.out]; exact kK)
          subst hA1
          subst hA2
          obtain ⟨x0, x8, x1⟩ := Ng.out j kK
          have hsc := (O5.out j kK).2
          have JK : j < m → pv L ((ixs (pts l n)).getD j 0) % Q = (b_ (pts l n)).getD j 0 := fun hjm => by
           have h9 := (yo Q7.out hjm).eq
           rw [show cK ((ixs (pts l n)).take m) j = (ixs (pts l n)).getD j 0 from Nh.out j hjm, show cK ((b_ (pts l n)).take m) j = (b_ (pts l n)).getD j 0 from Rf.out j hjm] at h9
           rw [h9]
           exact Int.emod_eq_of_lt (lM hsc) (lN hsc)
          have IP : pv L ((ixs (pts l n)).getD j 0) % Q = smT Q ((ixs (pts l n)).getD j 0) ((ixs (pts l n)).take m) (b_ (pts l n)) m := by
           rw [ko (by omega) MN.out Q7.out QN.out, sI Q _ _ _ m m (Nat.le_refl _)]
          have vW : lX Q (pts l n) m (j + 1) = (decide (j < m) || pv L ((ixs (pts l n)).getD j 0) % Q == (b_ (pts l n)).getD j 0) := by
           rw [lX, Rz.out, Bool.true_and, IP]
          obtain ⟨x, hx⟩ : ∃ x, (ixs (pts l n)).getD j 0 = x := ⟨_, rfl⟩
          obtain ⟨y, hy⟩ : ∃ x, (b_ (pts l n)).getD j 0 = x := ⟨_, rfl⟩
          rw [hx] at i1 x0 x1 x8 JK vW
          rw [hy] at i2 JK vW
          obtain ⟨E, hE⟩ : ∃ z, pv L x % Q = z := ⟨_, rfl⟩
          rw [hE] at JK vW
          have HE := aa hE
          clear IP hx hy hE hsc
          have zc := kC.out _ mG
          go_wp2_with fail
          refine (nM Q AL L lL cL m x (by omega) Dz Pf Jk (by omega) (by omega) x1 _ (kV.out _ mG) (kL.out _ rV)).mono ?_
          rintro e w9 ⟨rfl, rT⟩
          rw [HE.out]
          have Gj := aa (ag rV.out rT)
          have i3 := cell_below i2 rT
          clear rT i1 i2 zc
          by_cases IX : E = y
          ·
           have dE : ((E : Int) != y) = false := by simp [IX]
           have PO : Hid (lX Q (pts l n) m (j + 1) = true) := aa (by rw [vW, IX]; simp)
           clear JK vW IX
           go_wp2
           go_roundw
           case rel => exact ⟨j + 1, by omega, by go_num, PO, Gj⟩
           case measure => simp [intOf]; omega
          ·
           have dE : ((E : Int) != y) = true := by simpa using IX
           have Nk : Hid (lX Q (pts l n) m kk = false) := aa (qy (k := j + 1) (by
            rw [vW]
            have h1 : decide (j < m) = false := by simp; exact Nat.le_of_not_lt (fun h => IX (JK h))
            have h2 : (E == y) = false := by simpa using IX
            rw [h1, h2]; rfl) kk (by omega))
           have fT := ag bB.out (ag DI.out Gj.out)
           clear JK vW IX
           go_wp2
           go_ret2
           obtain ⟨e1, e2⟩ := xZ (m := m) iV.out uM.out hml false (by rw [Jp.out, hn.out]; exact Nk.out)
           exact ⟨by rw [e1, e2]; rfl, fT⟩
         ·
          obtain rfl : j = kk := by omega
          have fT := ag bB.out mG.out
          have zc := kC.out _ mG
          go_wp2
          go_ret2
          obtain ⟨e1, e2⟩ := xZ (m := m) iV.out uM.out hml true (by rw [Jp.out, hn.out]; exact Rz.out)
          exact ⟨by rw [e1, e2]; rfl, fT⟩
end Go.Proofs.YticegghameafgaaGreatDoor
namespace Go.Proofs.YticegghameafgaaGreatDoor
open Go.RowKit jq
structure Dq (w : World) (P Q G : Int) (h : List Int) (c : Int) (u : World) : Prop where
 g : u.heap[w.heap.size]? = some (aC P Q G)
 d : aQ u (w.heap.size + 1) h c
 b : Below w.heap.size w u
section
variable {w u u' : World} {P Q G c : Int} {h : List Int}
theorem Dq.gb (H : Dq w P Q G h c u) : l5 u w.heap.size P Q G := ⟨ax H.g 0, ax H.g 1, ax H.g 2⟩
theorem Dq.below (H : Dq w P Q G h c u) (hb : Below u.heap.size u u') : Dq w P Q G h c u' :=
 ⟨(hb.block _ (Array.getElem?_eq_some_iff.1 H.g).1).trans H.g, H.d.below hb, ag H.b hb⟩
theorem Dq.start (w : World) (P Q G : Int) (h : List Int) (c : Int) : Dq w P Q G h c ((w.alloc (aC P Q G)).alloc (.cells (aJ h c) 27)) :=
 ⟨((af _ _).block _ (by simp)).trans (heap_alloc_new _ _), by
  have e1 : (w.alloc (aC P Q G)).heap.size = w.heap.size + 1 := by simp
  rw [← e1]; exact aQ.new _ _ _, aI (Below.refl _ _)⟩
end
theorem EA {w : World} {B n : Nat} {f : Nat → Int} (h : iA w B n f) (hn : 0 < n) : B < w.heap.size := by
 rcases Nat.lt_or_ge B w.heap.size with h1 | h1
 · exact h1
 ·
  exfalso
  have h2 := h.1 0 hn
  have h0 : w.heap[B]? = none := Array.getElem?_eq_none (by omega)
  simp [World.cell?, h0] at h2
theorem sN {w u : World} {B n : Nat} {f : Nat → Int} (h : iA w B n f) (hb : u.heap[B]? = w.heap[B]?) : iA u B n f :=
 ⟨fun j hj => (World.cell?_of_block (w := w) (w' := u) (a := ⟨B, j, none⟩) hb).trans (h.1 j hj), fun j => (World.frozen?_of_block (w := w) (w' := u) (a := ⟨B, j, none⟩) hb).trans (h.2 j)⟩
theorem d_ {w u : World} {B n : Nat} {f : Nat → Int} (h : iA w B n f) (hn : 0 < n) (hb : Below w.heap.size w u) : iA u B n f := sN h (hb.block B (EA h hn))
theorem vB {w : World} {B n : Nat} {f g : Nat → Int} (h : iA w B n f) (he : ∀ j, j < n → f j = g j) : iA w B n g := ⟨fun j hj => by rw [← he j hj]; exact h.1 j hj, h.2⟩
theorem vz {w : World} {B n b j : Nat} {v : Value} {f : Nat → Int} (h : iA w B n f) (hne : B ≠ b) : iA (w.setCell ⟨b, j, none⟩ v) B n f := sN h (Go.Deep.blk_setCell_other _ _ _ _ hne)
abbrev hd0 (w : World) : World := (w.alloc (.cells lJ 32)).alloc (.cells #[.int .u8 0, .int .u8 0, .int .u8 0, .int .u8 0, .int .u8 0, .int .u8 0, .int .u8 0, .int .u8 0, .int .u8 0, .int .u8 0, .int .u8 0, .int .u8 0, .int .u8 0, .int .u8 0, .int .u8 0, .int .u8 0, .int .u8 0, .int .u8 0, .int .u8 0, .int .u8 0, .int .u8 0, .int .u8 0, .int .u8 0, .int .u8 0, .int .u8 0, .int .u8 0, .int .u8 0, .int .u8 0, .int .u8 0, .int .u8 0, .int .u8 0, .int .u8 0, .int .i64 0] 27)
abbrev hd1 (w : World) (need : Int) (v u : Value) : World := (hd0 w).setRow w.heap.size (oU need v u)
abbrev hd2 (w : World) (need : Int) (v u : Value) (h : List Int) (c : Int) : World := (hd1 w need v u).setRow (w.heap.size + 1) (aJ h c)
theorem Cv (w : World) (need : Int) (v u : Value) (h : List Int) (c : Int) : bZ (hd0 w) w.heap.size 0 (.slice none 0 0) (.slice none 0 0) ∧ aQ (hd1 w need v u) (w.heap.size + 1) (aT 32) 0 ∧ bZ (hd2 w need v u h c) w.heap.size need v u ∧ Below w.heap.size w (hd2 w need v u h c) := by
 have h0 : bZ (hd0 w) w.heap.size 0 (.slice none 0 0) (.slice none 0 0) := heap_alloc2_old _ _ _
 have h1 : aQ (hd0 w) (w.heap.size + 1) (aT 32) 0 := by
  unfold hd0
  rw [Jy]
  exact heap_alloc2_new _ _ _
 exact ⟨h0, h1.row (by omega), h0.setRow.row (by omega), aj (aj (aI (Below.refl _ _)) (Nat.le_refl _)) (Nat.le_succ _)⟩
theorem tY (P Q G need many turn : Int) (h : List Int) (c : Int) (hl : Hid (h.length = 32)) (hQ : Q < 9223372036854775808) (hbad : (ah P Q G = false) ∨ (ah P Q G = true ∧ (113 < Q ∨ c < 0 ∨ 1073741824 < c))) (w : World) (hv : Hid (Vars w)) :
  Calls Tryz.prog 3 #[gv P Q G, .int .u8 need, .int .u8 many, .agg (aJ h c), .int .u8 turn] w (Rt w (.bool true)) := by
 obtain ⟨W, hW⟩ : ∃ W, (w.alloc (aC P Q G)).alloc (.cells (aJ h c) 27) = W := ⟨_, rfl⟩
 have HI0 : Hid (Dq w P Q G h c W) := aa (by rw [← hW]; exact Dq.start w P Q G h c)
 have HW := aa hW
 clear hW
 go_in
 go_upto_region 1 with (fail)
 rw [HW.out]
 clear HW
 go_wp2_with fail
 refine (lW _ (aa (hv.out.below HI0.out.b))).mono ?_
 rintro e w1 ⟨rfl, hb1⟩
 have HI1 := aa (HI0.out.below hb1)
 clear hb1 HI0
 obtain ⟨g0, g1, g2⟩ := HI1.out.gb
 have hdc := HI1.out.d.count hl.out
 rcases hbad with jP | ⟨jP, hq⟩
 ·
  go_wp2_with fail
  clear g0 g1 g2 hdc
  refine (bL P Q G false (aa jP) hQ _).mono ?_
  rintro e w2 ⟨rfl, hb2⟩
  have HI2 := aa (HI1.out.below hb2)
  go_wp2_with fail
  refine (lW _ (aa (hv.out.below HI2.out.b))).mono ?_
  rintro e w3 ⟨rfl, hb3⟩
  have HI3 := aa (HI2.out.below hb3)
  go_wp2
  go_ret
  exact ⟨rfl, HI3.out.b⟩
 ·
  go_wp2_with fail
  clear g0 g1 g2 hdc
  refine (bL P Q G true (aa jP) hQ _).mono ?_
  rintro e w2 ⟨rfl, hb2⟩
  have HI2 := aa (HI1.out.below hb2)
  obtain ⟨g0, g1, g2⟩ := HI2.out.gb
  have hdc := HI2.out.d.count hl.out
  by_cases h1 : 113 < Q
  ·
   have d1 : decide ((113 : Int) < Q) = true := by simp [h1]
   clear hq
   go_wp2_with fail
   clear g0 g1 g2 hdc
   refine (lW _ (aa (hv.out.below HI2.out.b))).mono ?_
   rintro e w3 ⟨rfl, hb3⟩
   have HI3 := aa (HI2.out.below hb3)
   go_wp2
   go_ret
   exact ⟨rfl, HI3.out.b⟩
  ·
   have d1 : decide ((113 : Int) < Q) = false := by simp [h1]
   by_cases h2 : c < 0
   ·
    have d2 : decide (c < (0 : Int)) = true := by simp [h2]
    clear hq
    go_wp2_with fail
    clear g0 g1 g2 hdc
    refine (lW _ (aa (hv.out.below HI2.out.b))).mono ?_
    rintro e w3 ⟨rfl, hb3⟩
    have HI3 := aa (HI2.out.below hb3)
    go_wp2
    go_ret
    exact ⟨rfl, HI3.out.b⟩
   ·
    have d2 : decide (c < (0 : Int)) = false := by simp; omega
    have d3 : decide ((1073741824 : Int) < c) = true := by simp; omega
    clear hq
    go_wp2_with fail
    clear g0 g1 g2 hdc
    refine (lW _ (aa (hv.out.below HI2.out.b))).mono ?_
    rintro e w3 ⟨rfl, hb3⟩
    have HI3 := aa (HI2.out.below hb3)
    go_wp2
    go_ret
    exact ⟨rfl, HI3.out.b⟩
theorem Ct (q : Nat) (many need : Int) (hq : 3 ≤ q) (hq2 : q ≤ 113) (m0 : 0 ≤ many) (n0 : 0 ≤ need) :
  ∃ S k1 nn k2 m : Nat, min 8 ((q : Int) - 1) = (S : Int) ∧ 0 < S ∧ many % (S : Int) = (k1 : Int) ∧ wrap64 (1 + (k1 : Int)) = (nn : Int) ∧ need % (nn : Int) = (k2 : Int) ∧ wrap64 (1 + (k2 : Int)) = (m : Int) ∧ 1 ≤ m ∧ m ≤ nn ∧ nn ≤ 8 ∧ nn < q := by
 have hS : min 8 ((q : Int) - 1) = ((min 8 (q - 1) : Nat) : Int) := by omega
 obtain ⟨S, hSS⟩ : ∃ S, min 8 (q - 1) = S := ⟨_, rfl⟩
 have S1 : 1 ≤ S ∧ S ≤ 8 ∧ S < q := by omega
 rw [hSS] at hS
 have a0 := Int.emod_nonneg many (show (S : Int) ≠ 0 by omega)
 have a1 := Int.emod_lt_of_pos many (show (0 : Int) < S by omega)
 obtain ⟨k1, hk1⟩ : ∃ k : Nat, many % (S : Int) = (k : Int) := ⟨_, (Int.toNat_of_nonneg a0).symm⟩
 rw [hk1] at a0 a1
 have b0 := Int.emod_nonneg need (show ((k1 + 1 : Nat) : Int) ≠ 0 by omega)
 have b1 := Int.emod_lt_of_pos need (show (0 : Int) < ((k1 + 1 : Nat) : Int) by omega)
 obtain ⟨k2, hk2⟩ : ∃ k : Nat, need % ((k1 + 1 : Nat) : Int) = (k : Int) := ⟨_, (Int.toNat_of_nonneg b0).symm⟩
 rw [hk2] at b0 b1
 refine ⟨S, k1, k1 + 1, k2, k2 + 1, hS, by omega, hk1, ?_, hk2, ?_, by omega, by omega, by omega, by omega⟩
 · exact (IntWalk.wrap64_in _ (by omega)).trans (by omega)
 · exact (IntWalk.wrap64_in _ (by omega)).trans (by omega)
theorem sU {w : World} {b n : Nat} {v : Value} {xs : List Int} (h : w.ownsRow b 3 1 v n (xs.map (Value.int .i64))) (h1 : 1 ≤ n) : ∃ g c, v = .slice (some ⟨g, 0, none⟩) n c ∧ n ≤ c ∧ b ≤ g ∧ iA w g n (fun j => xs.getD j 0) := by
 obtain ⟨hl, h2⟩ := h
 rcases h2 with ⟨rfl, h0⟩ | ⟨g, cap, cur, rfl, hbg, hg, hnc, _, hcs, htk⟩
 · omega
 ·
  refine ⟨g, cap, rfl, hnc, hbg, fun j hj => ?_, fun j => bn hg j⟩
  have hlx : xs.length = n := by simpa using hl
  have h3 : (xs.map (Value.int .i64))[j]? = some (.int .i64 (xs.getD j 0)) := by
   rw [List.getElem?_map, List.getElem?_eq_getElem (by omega), List.getD_eq_getElem?_getD, List.getElem?_eq_getElem (by omega)]; rfl
  rw [← htk, List.getElem?_take_of_lt (by omega)] at h3
  rw [cell_of_row w g _ _ _ _ hg]
  simpa using h3
theorem EU {w : World} {b n s : Nat} {T : TypeId} {v : Value} {xs : List Value} (h : w.ownsRow b T s v n xs) : ∀ A c, v = .slice A n c → n ≤ c := fun A c hv => by
 rcases h.2 with ⟨h1, h2⟩ | ⟨g, cap, cur, h1, _, _, h2, _⟩
 · omega
 ·
  rw [hv] at h1
  cases h1
  exact h2
theorem Cq (P : Int) (q : Nat) (G need many : Int) (tn : Nat) (h : List Int) (c : Int) (hl : Hid (h.length = 32)) (tZ : Hid (aA h = true)) (jP : Hid (ah P (q : Int) G = true)) (hq : q ≤ 113) (c0 : 0 ≤ c) (c1 : c ≤ 1073741824) (n0 : 0 ≤ need) (n1 : need < 256) (m0 : 0 ≤ many) (m1 : many < 256) (t1 : tn < 256) (w : World) (hV : Hid (Vars w)) (hd : Hid (dQ w)) :
  Calls Tryz.prog 3 #[gv P (q : Int) G, .int .u8 need, .int .u8 many, .agg (aJ h c), .int .u8 (tn : Int)] w (Rt w (.bool true)) := by
 have hQ : (q : Int) < 9223372036854775808 := by omega
 have hq3 : 3 ≤ q := by have := (az jP.out).2.2.1; omega
 obtain ⟨W, hW⟩ : ∃ W, (w.alloc (aC P q G)).alloc (.cells (aJ h c) 27) = W := ⟨_, rfl⟩
 have HI0 : Hid (Dq w P q G h c W) := aa (by rw [← hW]; exact Dq.start w P q G h c)
 have HW := aa hW
 have d1 : decide ((113 : Int) < (q : Int)) = false := by simp; omega
 have d2 : decide (c < (0 : Int)) = false := by simp; omega
 have d3 : decide ((1073741824 : Int) < c) = false := by simp; omega
 clear hW
 go_in
 go_upto_region 1 with (fail)
 rw [HW.out]
 clear HW
 go_wp2_with fail
 refine (lW _ (aa (hV.out.below HI0.out.b))).mono ?_
 rintro e w1 ⟨rfl, hb1⟩
 have HI1 := aa (HI0.out.below hb1)
 clear hb1 HI0
 obtain ⟨g0, g1, g2⟩ := HI1.out.gb
 have hdc := HI1.out.d.count hl.out
 go_wp2_with fail
 clear g0 g1 g2 hdc
 refine (bL P q G true jP hQ _).mono ?_
 rintro e w2 ⟨rfl, hb2⟩
 have HI2 := aa (HI1.out.below hb2)
 clear hb2 HI1
 obtain ⟨g0, g1, g2⟩ := HI2.out.gb
 have hdc := HI2.out.d.count hl.out
 go_upto_region 3 with (fail)
 clear hdc d1 d2 d3
 obtain ⟨S, k1, nn, k2, m, hS, hS0, hk1, hnn, hk2, hm, hm1, hmn, JD, hnq⟩ := Ct q many need hq3 hq m0 n0
 go_wp2_with ((with_reducible show wpList _ _ _ (⟨some 75, _, _, _, _, _⟩ :: _) _ _); refine wpList_load_row rfl 27 _ rfl (w.heap.size + 1) rfl _ _ _ _ HI2.out.d Tryz.underlying27 rfl (ai hl.out) ?_)
 clear g0 g1 g2 hS hk1 hnn hk2 hm
 refine (C9 P q G m nn h c hl tZ hQ _ (aa (hV.out.below HI2.out.b)) (aa (hd.out.below HI2.out.b))).mono ?_
 intro e wD hD
 rcases hD with ⟨hbad, _⟩ | ⟨mm, RZ, f, c2, -, KA, NV, hfl, hfs, hf0, -, -, -, hok⟩
 ·
  exfalso
  rw [zJ jP.out c0 c1 hm1 hmn JD (by omega)] at hbad
  cases hbad
 ·
  obtain rfl : m = mm + 1 := by omega
  obtain rfl : nn = RZ := by omega
  clear KA NV
  obtain ⟨m, hm⟩ : ∃ m, mm + 1 = m := ⟨_, rfl⟩
  rw [hm] at hfl hm1 hmn hok ⊢
  obtain ⟨A, ca, B, cb, S, cS, rfl, hC, hK, hS, hbD⟩ := hok
  obtain ⟨Qg, hD1, Qf, hb2⟩ := Cv wD (m : Int) (.slice A m ca) (.slice B nn cb) h c2
  have QT := aa Qg
  have HD1 := aa hD1
  have HI3 := aa ((HI2.out.below hbD).below hb2)
  have Jd := aa Qf
  have Nq := aa (hC.below hb2)
  have Eb := aa (hK.below hb2)
  have pI := aa (hS.below hb2)
  clear hbD Qg hD1 Qf hb2 hC hK hS HI2
  go_upto_region 6 with (first
   | ((with_reducible show wpList _ _ _ (⟨none, Op.store _ (Operand.tmp 13) _, _, _, _, _⟩ :: _) _ _); refine wpList_store_row rfl 32 _ _ rfl wD.heap.size (oU (m : Int) (.slice A m ca) (.slice B nn cb)) rfl rfl _ _ QT.out bH rfl (fB _ rfl rfl) ?_)
   | ((with_reducible show wpList _ _ _ (⟨none, Op.store _ (Operand.tmp 15) _, _, _, _, _⟩ :: _) _ _); refine wpList_store_row rfl 27 _ _ rfl (wD.heap.size + 1) (aJ h c2) rfl rfl _ _ HD1.out (ai hl.out) (dZ rfl hl.out) (aR _ _) ?_))
  obtain ⟨bt, hbt⟩ : ∃ b, wD.heap.size = b := ⟨_, rfl⟩
  obtain ⟨w3, hw3⟩ : ∃ u, hd2 wD (m : Int) (.slice A m ca) (.slice B nn cb) h c2 = u := ⟨_, rfl⟩
  rw [hw3] at HI3 Jd Nq Eb pI
  rw [show ((((wD.alloc (.cells lJ 32)).alloc (.cells #[.int .u8 0, .int .u8 0, .int .u8 0, .int .u8 0, .int .u8 0, .int .u8 0, .int .u8 0, .int .u8 0, .int .u8 0, .int .u8 0, .int .u8 0, .int .u8 0, .int .u8 0, .int .u8 0, .int .u8 0, .int .u8 0, .int .u8 0, .int .u8 0, .int .u8 0, .int .u8 0, .int .u8 0, .int .u8 0, .int .u8 0, .int .u8 0, .int .u8 0, .int .u8 0, .int .u8 0, .int .u8 0, .int .u8 0, .int .u8 0, .int .u8 0, .int .u8 0, .int .i64 0] 27)).setRow wD.heap.size (oU (m : Int) (.slice A m ca) (.slice B nn cb))).setRow (wD.heap.size + 1) (aJ h c2)) = w3 from hw3]
  rw [hbt] at Jd ⊢
  clear hw3 hbt QT HD1
  have Lb : Hid (Ay P (q : Int) G (m : Int) (jL P q G f) (kP P q G f nn) = true) := aa (CU jP.out (by omega) hfs hfl hf0 (by omega) hmn JD (by omega))
  have LK : Hid ((jL P q G f).length = m) := aa (by rw [yG, hfl])
  have JY : Hid ((kP P q G f nn).length = nn) := aa (mZ _ _ _ _ _)
  obtain ⟨g0, g1, g2⟩ := HI3.out.gb
  obtain ⟨⟨z0, f0⟩, ⟨z1, f1⟩, ⟨z2, f2⟩⟩ := And.intro Jd.out.c0 (And.intro Jd.out.c1 Jd.out.c2)
  have DK := aa hfl
  have Pn := aa hfs
  clear hfl hfs
  go_wp2_with fail
  clear g0 g1 g2 z0 f0 z1 f1 z2 f2
  refine (Bo P q G m A (jL P q G f) m ca B (kP P q G f nn) nn cb LK JY true Lb hQ _ Nq Eb).mono ?_
  rintro e w4 ⟨rfl, hb4⟩
  have HI4 := aa (HI3.out.below hb4)
  have QS := aa (Jd.out.below hb4)
  have Rq := aa (Nq.out.below hb4)
  have Nf := aa (Eb.out.below hb4)
  have xm := aa (pI.out.below hb4)
  clear hb4 HI3 Jd Nq Eb pI
  have t2 : ((nn : Int) != (nn : Int)) = false := by simp
  obtain ⟨i1, hi1, hy0, hy1, hy2⟩ := info_parts Cf
  have HI1 := aa hi1
  clear hi1
  go_wp2
  clear t2
  go_loopw [17, 96] (fun v i u => ∃ k : Nat, k ≤ m ∧ i = .int .i64 k ∧ Hid (u.ownsRow w4.heap.size 39 2 v k (vo (jW q f nn tn k))) ∧ Hid (Below w4.heap.size w4 u)) (fun _ i _ => m - (intOf i).toNat)
  case atStart => exact ⟨0, by omega, rfl, aa (World.ownsRow_nil _ _ _ _), aa (Below.refl _ _)⟩
  case round =>
   obtain ⟨k, hk, rfl, HO, aB⟩ := hrel
   by_cases hlt : k < m
   ·
    have hj : (tn + k) % nn < nn := Nat.mod_lt _ (by omega)
    have hjj : ((tn : Int) + (k : Int)) % (nn : Int) = (((tn + k) % nn : Nat) : Int) := by rw [← Int.natCast_add, ← Int.natCast_emod]
    obtain ⟨j, hjd⟩ : ∃ j, (tn + k) % nn = j := ⟨_, rfl⟩
    obtain ⟨b, o, hA, h1, h2⟩ := (xm.out.below aB.out) j (by rw [Fz]; omega)
    have D7 : Hid (jW q f nn tn (k + 1) = jW q f nn tn k ++ [(rU q f nn).getD j (0, 0)]) := aa (by rw [jW, hjd])
    rw [hjd] at hj hjj
    subst hA
    obtain ⟨px, hpx⟩ : ∃ x, (rU (q : Int) f nn).getD j (0, 0) = x := ⟨_, rfl⟩
    obtain ⟨ix, vx⟩ := px
    rw [hpx] at h1 h2 D7
    dsimp only at h1 h2
    have hsz := aB.out.size
    clear hpx hjd
    go_upto_region 13 with (at_builtin; refine _root_.Go.wpList_append_lies _ rfl _ _ 33 rfl w4.heap.size 39 i1 (.agg #[.int .i64 0, .int .i64 0]) 2 16 Tryz.underlying33 HI1.out hy0 hy1 hy2 rfl (by decide) _ _ _ rfl (HO.out.alloc _) ⟨wr.heap.size, 0, none⟩ 1 1 [.int .i64 ix, .int .i64 vx] rfl rfl (World.news_of_block (cs := #[.int .i64 ix, .int .i64 vx]) (t := 39) (fr := (0, 0)) (heap_alloc_new wr _)) (by simp [Value.oneCell']) (by decide) (by unfold maxLen; omega) (by omega) (by simp; omega) (wr.heap.size + 1) (by simp) ?_; intro gs cs w9 tV jK Fv IB)
    have TW : Hid (w9.ownsRow w4.heap.size 39 2 (.slice (some ⟨gs, 0, none⟩) (k + 1) cs) (k + 1) (vo (jW q f nn tn (k + 1)))) := aa (by
     rw [D7.out, xP]
     exact tV)
    have Gj : Hid (Below w4.heap.size w4 w9) := aa ((aB.out.alloc (by omega) (.cells #[.int .i64 ix, .int .i64 vx] 39)).grown jK (by simp; omega) (fun j hj => (World.ownsRow.lt HO.out j hj).1))
    clear tV jK Fv IB h1 h2
    go_wp2
    go_roundw
    case rel => exact ⟨k + 1, by omega, by go_num, TW, Gj⟩
    case measure => simp [intOf]; omega
   ·
    obtain rfl : k = m := by omega
    obtain ⟨LA, cL, hvs, KH, hSS, hSb⟩ := nN HO.out
    have hcap := EU HO.out
    subst hvs
    have Du := aa hSS
    obtain ⟨lb, lo, SQ, _, _⟩ := hSS 0 (by omega)
    subst SQ
    have Va : k ≤ cL := hcap _ _ rfl
    clear hSS hSb hcap HO hlt
    have ni := aa (HI4.out.below aB.out)
    have JM := aa (QS.out.below aB.out)
    have Np := aa (Rq.out.below aB.out)
    have Nc := aa (Nf.out.below aB.out)
    have Lv : Hid (mK (q : Int) f nn (jW q f nn tn k)) := aa (Ex q f (by omega) hmn)
    obtain ⟨l, hll⟩ : ∃ l, jW (q : Int) f nn tn k = l := ⟨_, rfl⟩
    rw [hll] at KH Du Lv
    have ng : Hid (l.length = k) := aa KH
    have Ji : Hid (∀ i, i < k → EI (l.getD i (0, 0))) := aa (fun i hi => by
     have h1 := Lv.out.rng i (by have := ng.out; omega)
     have h2 : 1 ≤ (l.getD i (0, 0)).1 := h1.1
     have h3 : (l.getD i (0, 0)).1 ≤ nn := h1.2.1
     exact ⟨by omega, by omega⟩)
    have Jk : Hid (jF (q : Int) k nn l = 0 ∧ jE (q : Int) k nn l = 1) := aa (by
     have h1 := Lv.out.ply (m := k) (eT jP.out) (by omega) JD (by omega) (by have := DK.out; omega) (by omega)
     rwa [ng.out, if_pos (Nat.le_refl _), Nat.sub_self, Int.pow_zero] at h1)
    clear hll KH HI4 QS Rq Nf xm aB
    obtain ⟨w5, zD⟩ : ∃ u, wr = u := ⟨_, rfl⟩
    rw [zD] at Du ni JM Np Nc ⊢
    clear zD
    obtain ⟨g0, g1, g2⟩ := ni.out.gb
    obtain ⟨⟨z0, f0⟩, ⟨z1, f1⟩, ⟨z2, f2⟩⟩ := And.intro JM.out.c0 (And.intro JM.out.c1 JM.out.c2)
    go_wp2_with fail
    clear g0 g1 g2 z0 f0 z1 f1 z2 f2
    refine (BG P q G k A (jL P q G f) k ca B (kP P q G f nn) nn cb LK JY (some ⟨lb, lo, none⟩) l k cL ng (by omega) Ji Lb hQ _ (aa (hV.out.below ni.out.b)) Np Nc Du).mono ?_
    rintro e w6 ⟨rfl, hb6⟩
    have Al := aa (ni.out.below hb6)
    have Jc := aa (JM.out.below hb6)
    have Px := aa (Np.out.below hb6)
    have JZ := aa (Nc.out.below hb6)
    have F5 := aa (Du.out.below hb6)
    rw [Jk.out.1, Jk.out.2]
    clear hb6 ni JM Np Nc Du Jk
    have hO : Hid (∀ u : World, Hid (Below w6.heap.size w6 u) → (u.cell? ⟨w.heap.size, 0, none⟩ = some (.int .i64 P) ∧ u.cell? ⟨w.heap.size, 1, none⟩ = some (.int .i64 (q : Int)) ∧ u.cell? ⟨w.heap.size, 2, none⟩ = some (.int .i64 G) ∧ u.cell? ⟨bt, 0, none⟩ = some (.int .i64 (k : Int)) ∧ u.cell? ⟨bt, 1, none⟩ = some (.slice A k ca) ∧ u.cell? ⟨bt, 2, none⟩ = some (.slice B nn cb))) := aa (fun u hb => by
     obtain ⟨a0, a1, a2⟩ := (Al.out.below hb.out).gb
     have U := Jc.out.below hb.out
     exact ⟨a0, a1, a2, U.c0.1, U.c1.1, U.c2.1⟩)
    have HB0 : Hid (Below w6.heap.size w6 w6) := aa (Below.refl _ _)
    obtain ⟨A1, hA1⟩ : ∃ A1, (if cL = 1 then some (⟨lb, lo, none⟩ : Addr) else some ⟨lb, lo + 2, none⟩) = A1 := ⟨_, rfl⟩
    obtain ⟨l1, hl1⟩ : ∃ l1, l.drop 1 = l1 := ⟨_, rfl⟩
    have DF : Hid (mK (q : Int) f nn l1) := aa (by rw [← hl1]; exact BK Lv.out)
    have Ea : Hid (l1.length = k - 1) := aa (by rw [← hl1, List.length_drop, ng.out])
    have D8 : Hid (Sh w6 A1 l1) := aa (by
     intro i hi
     have hi1 : i < k - 1 := by have := Ea.out; omega
     obtain ⟨b, o, e1, e2, e3⟩ := F5.out (i + 1) (by have := ng.out; omega)
     obtain ⟨rfl, rfl⟩ : lb = b ∧ lo = o := by injection e1 with e1; injection e1 with e1 e2; exact ⟨e1, e2⟩
     refine ⟨lb, lo + 2, by rw [← hA1, if_neg (by omega)], ?_, ?_⟩
     · rw [← hl1, List.getD_eq_getElem?_getD, List.getElem?_drop, ← List.getD_eq_getElem?_getD, Nat.add_comm 1 i, show lo + 2 + i * 2 = lo + (i + 1) * 2 by omega]; exact e2
     · rw [← hl1, List.getD_eq_getElem?_getD, List.getElem?_drop, ← List.getD_eq_getElem?_getD, Nat.add_comm 1 i, show lo + 2 + i * 2 + 1 = lo + (i + 1) * 2 + 1 by omega]; exact e3)
    have HR1 : Hid (∀ i, i < k - 1 → EI (l1.getD i (0, 0))) := aa (fun i hi => by
     have h1 := DF.out.rng i (by have := Ea.out; omega)
     have h2 : 1 ≤ (l1.getD i (0, 0)).1 := h1.1
     have h3 : (l1.getD i (0, 0)).1 ≤ nn := h1.2.1
     exact ⟨by omega, by omega⟩)
    have qA : Hid (jF (q : Int) k nn l1 = 0 ∧ jE (q : Int) k nn l1 = (q : Int)) := aa (by
     have h1 := DF.out.ply (m := k) (eT jP.out) (by omega) JD (by omega) (by have := DK.out; omega) (by omega)
     rwa [Ea.out, if_pos (by omega), show k - (k - 1) = 1 by omega, Int.pow_one] at h1)
    have Sj : (1 : Int) ≤ (k : Int) := by omega
    have Uj := aa hl1
    clear hl1
    go_upto_region 15 with (fail)
    refine NG [] HB0 (fun hHeld => ?_)
    refine jT 0 1 2 3 ?_
    refine mP 4 fun K hK => ?_
    go_simp
    refine (BG P q G k A (jL P q G f) k ca B (kP P q G f nn) nn cb LK JY A1 l1 (k - 1) (cL - 1) Ea (by omega) HR1 Lb hQ _ (aa (hV.out.below (Al.out.below hHeld.out).b)) (aa (Px.out.below hHeld.out)) (aa (JZ.out.below hHeld.out)) (aa (D8.out.below hHeld.out))).mono ?_
    rintro e w7 ⟨rfl, JE⟩
    rw [qA.out.1, qA.out.2]
    refine hK.out _ _ (yJ hHeld JE) (fun hHeld => ?_)
    clear hK K
    refine jT 5 6 7 8 ?_
    refine sD 9 ?_
    refine AA ?_
    clear hO
    have HA1 := aa hA1
    clear hA1
    have Ak := aa (Al.out.below hHeld.out)
    have K_ := aa (Jc.out.below hHeld.out)
    have Pw := aa (Px.out.below hHeld.out)
    have Rb := aa (JZ.out.below hHeld.out)
    have MV := aa (F5.out.below hHeld.out)
    have QV := aa (D8.out.below hHeld.out)
    obtain ⟨f0, IG⟩ : ∃ z, f.getD 0 0 = z := ⟨_, rfl⟩
    have Rm := aa IG
    have KE := bV Pn.out (k := 0) (by have := DK.out; omega)
    rw [IG] at KE
    obtain ⟨Tc, Ta⟩ := KE
    have OW : Hid (jY P q G (k : Int) (kP P q G f nn) l = 0 ∧ qI P q G (k : Int) (kP P q G f nn) l = f0) := aa (by
     rw [← Rm.out]
     exact G_ Lv.out (eT jP.out) JD (by omega) DK.out (by have := ng.out; omega) Pn.out hm1)
    have hqq : ((q : Int) != (q : Int)) = false := by simp
    obtain ⟨g0, g1, g2⟩ := Ak.out.gb
    obtain ⟨⟨z0, _⟩, ⟨z1, _⟩, ⟨z2, _⟩⟩ := And.intro K_.out.c0 (And.intro K_.out.c1 K_.out.c2)
    clear Al Jc Px JZ F5 D8 HB0 IG
    go_wp2_with fail
    clear g0 g1 g2 z0 z1 z2 hqq
    refine (Kh P q G k A (jL P q G f) k ca B (kP P q G f nn) nn cb LK JY (some ⟨lb, lo, none⟩) l k cL ng (by omega) Ji Lb hQ _ (aa (hV.out.below Ak.out.b)) Pw Rb MV).mono ?_
    rintro e w8 ⟨rfl, DW⟩
    rw [OW.out.1, OW.out.2]
    have GU := aa (Ak.out.below DW)
    have QO := aa (K_.out.below DW)
    have Rp := aa (Pw.out.below DW)
    have QU := aa (QV.out.below DW)
    have LM : Hid (iT P (q : Int) G [G] = 0) := aa (fV jP.out (by simp [fE jP.out]))
    obtain ⟨V, Mi⟩ : ∃ z, pw G (f0 % (q : Int)) P = z := ⟨_, rfl⟩
    have OI := aa Mi
    obtain ⟨g0, g1, g2⟩ := GU.out.gb
    clear Ak K_ Pw Rb MV QV OW Mi DW Ji Lb
    go_wp2_with fail
    clear g0 g1 g2
    refine (g_ P q G G f0 V LM OI (by omega) (by omega) _ (aa (hV.out.below GU.out.b))).mono ?_
    rintro e w9 ⟨rfl, rT⟩
    have DJ := aa (GU.out.below rT)
    have FZ := aa (QO.out.below rT)
    have UC := aa (Rp.out.below rT)
    have OO := aa (QU.out.below rT)
    obtain ⟨ab, ao, SY, hcc⟩ := UC.out 0 (by rw [LK.out]; omega)
    rw [Nat.add_zero, ru Pn.out (by have := DK.out; omega), Rm.out, ← Int.emod_eq_of_lt Tc Ta, OI.out] at hcc
    rw [SY] at FZ
    have Mi : (V != V) = false := by simp
    obtain ⟨⟨z0, _⟩, ⟨z1, _⟩, ⟨z2, _⟩⟩ := And.intro FZ.out.c0 (And.intro FZ.out.c1 FZ.out.c2)
    clear GU QO Rp QU rT LM OI
    have kpos : (0 : Int) < (k : Int) := by omega
    go_upto_region 23 with (fail)
    clear Mi z0 z1 z2 hcc
    obtain ⟨i0, hi, hz0, hz1, hz2⟩ := info_parts gW
    have rO : Hid (Below w9.heap.size w9 ((w9.alloc (.cells #[.int .i64 0] 3)).alloc (.cells #[.int .i64 0] 3))) := aa (aI (Below.refl _ _))
    have HX0 : Hid (((w9.alloc (.cells #[.int .i64 0] 3)).alloc (.cells #[.int .i64 0] 3)).ownsRow w9.heap.size 3 1 (.slice (some ⟨w9.heap.size, 0, none⟩) 1 1) 1 [.int .i64 0]) := aa ⟨rfl, .inr ⟨w9.heap.size, 1, #[.int .i64 0], rfl, Nat.le_refl _, heap_alloc2_old _ _ _, by omega, by unfold maxLen; omega, rfl, rfl⟩⟩
    have Tq : Hid (((w9.alloc (.cells #[.int .i64 0] 3)).alloc (.cells #[.int .i64 0] 3)).ownsRow w9.heap.size 3 1 (.slice (some ⟨w9.heap.size + 1, 0, none⟩) 1 1) 1 [.int .i64 0]) := aa ⟨rfl, .inr ⟨w9.heap.size + 1, 1, #[.int .i64 0], rfl, Nat.le_succ _, heap_alloc2_new _ _ _, by omega, by unfold maxLen; omega, rfl, rfl⟩⟩
    have hA1 := HA1.out
    go_wp2
    clear hA1
    go_loopw [24, 25, 177] (fun vx vy i wr => ∃ j : Nat, j ≤ k - 1 ∧ i = .int .i64 j ∧ Hid (wr.ownsRow w9.heap.size 3 1 vx (j + 1) ((0 :: ixs (l1.take j)).map (Value.int .i64))) ∧ Hid (wr.ownsRow w9.heap.size 3 1 vy (j + 1) ((0 :: b_ (l1.take j)).map (Value.int .i64))) ∧ Hid (∀ j, vx.ownBlock = some j → vy.ownBlock ≠ some j) ∧ Hid (Below w9.heap.size w9 wr)) (fun _ _ i _ => k - 1 - (intOf i).toNat)
    case atStart => exact ⟨0, by omega, rfl, HX0, Tq, aa (fun j h1 h2 => by simp [Value.ownBlock] at h1 h2; omega), rO⟩
    case round =>
     obtain ⟨j, hj, rfl, xy, xw, oN, aB⟩ := hrel
     by_cases hlt : j < k - 1
     ·
      have hkl : j < l1.length := by rw [Ea.out]; exact hlt
      obtain ⟨b, o, hA, tQ, tT⟩ := (OO.out.below aB.out) j hkl
      subst hA
      have tx := sG hkl
      have ty := sF hkl
      obtain ⟨px, hpx⟩ : ∃ x, l1.getD j (0, 0) = x := ⟨_, rfl⟩
      obtain ⟨ix, v⟩ := px
      rw [hpx] at tQ tT tx ty
      have TX : Hid (0 :: ixs (l1.take (j + 1)) = 0 :: (ixs (l1.take j) ++ [ix])) := aa (by rw [tx])
      have TY : Hid (0 :: b_ (l1.take (j + 1)) = 0 :: (b_ (l1.take j) ++ [v])) := aa (by rw [ty])
      clear tx ty hpx
      dsimp only at tQ tT
      obtain ⟨w2, hw, rH, Dv, z_, kS⟩ := KU (iK ix v) GH wr
      have aK := FL aB rH
      have nA := kS.out _ (iH w2)
      go_upto_region 26 with (fail)
      clear nA hw tQ tT
      have HT : Hid (dH w9 wr.heap.size (iK ix v) u24 (j + 1) (0 :: ixs (l1.take j)) u25 (j + 1) (0 :: b_ (l1.take j)) w2) := aa ⟨aK.out, z_.out, xy.out.kept (aD rH.out none) (dI _), xw.out.kept (aD rH.out none) (dI _), oN.out, fun e => by have := (xy.out.lt _ e).2; omega, fun e => by have := (xw.out.lt _ e).2; omega⟩
      have hS := aa (show ∀ (za : Value) (zi : Nat) (zl : List Int) (zb : Value) (zj : Nat) (zm : List Int) (zu : World), Hid (dH w9 (wr.heap.size) (iK ix v) za (zi) (zl) zb (zj) (zm) zu) → (zu.cell? ⟨wr.heap.size, 0, none⟩ = some (.int .i64 ix) ∧ zu.cell? ⟨wr.heap.size, 1, none⟩ = some (.int .i64 v)) from fun za zi zl zb zj zm zu h => ⟨ax h.out.x 0, ax h.out.x 1⟩)
      have Dr := aa (HT.out.below (Below.refl _ _).drew)
      refine di (S := fun w' => w'.cell? ⟨wr.heap.size, 0, none⟩ = some (.int .i64 ix) ∧ w'.cell? ⟨wr.heap.size, 1, none⟩ = some (.int .i64 v)) (E := []) (by kernel_rfl) (hS.out _ _ _ _ _ _ _ Dr) (fun hHeld => ?_)
      obtain ⟨wD, Gs⟩ : ∃ u, w2.drew = u := ⟨_, rfl⟩
      rw [Gs] at Dr hHeld ⊢
      clear Gs
      refine lG 0 ?_
      refine lG 1 ?_
      refine lG 2 ?_
      refine lG 5 ?_
      refine lG 6 ?_
      refine lG 7 ?_
      refine lI (fun T a0 hT ha0 => ?_)
      clear hHeld
      have iW : ∀ (g3 : Nat) (gX : Nat) (cX : Nat) (g8 : Nat) (gY : Nat) (cY : Nat) (uT : World), (Hid (dH w9 (wr.heap.size) (iK ix v) (.slice (some ⟨gX, 0, none⟩) (j + 1 + 1) cX) (j + 1 + 1) (0 :: ixs (l1.take j) ++ [ix]) (.slice (some ⟨gY, 0, none⟩) (j + 1 + 1) cY) (j + 1 + 1) (0 :: b_ (l1.take j) ++ [v]) uT)) → T 2 #[true, true, true, true, true, true, true, true, true, true, false, false] ((((a0.put (some 184) (.slice (some ⟨g3, 0, none⟩) 1 1)).put (some 185) (.slice (some ⟨gX, 0, none⟩) (j + 1 + 1) cX)).put (some 189) (.slice (some ⟨g8, 0, none⟩) 1 1)).put (some 190) (.slice (some ⟨gY, 0, none⟩) (j + 1 + 1) cY)) uT := by
       intro g3 gX cX g8 gY cY uT FT
       have hHeld := hS.out _ _ _ _ _ _ _ FT
       rw [hT, ha0]
       try simp only [qq]
       refine lG 10 ?_
       refine lG 11 ?_
       refine AA ?_
       clear hHeld hT ha0
       have Ju := aa FT.out.b
       have hox := FT.out.ox
       have hoy := FT.out.oy
       rw [List.cons_append, ← TX.out] at hox
       rw [List.cons_append, ← TY.out] at hoy
       have xx := aa hox
       have xu := aa hoy
       have DC := aa FT.out.nxy
       clear hox hoy FT
       go_wp2
       go_roundw
       case rel => exact ⟨j + 1, by omega, by go_num, xx, xu, DC, Ju⟩
       case measure => simp [intOf]; omega
      have iX : ∀ (g3 : Nat) (gX : Nat) (cX : Nat) (g8 : Nat) (uT : World), (Hid (dH w9 (wr.heap.size) (iK ix v) (.slice (some ⟨gX, 0, none⟩) (j + 1 + 1) cX) (j + 1 + 1) (0 :: ixs (l1.take j) ++ [ix]) u25 (j + 1) (0 :: b_ (l1.take j)) uT)) → (Hid (aN uT g8 (v) (.slice (some ⟨gX, 0, none⟩) (j + 1 + 1) cX) u25)) → T 3 #[true, true, true, true, true, true, true, true, true, false, false, false] (((a0.put (some 184) (.slice (some ⟨g3, 0, none⟩) 1 1)).put (some 185) (.slice (some ⟨gX, 0, none⟩) (j + 1 + 1) cX)).put (some 189) (.slice (some ⟨g8, 0, none⟩) 1 1)) uT := by
       intro g3 gX cX g8 uT FT F8
       have hHeld := hS.out _ _ _ _ _ _ _ FT
       rw [hT, ha0]
       try simp only [qq]
       refine mP 9 fun K hK => ?_
       refine step_append_lies _ (by rfl) _ _ _ (by rfl) w9.heap.size 3 i0 _ 1 8 Tryz.underlying30 hi hz0 hz1 hz2 rfl (by omega) u25 (j + 1) ((0 :: b_ (l1.take j)).map (Value.int .i64)) (by rfl) FT.out.oy ⟨g8, 0, none⟩ 1 1 [.int .i64 (v)] (by rfl) (by rfl) F8.out.news (ints_oneCell .i64 [v]) (by omega) (by unfold maxLen; omega) (by omega) FT.out.b.size uT.heap.size rfl ?_
       intro gY cY uN hown1 hgrow1 hgg hlt1
       have dA := aa (FT.out.appY hown1 hgrow1 hgg)
       refine hK.out _ _ ?_ (fun hHeld => ?_)
       · exact hS.out _ _ _ _ _ _ _ dA
       clear hK K hHeld
       try simp only [qq]
       have hG := iW g3 gX cX g8 gY cY uN dA
       rw [hT, ha0] at hG
       (try simp only [qq] at hG)
       exact hG
      have DU : ∀ (g3 : Nat) (gX : Nat) (cX : Nat) (uT : World), (Hid (dH w9 (wr.heap.size) (iK ix v) (.slice (some ⟨gX, 0, none⟩) (j + 1 + 1) cX) (j + 1 + 1) (0 :: ixs (l1.take j) ++ [ix]) u25 (j + 1) (0 :: b_ (l1.take j)) uT)) → T 4 #[true, true, true, true, true, true, true, true, false, false, false, false] ((a0.put (some 184) (.slice (some ⟨g3, 0, none⟩) 1 1)).put (some 185) (.slice (some ⟨gX, 0, none⟩) (j + 1 + 1) cX)) uT := by
       intro g3 gX cX uT FT
       have hHeld := hS.out _ _ _ _ _ _ _ FT
       rw [hT, ha0]
       try simp only [qq]
       refine mP 8 fun K hK => ?_
       go_simp
       have dA := aa (FT.out.below (af uT (.cells #[.int .i64 (v)] 3)))
       refine hK.out _ _ ?_ (fun hHeld => ?_)
       · exact hS.out _ _ _ _ _ _ _ dA
       clear hK K hHeld
       try simp only [qq]
       have hG := iX g3 gX cX (uT.heap.size) (uT.alloc (.cells #[.int .i64 (v)] 3)) dA (aa (aN.new FT.out (v)))
       rw [hT, ha0] at hG
       (try simp only [qq] at hG)
       exact hG
      have uQ : ∀ (g3 : Nat) (g8 : Nat) (uT : World), (Hid (dH w9 (wr.heap.size) (iK ix v) u24 (j + 1) (0 :: ixs (l1.take j)) u25 (j + 1) (0 :: b_ (l1.take j)) uT)) → (Hid (aN uT g3 (ix) u24 u25)) → (Hid (aN uT g8 (v) u24 u25)) → T 4 #[true, true, true, true, false, true, true, true, true, false, false, false] ((a0.put (some 184) (.slice (some ⟨g3, 0, none⟩) 1 1)).put (some 189) (.slice (some ⟨g8, 0, none⟩) 1 1)) uT := by
       intro g3 g8 uT FT F3 F8
       have hHeld := hS.out _ _ _ _ _ _ _ FT
       rw [hT, ha0]
       try simp only [qq]
       refine mP 4 fun K hK => ?_
       refine step_append_lies _ (by rfl) _ _ _ (by rfl) w9.heap.size 3 i0 _ 1 8 Tryz.underlying30 hi hz0 hz1 hz2 rfl (by omega) u24 (j + 1) ((0 :: ixs (l1.take j)).map (Value.int .i64)) (by rfl) FT.out.ox ⟨g3, 0, none⟩ 1 1 [.int .i64 (ix)] (by rfl) (by rfl) F3.out.news (ints_oneCell .i64 [ix]) (by omega) (by unfold maxLen; omega) (by omega) FT.out.b.size uT.heap.size rfl ?_
       intro gX cX uN hown1 hgrow1 hgg hlt1
       have dA := aa (FT.out.appX hown1 hgrow1 hgg)
       refine hK.out _ _ ?_ (fun hHeld => ?_)
       · exact hS.out _ _ _ _ _ _ _ dA
       clear hK K hHeld
       try simp only [qq]
       have hG := iX g3 gX cX g8 uN dA (aa (F8.out.appX hgrow1 hgg))
       rw [hT, ha0] at hG
       (try simp only [qq] at hG)
       exact hG
      have G3 : ∀ (g3 : Nat) (uT : World), (Hid (dH w9 (wr.heap.size) (iK ix v) u24 (j + 1) (0 :: ixs (l1.take j)) u25 (j + 1) (0 :: b_ (l1.take j)) uT)) → (Hid (aN uT g3 (ix) u24 u25)) → T 5 #[true, true, true, true, false, true, true, true, false, false, false, false] (a0.put (some 184) (.slice (some ⟨g3, 0, none⟩) 1 1)) uT := by
       intro g3 uT FT F3
       have hHeld := hS.out _ _ _ _ _ _ _ FT
       rw [hT, ha0]
       try simp only [qq]
       refine iY (i1 := 4) (i2 := 8) (by kernel_rfl) rfl rfl (fun K hK => ?_) (fun K hK => ?_)
       ·
        refine step_append_lies _ (by rfl) _ _ _ (by rfl) w9.heap.size 3 i0 _ 1 8 Tryz.underlying30 hi hz0 hz1 hz2 rfl (by omega) u24 (j + 1) ((0 :: ixs (l1.take j)).map (Value.int .i64)) (by rfl) FT.out.ox ⟨g3, 0, none⟩ 1 1 [.int .i64 (ix)] (by rfl) (by rfl) F3.out.news (ints_oneCell .i64 [ix]) (by omega) (by unfold maxLen; omega) (by omega) FT.out.b.size uT.heap.size rfl ?_
        intro gX cX uN hown1 hgrow1 hgg hlt1
        have dA := aa (FT.out.appX hown1 hgrow1 hgg)
        refine hK.out _ _ ?_ (fun hHeld => ?_)
        · exact hS.out _ _ _ _ _ _ _ dA
        clear hK K hHeld
        try simp only [qq]
        have hG := DU g3 gX cX uN dA
        rw [hT, ha0] at hG
        (try simp only [qq] at hG)
        exact hG
       ·
        go_simp
        have dA := aa (FT.out.below (af uT (.cells #[.int .i64 (v)] 3)))
        refine hK.out _ _ ?_ (fun hHeld => ?_)
        · exact hS.out _ _ _ _ _ _ _ dA
        clear hK K hHeld
        try simp only [qq]
        have hG := uQ g3 (uT.heap.size) (uT.alloc (.cells #[.int .i64 (v)] 3)) dA (aa (F3.out.below (af uT (.cells #[.int .i64 (v)] 3)))) (aa (aN.new FT.out (v)))
        rw [hT, ha0] at hG
        (try simp only [qq] at hG)
        exact hG
      have G8 : ∀ (g8 : Nat) (uT : World), (Hid (dH w9 (wr.heap.size) (iK ix v) u24 (j + 1) (0 :: ixs (l1.take j)) u25 (j + 1) (0 :: b_ (l1.take j)) uT)) → (Hid (aN uT g8 (v) u24 u25)) → T 5 #[true, true, true, false, false, true, true, true, true, false, false, false] (a0.put (some 189) (.slice (some ⟨g8, 0, none⟩) 1 1)) uT := by
       intro g8 uT FT F8
       have hHeld := hS.out _ _ _ _ _ _ _ FT
       rw [hT, ha0]
       try simp only [qq]
       refine mP 3 fun K hK => ?_
       go_simp
       have dA := aa (FT.out.below (af uT (.cells #[.int .i64 (ix)] 3)))
       refine hK.out _ _ ?_ (fun hHeld => ?_)
       · exact hS.out _ _ _ _ _ _ _ dA
       clear hK K hHeld
       try simp only [qq]
       have hG := uQ (uT.heap.size) g8 (uT.alloc (.cells #[.int .i64 (ix)] 3)) dA (aa (aN.new FT.out (ix))) (aa (F8.out.below (af uT (.cells #[.int .i64 (ix)] 3))))
       rw [hT, ha0] at hG
       (try simp only [qq] at hG)
       exact hG
      have G0 : ∀  (uT : World), (Hid (dH w9 (wr.heap.size) (iK ix v) u24 (j + 1) (0 :: ixs (l1.take j)) u25 (j + 1) (0 :: b_ (l1.take j)) uT)) → T 6 #[true, true, true, false, false, true, true, true, false, false, false, false] a0 uT := by
       intro  uT FT
       have hHeld := hS.out _ _ _ _ _ _ _ FT
       rw [hT, ha0]
       try simp only [qq]
       refine iY (i1 := 3) (i2 := 8) (by kernel_rfl) rfl rfl (fun K hK => ?_) (fun K hK => ?_)
       ·
        go_simp
        have dA := aa (FT.out.below (af uT (.cells #[.int .i64 (ix)] 3)))
        refine hK.out _ _ ?_ (fun hHeld => ?_)
        · exact hS.out _ _ _ _ _ _ _ dA
        clear hK K hHeld
        try simp only [qq]
        have hG := G3 (uT.heap.size) (uT.alloc (.cells #[.int .i64 (ix)] 3)) dA (aa (aN.new FT.out (ix)))
        rw [hT, ha0] at hG
        (try simp only [qq] at hG)
        exact hG
       ·
        go_simp
        have dA := aa (FT.out.below (af uT (.cells #[.int .i64 (v)] 3)))
        refine hK.out _ _ ?_ (fun hHeld => ?_)
        · exact hS.out _ _ _ _ _ _ _ dA
        clear hK K hHeld
        try simp only [qq]
        have hG := G8 (uT.heap.size) (uT.alloc (.cells #[.int .i64 (v)] 3)) dA (aa (aN.new FT.out (v)))
        rw [hT, ha0] at hG
        (try simp only [qq] at hG)
        exact hG
      exact G0 _ Dr
     ·
      obtain rfl : j = k - 1 := by omega
      have hox := xy.out
      have hoy := xw.out
      rw [List.take_of_length_le (by rw [Ea.out]; exact Nat.le_refl _), show k - 1 + 1 = k by omega] at hox hoy
      obtain ⟨gx, cx, R8, hcx, hgx, hrx⟩ := sU hox hm1
      obtain ⟨gy, cy, R7, hcy, Sn, NQ⟩ := sU hoy hm1
      subst R8
      subst R7
      have Oc : gx ≠ gy := fun e => oN.out gx rfl (by rw [e]; rfl)
      obtain ⟨RF, RD, RB⟩ := CF DF.out (eT jP.out) JD (show (nn : Int) < (q : Int) by omega)
      have M8 : Hid ((0 :: ixs l1).length = k) := aa (by rw [List.length_cons, List.length_map, Ea.out]; omega)
      have M7 : Hid (∀ z : Int, (z :: b_ l1).length = k) := aa (fun z => by rw [List.length_cons, List.length_map, Ea.out]; omega)
      have K5 : Hid ((0 :: ixs l1).all (bf q) = true) := aa RB
      have MM : Hid (bY (0 :: ixs l1)) := aa RD
      have QG : Hid (∀ i j, i < k → j < k → i ≠ j → Un q (cK (0 :: ixs l1) i - cK (0 :: ixs l1) j)) := aa (fun i j hi hj => RF i j (by rw [Ea.out]; omega) (by rw [Ea.out]; omega))
      have K4 : Hid (∀ z : Int, 0 ≤ z → z < (q : Int) → (z :: b_ l1).all (bf q) = true) := aa (fun z z0 z1 => by rw [List.all_cons, Eh DF.out (by omega), Bool.and_true]; simp [bf]; omega)
      have Dz : Hid (dR (q : Int) = true) := aa (eT jP.out)
      obtain ⟨xs, hxs⟩ : ∃ z, 0 :: ixs l1 = z := ⟨_, rfl⟩
      obtain ⟨ys, hys⟩ : ∃ z, b_ l1 = z := ⟨_, rfl⟩
      rw [hxs] at M8 K5 MM QG hrx
      rw [hys] at M7 K4 NQ
      have TN := aa hrx
      have TM : Hid (∃ z : Int, iA wr gy k (fun i => (z :: ys).getD i 0)) := aa ⟨0, NQ⟩
      have UF := aa aB.out
      clear hrx NQ hox hoy xy xw oN RF RD RB hxs hys
      have xA := aa (DJ.out.below aB.out)
      obtain ⟨g0, g1, g2⟩ := xA.out.gb
      go_wp2
      clear g0 g1 g2
      go_loopw [194] (fun i u => ∃ t : Nat, t ≤ q ∧ i = .int .i64 t ∧ Hid (iA u gx k (fun i => xs.getD i 0)) ∧ Hid (∃ z : Int, iA u gy k (fun i => (z :: ys).getD i 0)) ∧ Hid (Below w9.heap.size w9 u)) (fun i _ => q - (intOf i).toNat)
      case atStart => exact ⟨0, by omega, rfl, TN, TM, UF⟩
      case round =>
       obtain ⟨t, ht, rfl, QE, QB, xC⟩ := hrel
       by_cases Sg : t < q
       ·
        obtain ⟨z, hz⟩ := QB.out
        have hc0 := hz.1 0 (by omega)
        have hfz := hz.2 0
        dsimp only at hc0
        rw [List.getD_cons_zero] at hc0
        have yR : Hid (iA (wr.setCell ⟨gy, 0, none⟩ (.int .i64 (t : Int))) gx k (fun i => xs.getD i 0)) := aa (vz QE.out Oc)
        have JL : Hid (iA (wr.setCell ⟨gy, 0, none⟩ (.int .i64 (t : Int))) gy k (fun i => ((t : Int) :: ys).getD i 0)) := aa (vB (Bp hz (show 0 < k by omega) (t : Int)) (fun j hj => by
         cases j with
         | zero => rfl
         | succ j => rw [if_neg (by omega)]; rfl))
        have HB2 : Hid (Below w9.heap.size w9 (wr.setCell ⟨gy, 0, none⟩ (.int .i64 (t : Int)))) := aa (xC.out.setCell Sn _)
        clear hz
        go_upto_region 32 with (fail)
        obtain ⟨wp, hwp⟩ : ∃ u, wr.setCell ⟨gy, 0, none⟩ (.int .i64 (t : Int)) = u := ⟨_, rfl⟩
        rw [hwp] at yR JL HB2 ⊢
        clear hwp hc0 hfz QE QB xC
        have Pg := aa (DJ.out.below HB2.out)
        have GK : Hid (Sl wp (some ⟨gx, 0, none⟩) xs) := aa (fun i hi => ⟨gx, 0, rfl, by rw [Nat.zero_add]; exact yR.out.1 i (by rw [M8.out] at hi; exact hi)⟩)
        have F4 : Hid (Sl wp (some ⟨gy, 0, none⟩) ((t : Int) :: ys)) := aa (fun i hi => ⟨gy, 0, rfl, by rw [Nat.zero_add]; exact JL.out.1 i (by rw [M7.out] at hi; exact hi)⟩)
        obtain ⟨g0, g1, g2⟩ := Pg.out.gb
        go_wp2_with fail
        clear g0 g1 g2
        refine (x_ q (some ⟨gx, 0, none⟩) xs k cx (some ⟨gy, 0, none⟩) ((t : Int) :: ys) cy (by omega) Dz M8 (aa (M7.out _)) (by omega) hcx K5 (aa (K4.out _ (by omega) (by omega))) MM QG _ (aa (hV.out.below Pg.out.b)) GK F4).mono ?_
        intro e wq Sb
        obtain ⟨LA, LC, LL, rfl, Qq, Oq, Qr, hbq⟩ := Sb
        have M9 := aa Qq
        have Uf := aa Oq
        have ng := aa Qr
        have LW := aa (ag HB2.out hbq)
        have QF := aa (d_ yR.out (by omega) hbq)
        have QC := aa (d_ JL.out (by omega) hbq)
        obtain ⟨ll, hll⟩ : ∃ z, LL.length = z := ⟨_, rfl⟩
        have hlk : ll ≤ k := by rw [← hll]; exact Oq.len
        have uM := aa hll
        rw [hll]
        clear Qq Oq Qr hbq hll yR JL HB2 GK F4 Pg
        have d9 : decide (k < ll) = false := by simp; omega
        go_wp2
        clear d9
        go_loopw [218] (fun i u => ∃ x : Nat, x ≤ k ∧ i = .int .i64 x ∧ Hid (Below wq.heap.size wq u)) (fun i _ => k - (intOf i).toNat)
        case atStart => exact ⟨0, by omega, rfl, aa (Below.refl _ _)⟩
        case round =>
         obtain ⟨x, hx, rfl, Js⟩ := hrel
         have Re := aa (DJ.out.below (ag LW.out Js.out))
         by_cases Cn : x < k
         ·
          have IJ := (d_ QF.out (by omega) Js.out).1 x Cn
          dsimp only at IJ
          have hsx := bV K5.out (k := x) (by rw [M8.out]; exact Cn)
          have Nl : Hid (pv LL (xs.getD x 0) % (q : Int) = ((t : Int) :: ys).getD x 0) := aa (by
           have h1 := (yo ng.out Cn).eq
           have h2 := bV (K4.out (t : Int) (by omega) (by omega)) (k := x) (by rw [M7.out]; exact Cn)
           rw [show cK ((t : Int) :: ys) x = ((t : Int) :: ys).getD x 0 from rfl, Int.emod_eq_of_lt h2.1 h2.2] at h1
           exact h1)
          obtain ⟨X, hX⟩ : ∃ z, xs.getD x 0 = z := ⟨_, rfl⟩
          obtain ⟨Y, hY⟩ : ∃ z, ((t : Int) :: ys).getD x 0 = z := ⟨_, rfl⟩
          rw [hX] at IJ hsx Nl
          obtain ⟨X0, X1⟩ := hsx
          rw [hY] at Nl
          have QD := aa hY
          obtain ⟨g0, g1, g2⟩ := Re.out.gb
          clear hX hY
          go_wp2_with fail
          clear g0 g1 g2 IJ
          refine (nM q LA LL ll LC k X (by omega) Dz uM Uf (by omega) X0 X1 _ (aa (hV.out.below Re.out.b)) (aa (M9.out.below Js.out))).mono ?_
          rintro e wy ⟨rfl, hby⟩
          rw [Nl.out]
          have LP := aa (ag Js.out hby)
          have KF := (d_ QC.out (by omega) LP.out).1 x Cn
          dsimp only at KF
          rw [QD.out] at KF
          have dY : (Y != Y) = false := by simp
          clear Nl QD hby
          go_wp2
          go_roundw
          case rel => exact ⟨x + 1, by omega, by go_num, LP⟩
          case measure => simp [intOf]; omega
         ·
          obtain rfl : x = k := by omega
          have Tt := aa (d_ QF.out (by omega) Js.out)
          have Tp : Hid (∃ z : Int, iA wr gy x (fun i => (z :: ys).getD i 0)) := aa ⟨_, d_ QC.out (by omega) Js.out⟩
          have rV := aa (ag LW.out Js.out)
          go_wp2
          go_roundw
          case rel => exact ⟨t + 1, by omega, by go_num, Tt, Tp, rV⟩
          case measure => simp [intOf]; omega
       ·
        obtain rfl : t = q := by omega
        have fT := (DJ.out.below xC.out).b
        go_wp2
        go_ret
        exact ⟨rfl, fT⟩
theorem Ev (P Q G need many turn : Int) (h : List Int) (c : Int) (hl : Hid (h.length = 32)) (tZ : Hid (aA h = true)) (n0 : 0 ≤ need) (n1 : need < 256) (m0 : 0 ≤ many) (m1 : many < 256) (t0 : 0 ≤ turn) (t1 : turn < 256) (hQ : Q < 9223372036854775808) (w : World) (hv : Hid (Vars w)) (hd : Hid (dQ w)) :
  Calls Tryz.prog 3 #[gv P Q G, .int .u8 need, .int .u8 many, .agg (aJ h c), .int .u8 turn] w (Rt w (.bool true)) := by
 cases jP : ah P Q G with
 | false => exact tY P Q G need many turn h c hl hQ (.inl jP) w hv
 | true =>
  by_cases h1 : 113 < Q ∨ c < 0 ∨ 1073741824 < c
  · exact tY P Q G need many turn h c hl hQ (.inr ⟨jP, h1⟩) w hv
  ·
   obtain ⟨q, rfl⟩ := Int.eq_ofNat_of_zero_le (show 0 ≤ Q by have := (az jP).2.2.1; omega)
   obtain ⟨tn, rfl⟩ := Int.eq_ofNat_of_zero_le t0
   exact Cq P q G need many tn h c hl tZ (aa jP) (by omega) (by omega) (by omega) n0 n1 m0 m1 (by omega) w hv hd
end Go.Proofs.YticegghameafgaaGreatDoor