/- Contracts and lemmas: Poy, HdD, HdE, HdF, DeaB, DeaC, DeaD, Dea, EqA, TruJ, HdG, HdP. -/
import Derived.Maps.OwnSet
import Derived.Test.YticegghameafgaaGreatDoorTh4
set_option linter.unusedVariables false
set_option linter.unusedSimpArgs false
set_option maxRecDepth 100000
set_option maxHeartbeats 25600000
namespace Go.Proofs.YticegghameafgaaGreatDoor
open Go.RowKit jk Go.Maps
theorem GR (P Q G : Int) (m : Nat) (Cs : Option Addr) (cs : List Int) (cn cc : Nat) (Ks : Option Addr) (ks : List Int) (kn kc : Nat) (hcn : Hid (cs.length = cn)) (hkn : Hid (ks.length = kn)) (A : Option Addr) (l : List (Int × Int)) (n c : Nat) (hn : Hid (l.length = n)) (hnb : n ≤ 100) (hlr : Hid (∀ k, k < n → GJ (l.getD k (0, 0)))) (hr : Hid (Ah P Q G (m : Int) cs ks = true)) (hQ : Q < 9223372036854775808) (w : World) (hv : Hid (Vars w)) (hC : Hid (Sl w Cs cs)) (hK : Hid (Sl w Ks ks)) (hA : Hid (Sh w A l)) :
  Calls Tryz.prog 9 #[gv P Q G, o6 (m : Int) Cs cn cc Ks kn kc, .slice A n c] w (Rt w (.tuple #[.int .i64 (jA Q m kn l), .int .i64 (jB Q m kn l)])) := by
 obtain ⟨i0, hi, hz0, hz1, hz2⟩ := info_parts fD
 obtain ⟨eu, n1, n2, n3, n4, n5, n6⟩ := kD hr.out hcn.out hkn.out
 obtain ⟨w0, HW, bO, kC⟩ := st2 (aM P Q G) wM (r_ (m : Int) Cs cn cc Ks kn kc) Gi w
 have kV := mkV bO hv
 have oM := mkS bO hC
 have rP := mkS bO hK
 have kA := LD (fun u => Sh u A l) bO hA (·.below)
 have aN := kr w0
 clear hv hC hK hA
 go_in
 go_upto_region 1 with (fail)
 rw [HW.out]
 have zc := kC.out _ aN
 go_wp2_with fail
 clear zc
 refine oz kC aN (lV P Q G (m : Int) Cs cs cn cc Ks ks kn kc hcn hkn true hr hQ _ (kV.out _ aN) (oM.out _ aN) (rP.out _ aN)) fun w1 bW zc => ?_
 go_wp2
 clear zc
 go_loopw [30] (fun i wr => ∃ k : Nat, k ≤ n ∧ i = .int .i64 k ∧ Hid (l.all (fq Q kn) = (l.drop k).all (fq Q kn)) ∧ Hid (Below w0.heap.size w0 wr)) (fun i _ => n - (intOf i).toNat)
 case atStart => exact ⟨0, by omega, rfl, aa rfl, bW⟩
 case round =>
  obtain ⟨k, hk, rfl, HR, aB⟩ := hrel
  by_cases hlt : k < n
  ·
   have hkl : k < l.length := by rw [hn.out]; exact hlt
   obtain ⟨b, o, hA, y_, ze⟩ := (kA.out _ aB).out k hkl
   subst hA
   obtain ⟨px, hpx⟩ : ∃ x, l.getD k (0, 0) = x := ⟨_, rfl⟩
   obtain ⟨ix, v⟩ := px
   rw [hpx] at y_ ze
   dsimp only at y_ ze
   have bJ := kr wr
   have zc := kC.out _ aB
   obtain ⟨w2, hw, qb, CU, zY, kS⟩ := Jm (kg ix v) Dm wr
   have aL := Gh aB qb
   have bu := Gh bJ qb
   have bz := kr w2
   clear qb
   have Dz := kC.out _ aL
   have oD := kS.out _ bz
   cases hmb : iE kn ix with
   | false =>
    have HF : Hid (l.all (fq Q kn) = false) := aa (HR.out.trans (nU hkl (by rw [hpx]; simp [fq, hmb])))
    have ME := aa hmb
    clear hmb HR hpx
    go_wp2_with fail
    clear zc Dz oD hw y_ ze
    refine wC aL bu bz (dL (m : Int) Cs cn cc Ks kn kc ix false ME _) fun w3 ek fH cu => ?_
    have zc := kC.out _ ek
    have rR := kS.out _ cu
    have eP := ag bO.out ek.out
    go_wp2
    go_ret2
    obtain ⟨e1, e2⟩ := xK (m := m) HF.out
    exact ⟨by rw [e1, e2]; rfl, eP⟩
   | true =>
    have ME := aa hmb
    cases hsc : aQ Q v with
    | false =>
     have HF : Hid (l.all (fq Q kn) = false) := aa (HR.out.trans (nU hkl (by rw [hpx]; simp [fq, hsc])))
     have Jq := aa hsc
     clear hmb hsc HR hpx
     go_wp2_with fail
     clear zc Dz oD hw y_ ze
     refine wC aL bu bz (dL (m : Int) Cs cn cc Ks kn kc ix true ME _) fun w3 ek fH cu => ?_
     have zc := kC.out _ ek
     have rR := kS.out _ cu
     go_wp2_with fail
     clear zc rR
     refine wC ek fH cu (gm P Q G v false Jq _) fun w4 Di FK rH => ?_
     have zc := kC.out _ Di
     have rR := kS.out _ rH
     have eP := ag bO.out Di.out
     go_wp2
     go_ret2
     obtain ⟨e1, e2⟩ := xK (m := m) HF.out
     exact ⟨by rw [e1, e2]; rfl, eP⟩
    | true =>
     have HS : Hid (l.all (fq Q kn) = (l.drop (k + 1)).all (fq Q kn)) := aa (HR.out.trans (p9 hkl (by rw [hpx]; simp [fq, hsc, hmb])))
     have Jq := aa hsc
     clear hmb hsc HR hpx
     go_wp2_with fail
     clear zc Dz oD hw y_ ze
     refine wC aL bu bz (dL (m : Int) Cs cn cc Ks kn kc ix true ME _) fun w3 ek fH cu => ?_
     have zc := kC.out _ ek
     have rR := kS.out _ cu
     go_wp2_with fail
     clear zc rR
     refine wC ek fH cu (gm P Q G v true Jq _) fun w4 Di FK rH => ?_
     have zc := kC.out _ Di
     have rR := kS.out _ rH
     go_wp2
     go_roundw
     case rel => exact ⟨k + 1, by omega, by go_num, HS, Di⟩
     case measure => simp [intOf]; omega
  ·
   have hke : n = k := by omega
   subst hke
   have ig : Hid (l.all (fq Q kn) = true) := aa (by rw [HR.out, ← hn.out, List.drop_length]; rfl)
   clear HR
   have hmm := fun t w => run_makeMap (P := Tryz.prog) t w
   have JA := aa (BA wr)
   have Pk := af wr (.map #[] 0)
   obtain ⟨mb, EJ⟩ : ∃ B, wr.heap.size = B := ⟨_, rfl⟩
   obtain ⟨W, Ie⟩ : ∃ W, wr.alloc (.map #[] 0) = W := ⟨_, rfl⟩
   have Np : w0.heap.size ≤ mb := by rw [← EJ]; exact aB.out.size
   have uG : Hid (Below w0.heap.size w0 W) := aa (by rw [← Ie]; exact ag aB.out Pk)
   rw [EJ, Ie] at JA
   have Lc := aa EJ
   have PU := aa Ie
   clear EJ Ie Pk
   have zc := kC.out _ aB
   go_wp2
   rw [PU.out, Lc.out]
   clear zc
   go_loopw [11, 12, 50] (fun vx vy i wr => ∃ k kk : Nat, k ≤ n ∧ i = .int .i64 k ∧ Hid ((pts l k).length = kk) ∧ Hid (fI l k = true) ∧ Hid (wr.ownsRow w0.heap.size 3 1 vx kk ((ixs (pts l k)).map (Value.int .i64))) ∧ Hid (wr.ownsRow w0.heap.size 3 1 vy kk ((dA (pts l k)).map (Value.int .i64))) ∧ Hid (∀ j, vx.ownBlock = some j → vy.ownBlock ≠ some j) ∧ Hid (vx.ownBlock ≠ some mb) ∧ Hid (vy.ownBlock ≠ some mb) ∧ Hid (yA (pts l k) wr mb kk) ∧ Hid (Below w0.heap.size w0 wr)) (fun _ _ i _ => n - (intOf i).toNat)
   case atStart => exact ⟨0, 0, by omega, rfl, aa rfl, aa rfl, aa (World.ownsRow_nil _ _ _ _), aa (World.ownsRow_nil _ _ _ _), aa (fun j h => by cases h), aa (fun h => by cases h), aa (fun h => by cases h), JA, uG⟩
   case round =>
    clear JA uG Lc PU hmm aB
    obtain ⟨k, kk, hk, rfl, HKK, MK, Dt, Dr, wY, Fz, MC, Ot, aB⟩ := hrel
    have hkk : kk ≤ k := by rw [← HKK.out]; exact xJ l k
    by_cases hlt : k < n
    ·
     have hkl : k < l.length := by rw [hn.out]; exact hlt
     obtain ⟨b, o, hA, y_, ze⟩ := (kA.out _ aB).out k hkl
     subst hA
     obtain ⟨px, hpx⟩ : ∃ x, l.getD k (0, 0) = x := ⟨_, rfl⟩
     obtain ⟨ix, v⟩ := px
     rw [hpx] at y_ ze
     dsimp only at y_ ze
     have bJ := kr wr
     have zc := kC.out _ aB
     obtain ⟨w2, hw, qb, CU, zY, kS⟩ := Jm (kg ix v) Dm wr
     have aL := Gh aB qb
     have bu := Gh bJ qb
     have bz := kr w2
     clear qb
     have Dz := kC.out _ aL
     have oD := kS.out _ bz
     have hpm : (ix, v) ∈ l := by rw [← hpx, List.getD_eq_getElem?_getD, List.getElem?_eq_getElem hkl]; exact List.getElem_mem _
     obtain ⟨hmb, hsc⟩ := p8 ig.out hpm
     obtain ⟨q1, q2, q3, q4⟩ := aD eu.out
     have v0 := kE hsc
     have v1 := kF hsc
     obtain ⟨r1, r2⟩ := hlr.out k hlt
     rw [hpx] at r1 r2
     dsimp only at r1 r2
     have wf1 : (Lit.int .i64 ix).wf = true := WalkArith.wf_i64 (by omega)
     have QM : (Lit.int .i64 v).wf = true := WalkArith.wf_i64 (by omega)
     have hkey : keyOf Tryz.prog 3 (.int .i64 ix) = some (.int .i64 ix) := keyOf_int_mk Tryz.underlying3 wf1
     have Nk := Ot.out.lt
     have Ou : Hid (yA (pts l k) w2 mb kk) := aa (Ot.out.blk (bu.out.block mb Nk))
     obtain ⟨D, hown, BZ⟩ := Ou.out
     have MS := aa BZ
     have RZ := aa (hown.tidy tF)
     obtain ⟨hA1, hA2⟩ := BZ ix
     clear BZ
     have hsh : bM l k = (ix, v) := hpx
     cases zT : valOf (pts l k) ix with
     | some z =>
      have hh : has D (.int .i64 ix) = true := by rw [hA1, zT]; rfl
      have hat := hA2 z zT
      have Jt : Hid (pts l (k + 1) = pts l k) := aa (by rw [pts, hsh]; dsimp only; rw [zT])
      by_cases hzv : z = v
      ·
       have I5 : Hid (fI l (k + 1) = true) := aa (by rw [fI, MK.out, hsh]; dsimp only; rw [zT]; simp [hzv])
       have CZ : Hid (w2.ownsRow w0.heap.size 3 1 u11 kk ((ixs (pts l (k + 1))).map (Value.int .i64))) := aa (by rw [Jt.out]; exact Dt.out.kept (aA bu.out none) (dW _))
       have CY : Hid (w2.ownsRow w0.heap.size 3 1 u12 kk ((dA (pts l (k + 1))).map (Value.int .i64))) := aa (by rw [Jt.out]; exact Dr.out.kept (aA bu.out none) (dW _))
       have SH : Hid (yA (pts l (k + 1)) w2 mb kk) := aa (by rw [Jt.out]; exact Ou.out)
       have S9 : Hid ((pts l (k + 1)).length = kk) := aa (by rw [Jt.out]; exact HKK.out)
       have hza : D.atKey (.int .i64 ix) (.lit (.int .i64 0)) = .lit (.int .i64 v) := by rw [hat, hzv]
       have dz : ((v : Int) != v) = false := by simp
       clear hat zT hA1 hA2 hpm hpx hsh hzv
       go_wp2_with (at_lookup; refine wpList_lookup_own_ok_int _ rfl _ _ 66 rfl 3 3 .i64 tF Tryz.underlying66 Tryz.underlying3 (zZ _) mb kk D rfl hown _ _ rfl hkey ?_; intro c vI hwc; rw [hh]; have hcv : c = v := tu (vI.symm.trans hza); clear vI hwc)
       go_roundw
       case rel => exact ⟨k + 1, kk, by omega, by go_num, S9, I5, CZ, CY, wY, Fz, MC, SH, aL⟩
       case measure => simp [intOf]; omega
      ·
       have hF1 : fI l (k + 1) = false := by rw [fI, MK.out, hsh]; dsimp only; rw [zT]; simp [hzv]
       have ML : Hid (fI l l.length = false) := aa (by rw [hn.out]; exact pQ hF1 n (by omega))
       have dz : ((z : Int) != v) = true := by simpa using hzv
       have eP := ag bO.out aL.out
       clear hF1 zT hA1 hA2 hpm hpx hsh hzv
       go_wp2_with (at_lookup; refine wpList_lookup_own_ok_int _ rfl _ _ 66 rfl 3 3 .i64 tF Tryz.underlying66 Tryz.underlying3 (zZ _) mb kk D rfl hown _ _ rfl hkey ?_; intro c vI hwc; rw [hh]; have hcv : c = z := tu (vI.symm.trans hat); clear vI hwc)
       go_ret2
       obtain ⟨e1, e2⟩ := yX (m := m) ig.out ML.out
       exact ⟨by rw [e1, e2]; rfl, eP⟩
     | none =>
      have hh : has D (.int .i64 ix) = false := by rw [hA1, zT]; rfl
      have Mw : Hid (pts l (k + 1) = pts l k ++ [(ix, v)]) := aa (by rw [pts, hsh]; dsimp only; rw [zT])
      have Tg : Hid (fI l (k + 1) = true) := aa (by rw [fI, MK.out, hsh]; dsimp only; rw [zT]; rfl)
      have ic : Hid ((pts l (k + 1)).length = kk + 1) := aa (by rw [Mw.out, List.length_append, HKK.out]; rfl)
      have RQ := aa zT
      clear zT hA1 hA2 hpm hpx hsh
      go_upto_region 19 with (first | (at_lookup; refine wpList_lookup_own_ok_int _ rfl _ _ 66 rfl 3 3 .i64 tF Tryz.underlying66 Tryz.underlying3 (zZ _) mb kk D rfl hown _ _ rfl hkey ?_; intro c vI hwc; rw [hh]; clear vI hwc) | (at_mapUpdate; refine wpList_mapUpdate_own _ rfl _ _ _ 66 rfl 3 3 tF Tryz.underlying66 _ mb kk _ rfl hown (by unfold maxLen; omega) _ _ _ rfl rfl hkey _ [] (plainElem_int Tryz.underlying3 QM) ?_; intro DI hown1 hgrow1))
      clear zc Dz oD hw
      have FC : Hid (yA (pts l k ++ [(ix, v)]) DI mb (kk + 1)) := aa (Ez RZ.out RQ.out hown1 MS.out)
      obtain ⟨mo, hmo⟩ := FC.out.obj
      have SG := aa hmo
      have Q5 : mb < w2.heap.size := Ou.out.lt
      have FO : Hid (Below w0.heap.size w0 DI) := aa (aL.out.grown hgrow1 aL.out.size (fun j hj => by cases hj; exact Np))
      have HT : Hid (dH w0 wr.heap.size (kg ix v) mb mo u11 kk (ixs (pts l k)) u12 kk (dA (pts l k)) DI) := aa (by
       have h1 : w2.ownsRow w0.heap.size 3 1 u11 kk ((ixs (pts l k)).map (Value.int .i64)) := Dt.out.kept (aA bu.out none) (dW _)
       have h2 : w2.ownsRow w0.heap.size 3 1 u12 kk ((dA (pts l k)).map (Value.int .i64)) := Dr.out.kept (aA bu.out none) (dW _)
       have h3 : DI.ownsRow w0.heap.size 3 1 u11 kk ((ixs (pts l k)).map (Value.int .i64)) := h1.kept hgrow1 (.inr Fz.out)
       have h4 : DI.ownsRow w0.heap.size 3 1 u12 kk ((dA (pts l k)).map (Value.int .i64)) := h2.kept hgrow1 (.inr MC.out)
       exact ⟨⟨FO.out, (hgrow1.block wr.heap.size (by have := CU.out; omega) (fun e => by injection e with e; omega)).trans zY.out, h3, h4, wY.out, fun e => by have := (Dt.out.lt _ e).2; omega, fun e => by have := (Dr.out.lt _ e).2; omega⟩,
        ⟨FO.out, hmo, h3, h4, wY.out, Fz.out, MC.out⟩⟩)
      clear hmo hown hown1 hgrow1 hh
      have hS := aa (show ∀ (za : Value) (zi : Nat) (zl : List Int) (zb : Value) (zj : Nat) (zm : List Int) (zu : World), Hid (dH w0 (wr.heap.size) (kg ix v) mb mo za (zi) (zl) zb (zj) (zm) zu) → (zu.cell? ⟨w.heap.size, 0, none⟩ = some (.int .i64 P) ∧ zu.cell? ⟨w.heap.size, 1, none⟩ = some (.int .i64 Q) ∧ zu.cell? ⟨w.heap.size, 2, none⟩ = some (.int .i64 G) ∧ zu.cell? ⟨w.heap.size + 1, 0, none⟩ = some (.int .i64 (m : Int)) ∧ zu.cell? ⟨w.heap.size + 1, 1, none⟩ = some (.slice Cs cn cc) ∧ zu.cell? ⟨w.heap.size + 1, 2, none⟩ = some (.slice Ks kn kc) ∧ zu.cell? ⟨wr.heap.size, 0, none⟩ = some (.int .i64 ix) ∧ zu.cell? ⟨wr.heap.size, 1, none⟩ = some (.int .i64 v)) from fun za zi zl zb zj zm zu h => by
       obtain ⟨y0, y1, y2, y3, y4, y5⟩ := kC.out _ (aa h.out.b)
       exact ⟨y0, y1, y2, y3, y4, y5, ai h.out.x 0, ai h.out.x 1⟩)
      have IE := aa (HT.out.below (Below.refl _ _).drew)
      refine dR (S := fun w' => w'.cell? ⟨w.heap.size, 0, none⟩ = some (.int .i64 P) ∧ w'.cell? ⟨w.heap.size, 1, none⟩ = some (.int .i64 Q) ∧ w'.cell? ⟨w.heap.size, 2, none⟩ = some (.int .i64 G) ∧ w'.cell? ⟨w.heap.size + 1, 0, none⟩ = some (.int .i64 (m : Int)) ∧ w'.cell? ⟨w.heap.size + 1, 1, none⟩ = some (.slice Cs cn cc) ∧ w'.cell? ⟨w.heap.size + 1, 2, none⟩ = some (.slice Ks kn kc) ∧ w'.cell? ⟨wr.heap.size, 0, none⟩ = some (.int .i64 ix) ∧ w'.cell? ⟨wr.heap.size, 1, none⟩ = some (.int .i64 v)) (E := []) (by kernel_rfl) (hS.out _ _ _ _ _ _ _ IE) (fun hHeld => ?_)
      obtain ⟨wD, Kb⟩ : ∃ u, DI.drew = u := ⟨_, rfl⟩
      rw [Kb] at IE hHeld ⊢
      clear Kb
      refine o7 0 ?_
      refine o7 1 ?_
      refine o7 2 ?_
      refine o7 5 ?_
      refine o7 6 ?_
      refine o7 7 ?_
      refine oV (fun T a0 hT ha0 => ?_)
      clear hHeld
      have oh : ∀ (g3 : Nat) (gX : Nat) (cX : Nat) (g8 : Nat) (gY : Nat) (cY : Nat) (uT : World), (Hid (dH w0 (wr.heap.size) (kg ix v) mb mo (.slice (some ⟨gX, 0, none⟩) (kk + 1) cX) (kk + 1) (ixs (pts l k) ++ [ix]) (.slice (some ⟨gY, 0, none⟩) (kk + 1) cY) (kk + 1) (dA (pts l k) ++ [v]) uT)) → T 2 #[true, true, true, true, true, true, true, true, true, true, false, false] ((((a0.put (some 74) (.slice (some ⟨g3, 0, none⟩) 1 1)).put (some 75) (.slice (some ⟨gX, 0, none⟩) (kk + 1) cX)).put (some 79) (.slice (some ⟨g8, 0, none⟩) 1 1)).put (some 80) (.slice (some ⟨gY, 0, none⟩) (kk + 1) cY)) uT := by
       intro g3 gX cX g8 gY cY uT FT
       have hHeld := hS.out _ _ _ _ _ _ _ FT
       rw [hT, ha0]
       try simp only [qq]
       refine o7 10 ?_
       refine o7 11 ?_
       refine Aj ?_
       clear hHeld hT ha0
       have Lr := aa FT.out.b
       have hox := FT.out.ox
       have hoy := FT.out.oy
       rw [show (ixs (pts l k) ++ [ix]) = ixs (pts l (k + 1)) by rw [Mw.out]; simp] at hox
       rw [show (dA (pts l k) ++ [v]) = dA (pts l (k + 1)) by rw [Mw.out]; simp] at hoy
       have CZ := aa hox
       have CY := aa hoy
       have IP := aa FT.out.nxy
       have SF : Hid (yA (pts l (k + 1)) uT mb (kk + 1)) := aa (by rw [Mw.out]; exact FC.out.blk (FT.out.c.x.trans SG.out.symm))
       have Oo := aa FT.out.c.nx
       have Sz := aa FT.out.c.ny
       clear hox hoy FT
       have zc := kC.out _ Lr
       go_wp2
       go_roundw
       case rel => exact ⟨k + 1, kk + 1, by omega, by go_num, ic, Tg, CZ, CY, IP, Oo, Sz, SF, Lr⟩
       case measure => simp [intOf]; omega
      have om : ∀ (g3 : Nat) (gX : Nat) (cX : Nat) (g8 : Nat) (uT : World), (Hid (dH w0 (wr.heap.size) (kg ix v) mb mo (.slice (some ⟨gX, 0, none⟩) (kk + 1) cX) (kk + 1) (ixs (pts l k) ++ [ix]) u12 (kk) (dA (pts l k)) uT)) → (Hid (aR uT g8 (v) (.slice (some ⟨gX, 0, none⟩) (kk + 1) cX) u12)) → T 3 #[true, true, true, true, true, true, true, true, true, false, false, false] (((a0.put (some 74) (.slice (some ⟨g3, 0, none⟩) 1 1)).put (some 75) (.slice (some ⟨gX, 0, none⟩) (kk + 1) cX)).put (some 79) (.slice (some ⟨g8, 0, none⟩) 1 1)) uT := by
       intro g3 gX cX g8 uT FT F8
       have hHeld := hS.out _ _ _ _ _ _ _ FT
       rw [hT, ha0]
       try simp only [qq]
       refine mK 9 fun K hK => ?_
       refine step_append_lies _ (by rfl) _ _ _ (by rfl) w0.heap.size 3 i0 _ 1 8 Tryz.underlying30 hi hz0 hz1 hz2 rfl (by omega) u12 (kk) ((dA (pts l k)).map (Value.int .i64)) (by rfl) FT.out.oy ⟨g8, 0, none⟩ 1 1 [.int .i64 (v)] (by rfl) (by rfl) F8.out.news (ints_oneCell .i64 [v]) (by omega) (by unfold maxLen; omega) (by omega) FT.out.b.size uT.heap.size rfl ?_
       intro gY cY uN hown1 hgrow1 hgg hlt1
       have fo := aa (FT.out.appY hown1 hgrow1 hgg)
       refine hK.out _ _ ?_ (fun hHeld => ?_)
       · exact hS.out _ _ _ _ _ _ _ fo
       clear hK K hHeld
       try simp only [qq]
       have hG := oh g3 gX cX g8 gY cY uN fo
       rw [hT, ha0] at hG
       (try simp only [qq] at hG)
       exact hG
      have I7 : ∀ (g3 : Nat) (gX : Nat) (cX : Nat) (uT : World), (Hid (dH w0 (wr.heap.size) (kg ix v) mb mo (.slice (some ⟨gX, 0, none⟩) (kk + 1) cX) (kk + 1) (ixs (pts l k) ++ [ix]) u12 (kk) (dA (pts l k)) uT)) → T 4 #[true, true, true, true, true, true, true, true, false, false, false, false] ((a0.put (some 74) (.slice (some ⟨g3, 0, none⟩) 1 1)).put (some 75) (.slice (some ⟨gX, 0, none⟩) (kk + 1) cX)) uT := by
       intro g3 gX cX uT FT
       have hHeld := hS.out _ _ _ _ _ _ _ FT
       rw [hT, ha0]
       try simp only [qq]
       refine mK 8 fun K hK => ?_
       go_simp
       have fo := aa (FT.out.below (af uT (.cells #[.int .i64 (v)] 3)))
       refine hK.out _ _ ?_ (fun hHeld => ?_)
       · exact hS.out _ _ _ _ _ _ _ fo
       clear hK K hHeld
       try simp only [qq]
       have hG := om g3 gX cX (uT.heap.size) (uT.alloc (.cells #[.int .i64 (v)] 3)) fo (aa (aR.newB FT.out (v)))
       rw [hT, ha0] at hG
       (try simp only [qq] at hG)
       exact hG
      have Dj : ∀ (g3 : Nat) (g8 : Nat) (uT : World), (Hid (dH w0 (wr.heap.size) (kg ix v) mb mo u11 (kk) (ixs (pts l k)) u12 (kk) (dA (pts l k)) uT)) → (Hid (aR uT g3 (ix) u11 u12)) → (Hid (aR uT g8 (v) u11 u12)) → T 4 #[true, true, true, true, false, true, true, true, true, false, false, false] ((a0.put (some 74) (.slice (some ⟨g3, 0, none⟩) 1 1)).put (some 79) (.slice (some ⟨g8, 0, none⟩) 1 1)) uT := by
       intro g3 g8 uT FT F3 F8
       have hHeld := hS.out _ _ _ _ _ _ _ FT
       rw [hT, ha0]
       try simp only [qq]
       refine mK 4 fun K hK => ?_
       refine step_append_lies _ (by rfl) _ _ _ (by rfl) w0.heap.size 3 i0 _ 1 8 Tryz.underlying30 hi hz0 hz1 hz2 rfl (by omega) u11 (kk) ((ixs (pts l k)).map (Value.int .i64)) (by rfl) FT.out.ox ⟨g3, 0, none⟩ 1 1 [.int .i64 (ix)] (by rfl) (by rfl) F3.out.news (ints_oneCell .i64 [ix]) (by omega) (by unfold maxLen; omega) (by omega) FT.out.b.size uT.heap.size rfl ?_
       intro gX cX uN hown1 hgrow1 hgg hlt1
       have fo := aa (FT.out.appX hown1 hgrow1 hgg)
       refine hK.out _ _ ?_ (fun hHeld => ?_)
       · exact hS.out _ _ _ _ _ _ _ fo
       clear hK K hHeld
       try simp only [qq]
       have hG := om g3 gX cX g8 uN fo (aa (F8.out.appX hgrow1 hgg))
       rw [hT, ha0] at hG
       (try simp only [qq] at hG)
       exact hG
      have G3 : ∀ (g3 : Nat) (uT : World), (Hid (dH w0 (wr.heap.size) (kg ix v) mb mo u11 (kk) (ixs (pts l k)) u12 (kk) (dA (pts l k)) uT)) → (Hid (aR uT g3 (ix) u11 u12)) → T 5 #[true, true, true, true, false, true, true, true, false, false, false, false] (a0.put (some 74) (.slice (some ⟨g3, 0, none⟩) 1 1)) uT := by
       intro g3 uT FT F3
       have hHeld := hS.out _ _ _ _ _ _ _ FT
       rw [hT, ha0]
       try simp only [qq]
       refine lT (i1 := 4) (i2 := 8) (by kernel_rfl) rfl rfl (fun K hK => ?_) (fun K hK => ?_)
       ·
        refine step_append_lies _ (by rfl) _ _ _ (by rfl) w0.heap.size 3 i0 _ 1 8 Tryz.underlying30 hi hz0 hz1 hz2 rfl (by omega) u11 (kk) ((ixs (pts l k)).map (Value.int .i64)) (by rfl) FT.out.ox ⟨g3, 0, none⟩ 1 1 [.int .i64 (ix)] (by rfl) (by rfl) F3.out.news (ints_oneCell .i64 [ix]) (by omega) (by unfold maxLen; omega) (by omega) FT.out.b.size uT.heap.size rfl ?_
        intro gX cX uN hown1 hgrow1 hgg hlt1
        have fo := aa (FT.out.appX hown1 hgrow1 hgg)
        refine hK.out _ _ ?_ (fun hHeld => ?_)
        · exact hS.out _ _ _ _ _ _ _ fo
        clear hK K hHeld
        try simp only [qq]
        have hG := I7 g3 gX cX uN fo
        rw [hT, ha0] at hG
        (try simp only [qq] at hG)
        exact hG
       ·
        go_simp
        have fo := aa (FT.out.below (af uT (.cells #[.int .i64 (v)] 3)))
        refine hK.out _ _ ?_ (fun hHeld => ?_)
        · exact hS.out _ _ _ _ _ _ _ fo
        clear hK K hHeld
        try simp only [qq]
        have hG := Dj g3 (uT.heap.size) (uT.alloc (.cells #[.int .i64 (v)] 3)) fo (aa (F3.out.below (af uT (.cells #[.int .i64 (v)] 3)))) (aa (aR.newB FT.out (v)))
        rw [hT, ha0] at hG
        (try simp only [qq] at hG)
        exact hG
      have G8 : ∀ (g8 : Nat) (uT : World), (Hid (dH w0 (wr.heap.size) (kg ix v) mb mo u11 (kk) (ixs (pts l k)) u12 (kk) (dA (pts l k)) uT)) → (Hid (aR uT g8 (v) u11 u12)) → T 5 #[true, true, true, false, false, true, true, true, true, false, false, false] (a0.put (some 79) (.slice (some ⟨g8, 0, none⟩) 1 1)) uT := by
       intro g8 uT FT F8
       have hHeld := hS.out _ _ _ _ _ _ _ FT
       rw [hT, ha0]
       try simp only [qq]
       refine mK 3 fun K hK => ?_
       go_simp
       have fo := aa (FT.out.below (af uT (.cells #[.int .i64 (ix)] 3)))
       refine hK.out _ _ ?_ (fun hHeld => ?_)
       · exact hS.out _ _ _ _ _ _ _ fo
       clear hK K hHeld
       try simp only [qq]
       have hG := Dj (uT.heap.size) g8 (uT.alloc (.cells #[.int .i64 (ix)] 3)) fo (aa (aR.newB FT.out (ix))) (aa (F8.out.below (af uT (.cells #[.int .i64 (ix)] 3))))
       rw [hT, ha0] at hG
       (try simp only [qq] at hG)
       exact hG
      have G0 : ∀  (uT : World), (Hid (dH w0 (wr.heap.size) (kg ix v) mb mo u11 (kk) (ixs (pts l k)) u12 (kk) (dA (pts l k)) uT)) → T 6 #[true, true, true, false, false, true, true, true, false, false, false, false] a0 uT := by
       intro  uT FT
       have hHeld := hS.out _ _ _ _ _ _ _ FT
       rw [hT, ha0]
       try simp only [qq]
       refine lT (i1 := 3) (i2 := 8) (by kernel_rfl) rfl rfl (fun K hK => ?_) (fun K hK => ?_)
       ·
        go_simp
        have fo := aa (FT.out.below (af uT (.cells #[.int .i64 (ix)] 3)))
        refine hK.out _ _ ?_ (fun hHeld => ?_)
        · exact hS.out _ _ _ _ _ _ _ fo
        clear hK K hHeld
        try simp only [qq]
        have hG := G3 (uT.heap.size) (uT.alloc (.cells #[.int .i64 (ix)] 3)) fo (aa (aR.newB FT.out (ix)))
        rw [hT, ha0] at hG
        (try simp only [qq] at hG)
        exact hG
       ·
        go_simp
        have fo := aa (FT.out.below (af uT (.cells #[.int .i64 (v)] 3)))
        refine hK.out _ _ ?_ (fun hHeld => ?_)
        · exact hS.out _ _ _ _ _ _ _ fo
        clear hK K hHeld
        try simp only [qq]
        have hG := G8 (uT.heap.size) (uT.alloc (.cells #[.int .i64 (v)] 3)) fo (aa (aR.newB FT.out (v)))
        rw [hT, ha0] at hG
        (try simp only [qq] at hG)
        exact hG
      exact G0 _ IE
    ·
     have hke : n = k := by omega
     subst hke
     have hln : l.length = n := hn.out
     have FH : Hid ((ixs (pts l n)).length = kk) := aa (by rw [List.length_map]; exact HKK.out)
     have KP : Hid ((dA (pts l n)).length = kk) := aa (by rw [List.length_map]; exact HKK.out)
     obtain ⟨AX, cX, M_, sX, Rf⟩ := jE Dt.out FH.out
     obtain ⟨AY, cY, M9, sY, Re⟩ := jE Dr.out KP.out
     subst M_
     subst M9
     have KU := aa sX
     have Jp := aa sY
     have Jw : Hid (bI (ixs (pts l n))) := aa (He l n)
     have Oj : Hid (∀ j, j < kk → iE kn ((ixs (pts l n)).getD j 0) = true ∧ aQ Q ((dA (pts l n)).getD j 0) = true) := aa (fun j hj => by
      have h9 := Eo ig.out n (by rw [hln]; exact Nat.le_refl _) j (by rw [HKK.out]; exact hj)
      rw [bZ (by rw [HKK.out]; exact hj), lU (by rw [HKK.out]; exact hj)]
      exact h9)
     have rF : Hid (fI l l.length = true) := aa (by rw [hln]; exact MK.out)
     have IX : Hid ((pts l l.length).length = kk) := aa (by rw [hln]; exact HKK.out)
     obtain ⟨q1, q2, q3, q4⟩ := aD eu.out
     clear sX sY Dt Dr wY Fz MC Ot hln
     have bJ := kr wr
     have kX := FV (w := wr) (fun u => Sl u AX (ixs (pts l n))) KU.out (·.below)
     have kY := FV (w := wr) (fun u => Sl u AY (dA (pts l n))) Jp.out (·.below)
     have zc := kC.out _ aB
     obtain ⟨T, hT⟩ : ∃ T, (2305843009213693951 : Int) / Q = T := ⟨_, rfl⟩
     have hT0 : 0 ≤ T := by rw [← hT]; exact Int.ediv_nonneg (by omega) (by omega)
     have hT1 : T ≤ 2305843009213693951 := by rw [← hT]; exact Int.ediv_le_self _ (by omega)
     have Uh : (2305843009213693951 : Int).tdiv Q = T := by rw [Int.tdiv_eq_ediv_of_nonneg (by omega)]; exact hT
     have Ug : IntKind.i64.wrap T = T := IntWalk.i64_in _ (by omega)
     have Rk : wrap64 T = T := IntWalk.wrap64_in _ (by omega)
     have hQn : ¬ (Q = 0) := by omega
     have Jg : ((Q : Int) == 0) = false := by simp; omega
     go_wp2
     go_loopw [17, 87] (fun a i wz => ∃ (j : Nat) (Em : Int), j ≤ m - kk ∧ i = .int .i64 j ∧ a = .int .i64 Em ∧ Hid (qx Q j = some Em) ∧ wz = wr) (fun _ i _ => m - kk - (intOf i).toNat)
     case atStart => exact ⟨0, 1, by omega, rfl, rfl, aa rfl, rfl⟩
     case round =>
      obtain ⟨j, Em, hj, rfl, rfl, CX, rfl⟩ := hrel
      obtain ⟨p0, p1⟩ := iW (by omega) j Em CX.out
      by_cases hjm : j < m - kk
      ·
       have dj : decide ((j : Int) < (m : Int) - (kk : Int)) = true := by simp; omega
       by_cases hbg : T < Em
       ·
        have db : decide (T < Em) = true := by simp; omega
        have Jy : Hid (qx Q (m - kk) = none) := aa (sJ (k := j + 1) (by rw [qx, CX.out]; dsimp only; rw [if_pos (by rw [hT]; exact hbg)]) _ (by omega))
        have eP := ag bO.out aB.out
        go_wp2
        go_ret2
        obtain ⟨e1, e2⟩ := Er (m := m) ig.out rF.out (by rw [IX.out]; omega) (by rw [IX.out]; exact Jy.out)
        exact ⟨by rw [e1, e2]; rfl, eP⟩
       ·
        have db : decide (T < Em) = false := by simp; omega
        have h8 : qx Q (j + 1) = some (Em * Q) := by rw [qx, CX.out]; dsimp only; rw [if_neg (by rw [hT]; exact hbg)]
        have K9 := aa h8
        obtain ⟨p2, p3⟩ := iW (by omega) (j + 1) _ h8
        obtain ⟨pn, hpn⟩ : ∃ x, Em * Q = x := ⟨_, rfl⟩
        rw [hpn] at K9 p2 p3
        have e1 : IntKind.i64.wrap pn = pn := IntWalk.i64_in _ (by omega)
        have e2 : wrap64 pn = pn := IntWalk.wrap64_in _ (by omega)
        clear h8
        go_wp2
        go_roundw
        case rel => exact ⟨j + 1, pn, by omega, by go_num, rfl, K9, by first | rfl | trivial⟩
        case measure => simp [intOf]; omega
      ·
       obtain rfl : j = m - kk := by omega
       have dj : decide ((((m - kk : Nat) : Nat) : Int) < (m : Int) - (kk : Int)) = false := by simp; omega
       obtain ⟨jj, hjj⟩ : ∃ x, m - kk = x := ⟨_, rfl⟩
       rw [hjj] at dj CX ⊢
       by_cases hle : kk ≤ m
       ·
        have dl : decide ((kk : Int) ≤ (m : Int)) = true := by simp; omega
        have eP := ag bO.out aB.out
        have Ta := aa hjj
        clear hjj
        go_wp2
        go_ret2
        obtain ⟨e1, e2⟩ := Ep (m := m) ig.out rF.out (by rw [IX.out]; omega) (by rw [IX.out, Ta.out]; exact CX.out)
        exact ⟨by rw [e1, e2]; rfl, eP⟩
       ·
        have dl : decide ((kk : Int) ≤ (m : Int)) = false := by simp; omega
        have hml : m < (pts l l.length).length := by rw [IX.out]; omega
        have Gq : Hid (dB Q = true) := aa (bX eu.out)
        have Mm : Hid (((ixs (pts l n)).take m).length = m) := aa (by rw [List.length_take, FH.out]; omega)
        have NT : Hid (((dA (pts l n)).take m).length = m) := aa (by rw [List.length_take, KP.out]; omega)
        have MJ : Hid (∀ j, j < m → ((ixs (pts l n)).take m).getD j 0 = (ixs (pts l n)).getD j 0) := aa (fun j hj => by rw [List.getD_eq_getElem?_getD, List.getElem?_take_of_lt hj, ← List.getD_eq_getElem?_getD])
        have Ql : Hid (∀ j, j < m → ((dA (pts l n)).take m).getD j 0 = (dA (pts l n)).getD j 0) := aa (fun j hj => by rw [List.getD_eq_getElem?_getD, List.getElem?_take_of_lt hj, ← List.getD_eq_getElem?_getD])
        have MI : Hid (∀ j, j < kk → 1 ≤ (ixs (pts l n)).getD j 0 ∧ (ixs (pts l n)).getD j 0 ≤ 8 ∧ (ixs (pts l n)).getD j 0 < Q) := aa (fun j hj => by
         obtain ⟨h1, _⟩ := Oj.out j hj
         obtain ⟨mm, h3, h4⟩ := nC h1
         rw [h4]
         omega)
        have RI : Hid (((ixs (pts l n)).take m).all (aQ Q) = true) := aa (by
         rw [List.all_eq_true]
         intro x hx
         obtain ⟨j, hj, rfl⟩ := List.getElem_of_mem hx
         rw [Mm.out] at hj
         have h9 := MI.out j (by omega)
         rw [← MJ.out j hj, List.getD_eq_getElem?_getD, List.getElem?_eq_getElem (by rw [Mm.out]; exact hj)] at h9
         obtain ⟨g1, _, g3⟩ := h9
         change 1 ≤ _ at g1
         have g4 : ∀ z : Int, 1 ≤ z → z < Q → aQ Q z = true := fun z z1 z2 => by simp [aQ]; omega
         exact g4 _ g1 g3)
        have RF : Hid (((dA (pts l n)).take m).all (aQ Q) = true) := aa (by
         rw [List.all_eq_true]
         intro x hx
         obtain ⟨j, hj, rfl⟩ := List.getElem_of_mem hx
         rw [NT.out] at hj
         have h9 := (Oj.out j (by omega)).2
         rw [← Ql.out j hj, List.getD_eq_getElem?_getD, List.getElem?_eq_getElem (by rw [NT.out]; exact hj)] at h9
         exact h9)
        have RH : Hid (bI ((ixs (pts l n)).take m)) := aa (jJ Jw.out)
        have PW : Hid (∀ i j, i < m → j < m → i ≠ j → Un Q (bV ((ixs (pts l n)).take m) i - bV ((ixs (pts l n)).take m) j)) := aa (fun i j hi hj hij => by
         show Un Q (((ixs (pts l n)).take m).getD i 0 - ((ixs (pts l n)).take m).getD j 0)
         rw [MJ.out i hi, MJ.out j hj]
         obtain ⟨a1, a2, a3⟩ := MI.out i (by omega)
         obtain ⟨b1, b2, b3⟩ := MI.out j (by omega)
         refine qg Gq.out a1 a2 a3 (by omega) b2 b3 (fun e => ?_)
         rcases Nat.lt_or_gt_of_ne hij with h | h
         · exact Jw.out j i (by rw [FH.out]; omega) h e.symm
         · exact Jw.out i j (by rw [FH.out]; omega) h e)
        have Q6 : m ≤ cX := by omega
        have Uc : m ≤ cY := by omega
        have M7 := aa (show ∀ u : World, Hid (Below wr.heap.size wr u) → Hid (Sl u AX ((ixs (pts l n)).take m)) from fun u h => aa ((iw (KU.out.below h.out) m)))
        have QX := aa (show ∀ u : World, Hid (Below wr.heap.size wr u) → Hid (Sl u AY ((dA (pts l n)).take m)) from fun u h => aa ((iw (Jp.out.below h.out) m)))
        have Kk : m ≤ 100 := by omega
        clear hjj
        go_upto_region 30 with (fail)
        clear zc
        have hO := aa (fun (u : World) (h : Hid (Below w0.heap.size w0 u ∧ Below wr.heap.size wr u)) => kC.out u (aa h.out.1))
        refine Jd (fun u => Below w0.heap.size w0 u ∧ Below wr.heap.size wr u) [] (bb2 (aa ⟨aB.out, bJ.out⟩) ((Below.refl _ _).drew)) (fun hHeld => ?_)
        refine gJ 0 1 2 3 ?_
        refine gJ 4 5 6 7 ?_
        refine lC 8 ?_
        refine lC 9 ?_
        refine mK 10 fun K hK => ?_
        go_simp
        refine (Es Q AX ((ixs (pts l n)).take m) m cX AY ((dA (pts l n)).take m) cY (by omega) Gq Mm NT Kk Q6 RI RF RH PW _ (kV.out _ (aa hHeld.out.1)) (M7.out _ (aa hHeld.out.2)) (QX.out _ (aa hHeld.out.2))).mono ?_
        rintro e wA ⟨AL, cL, L, rfl, hsL, Pb, Pf, qP⟩
        have rE := aa hsL
        have IL := aa Pb
        have Qa := aa Pf
        clear hsL Pb Pf
        refine hK.out _ _ (bb2 hHeld qP) (fun hHeld => ?_)
        clear hK K
        try simp only [qq]
        obtain ⟨lL, H7⟩ : ∃ x, L.length = x := ⟨_, rfl⟩
        have Ox := aa H7
        rw [H7]
        clear H7
        refine gJ 11 12 13 14 ?_
        refine lC 15 ?_
        refine Aj ?_
        clear hO
        have C8 := (aa hHeld.out.1)
        have Ld := (aa hHeld.out.2)
        clear hHeld
        have QA := kr wA
        have kL := FV (w := wA) (fun u => Sl u AL L) rE.out (·.below)
        have zc := kC.out _ C8
        go_wp2
        clear zc
        go_loopw [124] (fun i wz => ∃ j : Nat, j ≤ kk ∧ i = .int .i64 j ∧ Hid (kZ Q (pts l n) m j = true) ∧ Hid (Below wA.heap.size wA wz)) (fun i _ => kk - (intOf i).toNat)
        case atStart => exact ⟨0, by omega, rfl, aa rfl, aa (Below.refl _ _)⟩
        case round =>
         obtain ⟨j, hj, rfl, QE, ku⟩ := hrel
         have lJ := aa (ag C8.out ku.out)
         have yC := aa (ag Ld.out ku.out)
         by_cases qO : j < kk
         ·
          obtain ⟨b1, o1, hA1, i1⟩ := (kX.out _ yC).out j (by rw [FH.out]; exact qO)
          obtain ⟨b2, o2, hA2, i2⟩ := (kY.out _ yC).out j (by rw [KP.out]; exact qO)
          subst hA1
          subst hA2
          obtain ⟨x0, x8, x1⟩ := MI.out j qO
          have hsc := (Oj.out j qO).2
          have Jk : j < m → pv L ((ixs (pts l n)).getD j 0) % Q = (dA (pts l n)).getD j 0 := fun hjm => by
           have h9 := (Ey Qa.out hjm).eq
           rw [show bV ((ixs (pts l n)).take m) j = (ixs (pts l n)).getD j 0 from MJ.out j hjm, show bV ((dA (pts l n)).take m) j = (dA (pts l n)).getD j 0 from Ql.out j hjm] at h9
           rw [h9]
           exact Int.emod_eq_of_lt (kE hsc) (kF hsc)
          have Ie : pv L ((ixs (pts l n)).getD j 0) % Q = smT Q ((ixs (pts l n)).getD j 0) ((ixs (pts l n)).take m) (dA (pts l n)) m := by
           rw [jG (by omega) Mm.out Qa.out PW.out, sw Q _ _ _ m m (Nat.le_refl _)]
          have vJ : kZ Q (pts l n) m (j + 1) = (decide (j < m) || pv L ((ixs (pts l n)).getD j 0) % Q == (dA (pts l n)).getD j 0) := by
           rw [kZ, QE.out, Bool.true_and, Ie]
          obtain ⟨x, hx⟩ : ∃ x, (ixs (pts l n)).getD j 0 = x := ⟨_, rfl⟩
          obtain ⟨y, hy⟩ : ∃ x, (dA (pts l n)).getD j 0 = x := ⟨_, rfl⟩
          rw [hx] at i1 x0 x1 x8 Jk vJ
          rw [hy] at i2 Jk vJ
          obtain ⟨E, hE⟩ : ∃ z, pv L x % Q = z := ⟨_, rfl⟩
          rw [hE] at Jk vJ
          have HE := aa hE
          clear Ie hx hy hE hsc
          have zc := kC.out _ lJ
          go_wp2_with fail
          refine (sO Q AL L lL cL m x (by omega) Gq Ox IL (by omega) (by omega) x1 _ (kV.out _ lJ) (kL.out _ ku)).mono ?_
          rintro e w9 ⟨rfl, zU⟩
          rw [HE.out]
          have FN := aa (ag ku.out zU)
          have i3 := cell_below i2 zU
          clear zU i1 i2 zc
          by_cases Ij : E = y
          ·
           have dE : ((E : Int) != y) = false := by simp [Ij]
           have OZ : Hid (kZ Q (pts l n) m (j + 1) = true) := aa (by rw [vJ, Ij]; simp)
           clear Jk vJ Ij
           go_wp2
           go_roundw
           case rel => exact ⟨j + 1, by omega, by go_num, OZ, FN⟩
           case measure => simp [intOf]; omega
          ·
           have dE : ((E : Int) != y) = true := by simpa using Ij
           have MM : Hid (kZ Q (pts l n) m kk = false) := aa (p_ (k := j + 1) (by
            rw [vJ]
            have h1 : decide (j < m) = false := by simp; exact Nat.le_of_not_lt (fun h => Ij (Jk h))
            have h2 : (E == y) = false := by simpa using Ij
            rw [h1, h2]; rfl) kk (by omega))
           have eP := ag bO.out (ag C8.out FN.out)
           clear Jk vJ Ij
           go_wp2
           go_ret2
           obtain ⟨e1, e2⟩ := xL (m := m) ig.out rF.out hml false (by rw [IX.out, hn.out]; exact MM.out)
           exact ⟨by rw [e1, e2]; rfl, eP⟩
         ·
          obtain rfl : j = kk := by omega
          have eP := ag bO.out lJ.out
          have zc := kC.out _ lJ
          go_wp2
          go_ret2
          obtain ⟨e1, e2⟩ := xL (m := m) ig.out rF.out hml true (by rw [IX.out, hn.out]; exact QE.out)
          exact ⟨by rw [e1, e2]; rfl, eP⟩
end Go.Proofs.YticegghameafgaaGreatDoor
namespace Go.Proofs.YticegghameafgaaGreatDoor
open Go.RowKit jk
def dD (ou : Nat → Bool) (l : List (Int × Int)) : Nat → List (Int × Int)
 | 0 => []
 | k + 1 => dD ou l k ++ (if ou k = true then [bM l k] else [])
theorem mP (ou : Nat → Bool) (l : List (Int × Int)) : ∀ k, (dD ou l k).length ≤ k
 | 0 => Nat.le_refl _
 | k + 1 => by
  have := mP ou l k
  rw [dD, List.length_append]
  by_cases h : ou k = true
  · rw [if_pos h]; simp; omega
  · rw [if_neg h]; simp; omega
theorem qw (ou : Nat → Bool) (Q : Int) (f : List Int) (nn : Nat) : ∀ k, k ≤ nn → (∀ i, i < (dD ou (ko Q f nn) k).length → 1 ≤ (bM (dD ou (ko Q f nn) k) i).1 ∧ (bM (dD ou (ko Q f nn) k) i).1 ≤ k ∧ (bM (dD ou (ko Q f nn) k) i).2 = pv f (bM (dD ou (ko Q f nn) k) i).1 % Q) ∧ ∀ i j, i < (dD ou (ko Q f nn) k).length → j < i → (bM (dD ou (ko Q f nn) k) i).1 ≠ (bM (dD ou (ko Q f nn) k) j).1
 | 0, _ => ⟨fun i hi => absurd hi (by simp [dD]), fun i j hi => absurd hi (by simp [dD])⟩
 | k + 1, hk => by
  obtain ⟨h1, h2⟩ := qw ou Q f nn k (by omega)
  rw [dD]
  by_cases h : ou k = true
  ·
   rw [if_pos h, show bM (ko Q f nn) k = ((k : Int) + 1, xZ Q f k) from EW Q f (by omega)]
   generalize dD ou (ko Q f nn) k = L at h1 h2 ⊢
   have hr : ∀ i, i < (L ++ [((k : Int) + 1, xZ Q f k)]).length → (i < L.length ∧ bM (L ++ [((k : Int) + 1, xZ Q f k)]) i = bM L i) ∨ (i = L.length ∧ bM (L ++ [((k : Int) + 1, xZ Q f k)]) i = ((k : Int) + 1, xZ Q f k)) := fun i hi => by
    rw [List.length_append, List.length_singleton] at hi
    by_cases e : i < L.length
    · exact .inl ⟨e, iA e⟩
    ·
     obtain rfl : i = L.length := by omega
     exact .inr ⟨rfl, pg⟩
   refine ⟨fun i hi => ?_, fun i j hi hj => ?_⟩
   ·
    rcases hr i hi with ⟨e, e2⟩ | ⟨e, e2⟩
    ·
     rw [e2]
     obtain ⟨a, b, c⟩ := h1 i e
     exact ⟨a, by omega, c⟩
    ·
     rw [e2]
     exact ⟨by show (1 : Int) ≤ k + 1; omega, by show (k : Int) + 1 ≤ ((k + 1 : Nat) : Int); omega, rfl⟩
   ·
    rcases hr i hi with ⟨e, e2⟩ | ⟨e, e2⟩
    ·
     rcases hr j (by omega) with ⟨g, g2⟩ | ⟨g, g2⟩
     · rw [e2, g2]; exact h2 i j e hj
     · omega
    ·
     rcases hr j (by omega) with ⟨g, g2⟩ | ⟨g, g2⟩
     ·
      rw [e2, g2]
      have h3 := (h1 j g).2.1
      show (k : Int) + 1 ≠ _
      omega
     · omega
  ·
   rw [if_neg h, List.append_nil]
   exact ⟨fun i hi => by obtain ⟨a, b, c⟩ := h1 i hi; exact ⟨a, by omega, c⟩, h2⟩
theorem D8 (ou : Nat → Bool) (Q : Int) (f : List Int) (nn : Nat) : qa Q f nn (dD ou (ko Q f nn) nn) := ⟨(qw ou Q f nn nn (Nat.le_refl _)).1, (qw ou Q f nn nn (Nat.le_refl _)).2⟩
def gK (b : Int) (k : Nat) : Bool := bits BinOp.and IntKind.u8 (b / 2 ^ k) 1 == 1
theorem wE (A : Option Addr) (l : List (Int × Int)) (n c : Nat) (hn : Hid (l.length = n)) (hbig : n ≤ 8) (bs : Int) (b0 : 0 ≤ bs) (b1 : bs < 256) (w : World) (hS : Hid (Sh w A l)) :
  Calls Tryz.prog 15 #[.slice A n c, .int .u8 bs] w (fun e w' => ∃ B cb, e = .returned (.slice B (dD (gK bs) l n).length cb) ∧ Sh w' B (dD (gK bs) l n) ∧ Below w.heap.size w w') := by
 obtain ⟨i1, hi1, hy0, hy1, hy2⟩ := info_parts BN
 have q1 : ∀ k : Nat, k < 8 → (k : Int).tmod 8 = k := fun k hk => by rw [Int.tmod_eq_emod_of_nonneg (by omega)]; omega
 go_in
 go_wp2
 go_loopw [5, 10] (fun v i u => ∃ k : Nat, k ≤ n ∧ i = .int .i64 k ∧ Hid (u.ownsRow w.heap.size 39 2 v (dD (gK bs) l k).length (uI (dD (gK bs) l k))) ∧ Hid (Below w.heap.size w u)) (fun _ i _ => n - (intOf i).toNat)
 case atStart => exact ⟨0, by omega, rfl, aa (World.ownsRow_nil _ _ _ _), aa (Below.refl _ _)⟩
 case round =>
  obtain ⟨k, hk, rfl, HO, aB⟩ := hrel
  by_cases hlt : k < n
  ·
   obtain ⟨b, o, hA, h1, h2⟩ := (hS.out.below aB.out) k (by rw [hn.out]; exact hlt)
   subst hA
   have rE : Hid (dD (gK bs) l (k + 1) = dD (gK bs) l k ++ (if gK bs k = true then [bM l k] else [])) := aa rfl
   obtain ⟨px, hpx⟩ : ∃ x, l.getD k (0, 0) = x := ⟨_, rfl⟩
   obtain ⟨ix, vx⟩ := px
   rw [show bM l k = (ix, vx) from hpx] at rE
   rw [hpx] at h1 h2
   dsimp only at h1 h2
   have qk := q1 k (by omega)
   have rF := aa (mP (gK bs) l k)
   obtain ⟨L, hL⟩ : ∃ L, dD (gK bs) l k = L := ⟨_, rfl⟩
   rw [hL] at HO rE rF
   obtain ⟨ln, hln⟩ : ∃ x, L.length = x := ⟨_, rfl⟩
   rw [hln] at HO rF
   have Q8 : ln ≤ 8 := by have := rF.out; omega
   obtain ⟨w2, hw, qb, CU, zY, kS⟩ := Jm (kg ix vx) Dm wr
   have oD := kS.out _ (kr w2)
   have ic := aa hln
   clear hpx hL hln
   cases hsel : gK bs k with
   | false =>
    have d1 : (bits BinOp.and IntKind.u8 (bs / 2 ^ k) 1 == 1) = false := hsel
    have zI : Hid (w2.ownsRow w.heap.size 39 2 u5 (dD (gK bs) l (k + 1)).length (uI (dD (gK bs) l (k + 1)))) := aa (by
     rw [rE.out, hsel, if_neg (by decide), List.append_nil, ic.out]
     exact own_below HO.out qb.out)
    have HB2 := aa (ag aB.out qb.out)
    clear hsel rE HO aB
    go_wp2
    go_roundw
    case rel => exact ⟨k + 1, by omega, by go_num, zI, HB2⟩
    case measure => simp [intOf]; omega
   | true =>
    have d1 : (bits BinOp.and IntKind.u8 (bs / 2 ^ k) 1 == 1) = true := hsel
    have zI := aa (own_below HO.out qb.out)
    have HB2 := aa (ag aB.out qb.out)
    have hsz := HB2.out.size
    have Sb := aa hsel
    clear hsel HO aB
    go_wp2_with (at_builtin; refine _root_.Go.wpList_append_lies _ rfl _ _ 33 rfl w.heap.size 39 i1 (.agg #[.int .i64 0, .int .i64 0]) 2 16 Tryz.underlying33 hi1 hy0 hy1 hy2 rfl (by decide) _ _ _ rfl (zI.out.alloc _) ⟨w2.heap.size, 0, none⟩ 1 1 [.int .i64 ix, .int .i64 vx] rfl rfl (World.news_of_block (cs := #[.int .i64 ix, .int .i64 vx]) (t := 39) (fr := (0, 0)) (heap_alloc_new w2 _)) (by simp [Value.oneCell']) (by decide) (by unfold maxLen; omega) (by omega) (by simp; omega) (w2.heap.size + 1) (by simp) ?_; intro gs cs w9 tK jc EN H6)
    have Sy : Hid (w9.ownsRow w.heap.size 39 2 (.slice (some ⟨gs, 0, none⟩) (ln + 1) cs) (dD (gK bs) l (k + 1)).length (uI (dD (gK bs) l (k + 1)))) := aa (by
     rw [rE.out, Sb.out, if_pos rfl, List.length_append, ic.out, xB]
     exact tK)
    have FN : Hid (Below w.heap.size w w9) := aa ((HB2.out.alloc (by omega) (.cells #[.int .i64 ix, .int .i64 vx] 39)).grown jc (by simp; omega) (fun j hj => (World.ownsRow.lt zI.out j hj).1))
    clear tK jc EN H6
    go_roundw
    case rel => exact ⟨k + 1, by omega, by go_num, Sy, FN⟩
    case measure => simp [intOf]; omega
  ·
   obtain rfl : k = n := by omega
   obtain ⟨B, cB, hvs, ND, hSS, hSb⟩ := mV HO.out
   subst hvs
   have II := aa hSS
   clear hSS hSb ND HO hlt
   obtain ⟨ln, hln⟩ : ∃ x, (dD (gK bs) l k).length = x := ⟨_, rfl⟩
   rw [hln]
   have ic := aa hln
   clear hln
   go_wp2
   go_ret
   exact ⟨B, cB, by rw [ic.out]; rfl, II.out, aB.out⟩
def aP (q : Nat) : Nat → Nat → List Int
 | 0, _ => []
 | m + 1, t => ((t % q : Nat) : Int) :: aP q m (t / q)
theorem eG (q : Nat) : ∀ m t, (aP q m t).length = m
 | 0, _ => rfl
 | m + 1, t => by rw [aP, List.length_cons, eG q m]
theorem nO {q : Nat} (hq : 0 < q) : ∀ m t, (aP q m t).all (aQ (q : Int)) = true
 | 0, _ => rfl
 | m + 1, t => by
  rw [aP, List.all_cons, nO hq m, Bool.and_true]
  have := Nat.mod_lt t hq
  simp only [aQ, Bool.and_eq_true, decide_eq_true_eq]
  omega
def sQ (q : Nat) : List Int → Nat
 | [] => 0
 | d :: L => d.toNat + q * sQ q L
theorem vB {q : Nat} (hq : 0 < q) : ∀ L : List Int, L.all (aQ (q : Int)) = true → sQ q L < q ^ L.length
 | [], _ => by simp [sQ]
 | d :: L, h => by
  simp only [List.all_cons, Bool.and_eq_true] at h
  have h1 := vB hq L h.2
  have h2 : d.toNat < q := by have := h.1; simp [aQ] at this; omega
  rw [sQ, List.length_cons, Nat.pow_succ]
  have h3 : q * (sQ q L + 1) ≤ q * q ^ L.length := Nat.mul_le_mul_left q h1
  rw [Nat.mul_add, Nat.mul_one] at h3
  rw [Nat.mul_comm (q ^ L.length)]
  omega
theorem qW {q : Nat} (hq : 0 < q) : ∀ L : List Int, L.all (aQ (q : Int)) = true → aP q L.length (sQ q L) = L
 | [], _ => rfl
 | d :: L, h => by
  simp only [List.all_cons, Bool.and_eq_true] at h
  have hd := h.1
  simp [aQ] at hd
  have h2 : d.toNat < q := by omega
  rw [List.length_cons, aP, sQ, Nat.add_mul_mod_self_left, Nat.mod_eq_of_lt h2, Nat.add_mul_div_left _ _ hq, Nat.div_eq_of_lt h2, Nat.zero_add, qW hq L h.2]
  rw [Int.toNat_of_nonneg hd.1]
theorem gu {q : Nat} (hq : 0 < q) : ∀ m t, t < q ^ m → sQ q (aP q m t) = t
 | 0, t, h => by simp at h; rw [h]; rfl
 | m + 1, t, h => by
  rw [Nat.pow_succ] at h
  rw [aP, sQ, gu hq m (t / q) (Nat.div_lt_of_lt_mul (by rw [Nat.mul_comm]; exact h)), Int.toNat_natCast]
  exact Nat.mod_add_div t q
theorem pV {q : Nat} (hq : 0 < q) (k hi : Nat) : ∀ j lo, lo < q ^ j → aP q (j + k) (lo + q ^ j * hi) = aP q j lo ++ aP q k hi
 | 0, lo, h => by
  simp at h
  subst h
  rw [Nat.zero_add, Nat.pow_zero, Nat.one_mul, Nat.zero_add]; rfl
 | j + 1, lo, h => by
  rw [Nat.pow_succ] at h
  have e1 : lo + q ^ (j + 1) * hi = lo + q * (q ^ j * hi) := by rw [Nat.pow_succ, Nat.mul_comm (q ^ j) q, Nat.mul_assoc]
  rw [e1, Nat.add_right_comm j 1 k, aP, Nat.add_mul_mod_self_left, Nat.add_mul_div_left _ _ hq, pV hq k hi j (lo / q) (Nat.div_lt_of_lt_mul (by rw [Nat.mul_comm]; exact h)), aP]
  rfl
theorem Bl (X : Int) : ∀ f g : List Int, pv (f ++ g) X = pv f X + X ^ f.length * pv g X
 | [], g => by simp [pv]
 | a :: f, g => by
  rw [List.cons_append, pv, Bl X f g, pv, List.length_cons, Int.pow_succ]
  grind
def cnt (p : Nat → Bool) : Nat → Nat
 | 0 => 0
 | t + 1 => cnt p t + (if p t = true then 1 else 0)
theorem yl (p : Nat → Bool) (a : Nat) : ∀ b, cnt p (a + b) = cnt p a + cnt (fun s => p (a + s)) b
 | 0 => rfl
 | b + 1 => by rw [← Nat.add_assoc, cnt, yl p a b, cnt]; omega
theorem um {p : Nat → Bool} : ∀ N, (∀ s, s < N → p s = false) → cnt p N = 0
 | 0, _ => rfl
 | N + 1, h => by rw [cnt, um N fun s hs => h s (by omega), h N (by omega)]; rfl
theorem qY {p : Nat → Bool} {s0 : Nat} (h0 : p s0 = true) : ∀ N, s0 < N → (∀ s, s < N → p s = true → s = s0) → cnt p N = 1
 | 0, h, _ => absurd h (by omega)
 | N + 1, h, hu => by
  rw [cnt]
  by_cases e : s0 = N
  ·
   subst e
   rw [h0, um s0 fun s hs => by
    cases hp : p s with
    | false => rfl
    | true => exact absurd (hu s (by omega) hp) (by omega)]
   rfl
  · rw [qY h0 N (by omega) fun s hs => hu s (by omega), if_neg fun e2 => e (hu N (by omega) e2).symm]
theorem nQ {p : Nat → Bool} {B : Nat} : ∀ A, (∀ a, a < A → cnt (fun s => p (B * a + s)) B = 1) → cnt p (B * A) = A
 | 0, _ => rfl
 | A + 1, h => by rw [Nat.mul_succ, yl, nQ A fun a ha => h a (by omega), h A (by omega)]
def dY (Q : Int) (l : List (Int × Int)) (f : List Int) : Bool := l.all fun s => pv f s.1 % Q == s.2
theorem kQ {Q : Int} {l : List (Int × Int)} {f : List Int} : dY Q l f = true ↔ ∀ i, i < l.length → pv f (bM l i).1 % Q = (bM l i).2 := by
 unfold dY
 rw [List.all_eq_true]
 constructor
 ·
  intro h i hi
  have h1 := h l[i] (List.getElem_mem hi)
  rw [bM, List.getD_eq_getElem?_getD, List.getElem?_eq_getElem hi]
  simpa using h1
 ·
  intro h s hs
  obtain ⟨i, hi, rfl⟩ := List.getElem_of_mem hs
  have h1 := h i hi
  rw [bM, List.getD_eq_getElem?_getD, List.getElem?_eq_getElem hi] at h1
  simpa using h1
def uJ (Q : Int) (j : Nat) (L : List Int) : List Int := (List.range j).map fun i => L.getD i 0 % Q
theorem l8 (Q : Int) (j : Nat) (L : List Int) : (uJ Q j L).length = j := by simp [uJ]
theorem GU {Q : Int} (hQ : 1 ≤ Q) (j : Nat) (L : List Int) : (uJ Q j L).all (aQ Q) = true := by
 rw [List.all_eq_true]
 intro x hx
 obtain ⟨i, _, rfl⟩ := List.mem_map.1 hx
 exact lX hQ
theorem qE (Q X : Int) : ∀ (j : Nat) (L : List Int), L.length ≤ j → Cg Q (pv (uJ Q j L) X) (pv L X)
 | 0, L, h => by
  have e : L = [] := List.eq_nil_of_length_eq_zero (by omega)
  subst e
  exact Cg.refl _ _
 | j + 1, [], _ => by
  have h1 := qE Q X j [] (Nat.zero_le _)
  have e : uJ Q (j + 1) [] = 0 :: uJ Q j [] := by
   simp [uJ, List.range_succ_eq_map, Function.comp_def]
  rw [e, pv]
  exact ((Cg.refl Q 0).add ((Cg.refl Q X).mul h1)).trans (Cg.of_eq (by simp [pv]))
 | j + 1, c :: t, h => by
  have h1 := qE Q X j t (by simpa using h)
  have e : uJ Q (j + 1) (c :: t) = c % Q :: uJ Q j t := by
   simp [uJ, List.range_succ_eq_map, Function.comp_def]
  rw [e, pv, pv]
  exact (Cg.mod _ _).add ((Cg.refl Q X).mul h1)
theorem uY : ∀ f : List Int, pv f 0 = f.getD 0 0
 | [] => rfl
 | c :: t => by rw [pv, Int.zero_mul, Int.add_zero]; rfl
def fT (q : Nat) (l : List (Int × Int)) (m c s : Nat) : Bool := dY (q : Int) l (aP q m s) && decide (s % q = c)
theorem wH {Q a b : Int} (h : a % Q = b) : Cg Q a b := (Cg.mod Q a).symm.trans (Cg.of_eq h)
theorem qZ {q nn m c : Nat} {f : List Int} {l : List (Int × Int)} (h : qa (q : Int) f nn l) (hp : dB (q : Int) = true) (h8 : nn ≤ 8) (hq : nn < q) (hlt : l.length < m) (hc : c < q) : cnt (fT q l m c) (q ^ m) = q ^ (m - 1 - l.length) := by
 have hq0 : 0 < q := by omega
 obtain ⟨j, hj⟩ : ∃ j, j = l.length + 1 := ⟨_, rfl⟩
 obtain ⟨k, hk⟩ : ∃ k, k = m - j := ⟨_, rfl⟩
 have em : m = j + k := by omega
 rw [show m - 1 - l.length = k by omega, em, Nat.pow_add]
 refine nQ (q ^ k) fun a ha => ?_
 obtain ⟨T, hT⟩ : ∃ T, T = fun X => pv (aP q k a) X := ⟨_, rfl⟩
 obtain ⟨xs, hxs⟩ : ∃ xs : Nat → Int, xs = fun i => if i < l.length then (bM l i).1 else 0 := ⟨_, rfl⟩
 obtain ⟨ys, hys⟩ : ∃ ys : Nat → Int, ys = fun i => if i < l.length then (bM l i).2 - (bM l i).1 ^ j * T (bM l i).1 else (c : Int) := ⟨_, rfl⟩
 have x1 : ∀ i, i < l.length → xs i = (bM l i).1 := fun i hi => by rw [hxs]; exact if_pos hi
 have x2 : xs l.length = 0 := by rw [hxs]; exact if_neg (Nat.lt_irrefl _)
 have y1 : ∀ i, i < l.length → ys i = (bM l i).2 - (bM l i).1 ^ j * T (bM l i).1 := fun i hi => by rw [hys]; exact if_pos hi
 have y2 : ys l.length = c := by rw [hys]; exact if_neg (Nat.lt_irrefl _)
 have hu0 : ∀ i, i < l.length → Un (q : Int) ((bM l i).1 - 0) := fun i hi => by
  have h1 := h.rng i hi
  exact qg hp h1.1 (by omega) (by omega) (Int.le_refl 0) (by decide) (by omega) (by omega)
 have hu : ∀ i i', i < j → i' < j → i ≠ i' → Un (q : Int) (xs i - xs i') := fun i i' hi hi' hne => by
  by_cases e : i < l.length
  ·
   by_cases e' : i' < l.length
   ·
    have h1 := h.un hp h8 (by omega) e e' hne
    rw [x1 i e, x1 i' e']
    have h2 : bV (ixs l) i = (bM l i).1 := bZ e
    have h3 : bV (ixs l) i' = (bM l i').1 := bZ e'
    rwa [h2, h3] at h1
   ·
    obtain rfl : i' = l.length := by omega
    rw [x1 i e, x2]
    exact hu0 i e
  ·
   obtain rfl : i = l.length := by omega
   rw [x1 i' (by omega), x2]
   have h1 := (hu0 i' (by omega)).neg
   rwa [show -((bM l i').1 - 0) = 0 - (bM l i').1 by omega] at h1
 -- what it says
 have Kh : ∀ s, s < q ^ j → (fT q l (j + k) c (q ^ j * a + s) = true ↔ ∀ i, i < j → Cg (q : Int) (pv (aP q j s) (xs i)) (ys i)) := fun s hs => by
  have e1 : aP q (j + k) (q ^ j * a + s) = aP q j s ++ aP q k a := by rw [Nat.add_comm (q ^ j * a) s]; exact pV hq0 k a j s hs
  have e2 : (q ^ j * a + s) % q = s % q := by
   rw [hj, Nat.pow_succ, Nat.mul_comm (q ^ l.length) q, Nat.mul_assoc, Nat.mul_add_mod]
  have e3 : pv (aP q j s) 0 = ((s % q : Nat) : Int) := by rw [uY, hj]; rfl
  have e4 : ∀ X, pv (aP q j s ++ aP q k a) X = pv (aP q j s) X + X ^ j * T X := fun X => by rw [Bl, eG, hT]
  unfold fT
  rw [e1, e2, Bool.and_eq_true, decide_eq_true_eq, kQ]
  constructor
  ·
   rintro ⟨g1, g2⟩ i hi
   by_cases e : i < l.length
   ·
    rw [x1 i e, y1 i e]
    have g3 := wH (g1 i e)
    rw [e4] at g3
    exact (Cg.of_eq (by omega)).trans ((g3.sub (Cg.refl (q : Int) ((bM l i).1 ^ j * T (bM l i).1))))
   ·
    obtain rfl : i = l.length := by omega
    rw [x2, y2, e3, g2]
    exact Cg.refl _ _
  ·
   intro g
   refine ⟨fun i hi => ?_, ?_⟩
   ·
    have g1 := g i (by omega)
    rw [x1 i hi, y1 i hi] at g1
    rw [e4, ((g1.add (Cg.refl (q : Int) ((bM l i).1 ^ j * T (bM l i).1))).trans (Cg.of_eq (Int.sub_add_cancel _ _))).eq, (h.rng i hi).2.2, Int.emod_emod]
   ·
    have g1 := g l.length (by omega)
    rw [x2, y2, e3] at g1
    have := Nat.mod_lt s hq0
    have := Gg g1 (by omega) (by omega) (by omega) (by omega)
    omega
 obtain ⟨L, hL1, hL2⟩ := interp (ys := ys) hu
 have hsc := Bq (q := q) (by omega) j L
 have hnl : sQ q (uJ (q : Int) j L) < q ^ j := by
  have := vB hq0 _ hsc
  rwa [l8] at this
 have hdg : aP q j (sQ q (uJ (q : Int) j L)) = uJ (q : Int) j L := by
  have := qW hq0 _ hsc
  rwa [l8] at this
 refine qY (s0 := sQ q (uJ (q : Int) j L)) ((Kh _ hnl).2 fun i hi => ?_) _ hnl fun s hs hps => ?_
 ·
  rw [hdg]
  exact (qE _ _ j L hL1).trans (hL2 i hi)
 ·
  have g := (Kh s hs).1 hps
  have h1 := agree (f := aP q j s) (g := uJ (q : Int) j L) hu (by rw [eG]; exact Nat.le_refl _) (by rw [l8]; exact Nat.le_refl _) fun i hi => (g i hi).trans (((qE _ _ j L hL1).trans (hL2 i hi)).symm)
  have h2 := nV _ _ (by rw [eG, l8]) (nO hq0 j s) hsc h1
  rw [← gu hq0 j s hs, h2]
where Bq {q : Nat} (hq : 1 ≤ (q : Int)) (j : Nat) (L : List Int) : (uJ (q : Int) j L).all (aQ (q : Int)) = true := GU hq j L
theorem yj {q nn m : Nat} {f : List Int} {l : List (Int × Int)} (h : qa (q : Int) f nn l) (hp : dB (q : Int) = true) (h8 : nn ≤ 8) (hq : nn < q) (hm : m ≤ l.length) (hf : f.length = m) (hs : f.all (aQ (q : Int)) = true) : cnt (fun s => dY (q : Int) l (aP q m s)) (q ^ m) = 1 := by
 have hq0 : 0 < q := by omega
 have hnl : sQ q f < q ^ m := by rw [← hf]; exact vB hq0 f hs
 have hdg : aP q m (sQ q f) = f := by rw [← hf]; exact qW hq0 f hs
 refine qY (s0 := sQ q f) ?_ _ hnl fun s hsl hps => ?_
 ·
  show dY (q : Int) l (aP q m (sQ q f)) = true
  rw [hdg, kQ]
  exact fun i hi => (h.rng i hi).2.2.symm
 ·
  have g := kQ.1 hps
  have hu : ∀ i j, i < m → j < m → i ≠ j → Un (q : Int) ((fun i => (bM l i).1) i - (fun i => (bM l i).1) j) := fun i j hi hj hne => by
   have h1 := h.un hp h8 (by omega) (i := i) (j := j) (by omega) (by omega) hne
   have h2 : bV (ixs l) i = (bM l i).1 := bZ (by omega)
   have h3 : bV (ixs l) j = (bM l j).1 := bZ (by omega)
   rwa [h2, h3] at h1
  have h1 := agree (f := aP q m s) (g := f) hu (by rw [eG]; exact Nat.le_refl _) (by omega) fun i hi => Cg.of_mod ((g i (by omega)).trans (h.rng i (by omega)).2.2)
  have h2 := nV _ _ (by rw [eG, hf]) (nO hq0 m s) hs h1
  rw [← gu hq0 m s hsl, h2]
def fK (q : Nat) (l : List (Int × Int)) (m t : Nat) : Nat → Nat
 | 0 => 0
 | k + 1 => fK q l m t k + cnt (fT q l m k) t
theorem sD (q : Nat) (l : List (Int × Int)) (m t : Nat) : ∀ k, fK q l m (t + 1) k = fK q l m t k + (if dY (q : Int) l (aP q m t) = true ∧ t % q < k then 1 else 0)
 | 0 => by simp [fK]
 | k + 1 => by
  rw [fK, sD q l m t k, fK, cnt]
  cases h1 : dY (q : Int) l (aP q m t) with
  | true =>
   have e : fT q l m k t = decide (t % q = k) := by rw [fT, h1, Bool.true_and]
   rw [e]
   simp only [true_and, decide_eq_true_eq]
   split <;> split <;> split <;> omega
  | false =>
   have e : fT q l m k t = false := by rw [fT, h1, Bool.false_and]
   rw [e]
   simp
theorem qm {q : Nat} (hq : 0 < q) (l : List (Int × Int)) (m : Nat) : ∀ t, fK q l m t q = cnt (fun s => dY (q : Int) l (aP q m s)) t
 | 0 => zero q
 | t + 1 => by
  rw [sD, qm hq l m t, cnt]
  have := Nat.mod_lt t hq
  by_cases h1 : dY (q : Int) l (aP q m t) = true
  · rw [if_pos ⟨h1, this⟩, if_pos h1]
  · rw [if_neg (fun g => h1 g.1), if_neg h1]
where zero {q0 : Nat} {l0 : List (Int × Int)} {m0 : Nat} : ∀ k, fK q0 l0 m0 0 k = 0
 | 0 => rfl
 | k + 1 => by rw [fK, zero k]; rfl
theorem ql {q nn m : Nat} {f : List Int} {l : List (Int × Int)} (h : qa (q : Int) f nn l) (hp : dB (q : Int) = true) (h8 : nn ≤ 8) (hq : nn < q) (hlt : l.length < m) : ∀ k, k ≤ q → fK q l m (q ^ m) k = k * q ^ (m - 1 - l.length)
 | 0, _ => by simp [fK]
 | k + 1, hk => by rw [fK, ql h hp h8 hq hlt k (by omega), qZ h hp h8 hq hlt (by omega), Nat.succ_mul]
theorem Ip (P Q G need n : Int) (h : List Int) (c : Int) (hl : Hid (h.length = 32)) (hQ : Q < 9223372036854775808) (eu : Hid (au P Q G = false)) (w : World) (hv : Hid (Vars w)) (hd : Hid (dx w)) :
  Calls Tryz.prog 7 #[gv P Q G, .int .i64 need, .int .i64 n, .agg (aC h c)] w (Rt w (zn 1)) := by
 obtain ⟨W, hW⟩ : ∃ W, ((((w.alloc (aM P Q G)).alloc (.cells (aC h c) 27)).alloc (.cells j_ 32)).alloc (.cells #[.int .u8 0, .int .u8 0, .int .u8 0, .int .u8 0, .int .u8 0, .int .u8 0, .int .u8 0, .int .u8 0, .int .u8 0, .int .u8 0, .int .u8 0, .int .u8 0, .int .u8 0, .int .u8 0, .int .u8 0, .int .u8 0, .int .u8 0, .int .u8 0, .int .u8 0, .int .u8 0, .int .u8 0, .int .u8 0, .int .u8 0, .int .u8 0, .int .u8 0, .int .u8 0, .int .u8 0, .int .u8 0, .int .u8 0, .int .u8 0, .int .u8 0, .int .u8 0, .int .i64 0] 27)) = W := ⟨_, rfl⟩
 have HI0 : Hid (iD w P Q G h c W) := aa (by rw [← hW]; exact iD.start w P Q G h c)
 have HW := aa hW
 clear hW
 go_in
 go_upto_region 1 with (fail)
 rw [HW.out]
 clear HW
 obtain ⟨g0, g1, g2⟩ := HI0.out.gb
 go_wp2_with fail
 clear g0 g1 g2
 refine (aJ P Q G false eu hQ _ (aa (hv.out.below HI0.out.b))).mono ?_
 rintro e w1 ⟨rfl, hb1⟩
 have HI1 := aa (HI0.out.below hb1)
 clear hb1 HI0
 go_wp2_with fail
 refine (fP 1 _).mono ?_
 rintro e wz ⟨rfl, hbz⟩
 have rG := aa (HI1.out.below hbz)
 clear hbz HI1
 obtain ⟨hq, hdd, hd1, eP⟩ := rG.out.fail
 have FI := aa hd1
 have Fy := aa rG.out.p
 have Fx := aa hq
 have Dc := aa hdd
 have og := aa eP
 clear hq hdd hd1 eP rG
 go_wp2_with (first
  | ((with_reducible show wpList _ _ _ (⟨none, Op.store _ (Operand.tmp 8) _, _, _, _, _⟩ :: _) _ _); refine wpList_store_row rfl 32 _ _ rfl (w.heap.size + 2) j_ rfl rfl _ _ Fy.out aU rfl (dP 0 rfl rfl) ?_)
  | ((with_reducible show wpList _ _ _ (⟨none, Op.store _ (Operand.tmp 10) _, _, _, _, _⟩ :: _) _ _); refine wpList_store_row rfl 27 _ _ rfl (w.heap.size + 3) (aC (aH 32) 0) rfl rfl _ _ FI.out (aj rfl) rfl (aF _ _) ?_))
 exact bodyPost_ret (v := zn 1) (bD (p := 8) (q := 9) (r := 10) (s := 11) (ty := 32) (ty2 := 27) rfl _ _ ⟨w.heap.size + 2, 0, none⟩ ⟨w.heap.size + 3, 0, none⟩ _ _ _ _ rfl rfl rfl rfl (run_loadVar_row _ _ _ _ _ _ _ Fx.out Tryz.underlying32 rfl aU) (run_loadVar_row _ _ _ _ _ _ _ Dc.out Tryz.underlying27 rfl (aj rfl))) rfl ⟨rfl, og.out⟩
theorem Io (P Q G need n : Int) (h : List Int) (c : Int) (hl : Hid (h.length = 32)) (hQ : Q < 9223372036854775808) (eu : Hid (au P Q G = true)) (hdr : Hid (oN c = false)) (w : World) (hv : Hid (Vars w)) (hd : Hid (dx w)) :
  Calls Tryz.prog 7 #[gv P Q G, .int .i64 need, .int .i64 n, .agg (aC h c)] w (Rt w (zn 1)) := by
 obtain ⟨W, hW⟩ : ∃ W, ((((w.alloc (aM P Q G)).alloc (.cells (aC h c) 27)).alloc (.cells j_ 32)).alloc (.cells #[.int .u8 0, .int .u8 0, .int .u8 0, .int .u8 0, .int .u8 0, .int .u8 0, .int .u8 0, .int .u8 0, .int .u8 0, .int .u8 0, .int .u8 0, .int .u8 0, .int .u8 0, .int .u8 0, .int .u8 0, .int .u8 0, .int .u8 0, .int .u8 0, .int .u8 0, .int .u8 0, .int .u8 0, .int .u8 0, .int .u8 0, .int .u8 0, .int .u8 0, .int .u8 0, .int .u8 0, .int .u8 0, .int .u8 0, .int .u8 0, .int .u8 0, .int .u8 0, .int .i64 0] 27)) = W := ⟨_, rfl⟩
 have HI0 : Hid (iD w P Q G h c W) := aa (by rw [← hW]; exact iD.start w P Q G h c)
 have HW := aa hW
 clear hW
 go_in
 go_upto_region 1 with (fail)
 rw [HW.out]
 clear HW
 obtain ⟨g0, g1, g2⟩ := HI0.out.gb
 go_wp2_with fail
 clear g0 g1 g2
 refine (aJ P Q G true eu hQ _ (aa (hv.out.below HI0.out.b))).mono ?_
 rintro e w1 ⟨rfl, hb1⟩
 have HI1 := aa (HI0.out.below hb1)
 clear hb1 HI0
 go_wp2_with ((with_reducible show wpList _ _ _ (⟨some 34, _, _, _, _, _⟩ :: _) _ _); refine aS (by rfl) 27 _ rfl (w.heap.size + 1) rfl _ _ _ _ HI1.out.d Tryz.underlying27 rfl (aj hl.out) ?_)
 refine (dN h hl c false hdr _).mono ?_
 rintro e w2 ⟨rfl, hb2⟩
 have HI2 := aa (HI1.out.below hb2)
 clear hb2 HI1
 go_wp2_with fail
 refine (fP 1 _).mono ?_
 rintro e wz ⟨rfl, hbz⟩
 have rG := aa (HI2.out.below hbz)
 clear hbz HI2
 obtain ⟨hq, hdd, hd1, eP⟩ := rG.out.fail
 have FI := aa hd1
 have Fy := aa rG.out.p
 have Fx := aa hq
 have Dc := aa hdd
 have og := aa eP
 clear hq hdd hd1 eP rG
 go_wp2_with (first
  | ((with_reducible show wpList _ _ _ (⟨none, Op.store _ (Operand.tmp 8) _, _, _, _, _⟩ :: _) _ _); refine wpList_store_row rfl 32 _ _ rfl (w.heap.size + 2) j_ rfl rfl _ _ Fy.out aU rfl (dP 0 rfl rfl) ?_)
  | ((with_reducible show wpList _ _ _ (⟨none, Op.store _ (Operand.tmp 10) _, _, _, _, _⟩ :: _) _ _); refine wpList_store_row rfl 27 _ _ rfl (w.heap.size + 3) (aC (aH 32) 0) rfl rfl _ _ FI.out (aj rfl) rfl (aF _ _) ?_))
 exact bodyPost_ret (v := zn 1) (bD (p := 8) (q := 9) (r := 10) (s := 11) (ty := 32) (ty2 := 27) rfl _ _ ⟨w.heap.size + 2, 0, none⟩ ⟨w.heap.size + 3, 0, none⟩ _ _ _ _ rfl rfl rfl rfl (run_loadVar_row _ _ _ _ _ _ _ Fx.out Tryz.underlying32 rfl aU) (run_loadVar_row _ _ _ _ _ _ _ Dc.out Tryz.underlying27 rfl (aj rfl))) rfl ⟨rfl, og.out⟩
theorem Im (P Q G need n : Int) (h : List Int) (c : Int) (hl : Hid (h.length = 32)) (hQ : Q < 9223372036854775808) (eu : Hid (au P Q G = true)) (hdr : Hid (oN c = true)) (hnu : Hid (ni Q need n = false)) (w : World) (hv : Hid (Vars w)) (hd : Hid (dx w)) :
  Calls Tryz.prog 7 #[gv P Q G, .int .i64 need, .int .i64 n, .agg (aC h c)] w (Rt w (zn 2)) := by
 obtain ⟨W, hW⟩ : ∃ W, ((((w.alloc (aM P Q G)).alloc (.cells (aC h c) 27)).alloc (.cells j_ 32)).alloc (.cells #[.int .u8 0, .int .u8 0, .int .u8 0, .int .u8 0, .int .u8 0, .int .u8 0, .int .u8 0, .int .u8 0, .int .u8 0, .int .u8 0, .int .u8 0, .int .u8 0, .int .u8 0, .int .u8 0, .int .u8 0, .int .u8 0, .int .u8 0, .int .u8 0, .int .u8 0, .int .u8 0, .int .u8 0, .int .u8 0, .int .u8 0, .int .u8 0, .int .u8 0, .int .u8 0, .int .u8 0, .int .u8 0, .int .u8 0, .int .u8 0, .int .u8 0, .int .u8 0, .int .i64 0] 27)) = W := ⟨_, rfl⟩
 have HI0 : Hid (iD w P Q G h c W) := aa (by rw [← hW]; exact iD.start w P Q G h c)
 have HW := aa hW
 clear hW
 go_in
 go_upto_region 1 with (fail)
 rw [HW.out]
 clear HW
 obtain ⟨g0, g1, g2⟩ := HI0.out.gb
 go_wp2_with fail
 clear g0 g1 g2
 refine (aJ P Q G true eu hQ _ (aa (hv.out.below HI0.out.b))).mono ?_
 rintro e w1 ⟨rfl, hb1⟩
 have HI1 := aa (HI0.out.below hb1)
 clear hb1 HI0
 go_wp2_with ((with_reducible show wpList _ _ _ (⟨some 34, _, _, _, _, _⟩ :: _) _ _); refine aS (by rfl) 27 _ rfl (w.heap.size + 1) rfl _ _ _ _ HI1.out.d Tryz.underlying27 rfl (aj hl.out) ?_)
 refine (dN h hl c true hdr _).mono ?_
 rintro e w2 ⟨rfl, hb2⟩
 have HI2 := aa (HI1.out.below hb2)
 clear hb2 HI1
 obtain ⟨g0, g1, g2⟩ := HI2.out.gb
 go_wp2_with fail
 clear g0 g1 g2
 refine (jH P Q G need n false hnu _).mono ?_
 rintro e w3 ⟨rfl, hb3⟩
 have HI3 := aa (HI2.out.below hb3)
 clear hb3 HI2
 go_wp2_with fail
 refine (fP 2 _).mono ?_
 rintro e wz ⟨rfl, hbz⟩
 have rG := aa (HI3.out.below hbz)
 clear hbz HI3
 obtain ⟨hq, hdd, hd1, eP⟩ := rG.out.fail
 have FI := aa hd1
 have Fy := aa rG.out.p
 have Fx := aa hq
 have Dc := aa hdd
 have og := aa eP
 clear hq hdd hd1 eP rG
 go_wp2_with (first
  | ((with_reducible show wpList _ _ _ (⟨none, Op.store _ (Operand.tmp 8) _, _, _, _, _⟩ :: _) _ _); refine wpList_store_row rfl 32 _ _ rfl (w.heap.size + 2) j_ rfl rfl _ _ Fy.out aU rfl (dP 0 rfl rfl) ?_)
  | ((with_reducible show wpList _ _ _ (⟨none, Op.store _ (Operand.tmp 10) _, _, _, _, _⟩ :: _) _ _); refine wpList_store_row rfl 27 _ _ rfl (w.heap.size + 3) (aC (aH 32) 0) rfl rfl _ _ FI.out (aj rfl) rfl (aF _ _) ?_))
 exact bodyPost_ret (v := zn 2) (bD (p := 8) (q := 9) (r := 10) (s := 11) (ty := 32) (ty2 := 27) rfl _ _ ⟨w.heap.size + 2, 0, none⟩ ⟨w.heap.size + 3, 0, none⟩ _ _ _ _ rfl rfl rfl rfl (run_loadVar_row _ _ _ _ _ _ _ Fx.out Tryz.underlying32 rfl aU) (run_loadVar_row _ _ _ _ _ _ _ Dc.out Tryz.underlying27 rfl (aj rfl))) rfl ⟨rfl, og.out⟩
theorem Il (P Q G need n : Int) (h : List Int) (c : Int) (hl : Hid (h.length = 32)) (hQ : Q < 9223372036854775808) (eu : Hid (au P Q G = true)) (hdr : Hid (oN c = true)) (hnu : Hid (ni Q need n = true)) (tL : Hid (ax h = true)) (x0 c1 : Int) (Jv : Kp (pJ h Q 256 c = (x0, c1, true))) (w : World) (hv : Hid (Vars w)) (hd : Hid (dx w)) :
  Calls Tryz.prog 7 #[gv P Q G, .int .i64 need, .int .i64 n, .agg (aC h c)] w (Rt w (zn 5)) := by
 obtain ⟨MX, vp, MW, MU⟩ := aD eu.out
 obtain ⟨W, hW⟩ : ∃ W, ((((w.alloc (aM P Q G)).alloc (.cells (aC h c) 27)).alloc (.cells j_ 32)).alloc (.cells #[.int .u8 0, .int .u8 0, .int .u8 0, .int .u8 0, .int .u8 0, .int .u8 0, .int .u8 0, .int .u8 0, .int .u8 0, .int .u8 0, .int .u8 0, .int .u8 0, .int .u8 0, .int .u8 0, .int .u8 0, .int .u8 0, .int .u8 0, .int .u8 0, .int .u8 0, .int .u8 0, .int .u8 0, .int .u8 0, .int .u8 0, .int .u8 0, .int .u8 0, .int .u8 0, .int .u8 0, .int .u8 0, .int .u8 0, .int .u8 0, .int .u8 0, .int .u8 0, .int .i64 0] 27)) = W := ⟨_, rfl⟩
 have HI0 : Hid (iD w P Q G h c W) := aa (by rw [← hW]; exact iD.start w P Q G h c)
 have HW := aa hW
 clear hW
 go_in
 go_upto_region 1 with (fail)
 rw [HW.out]
 clear HW
 obtain ⟨g0, g1, g2⟩ := HI0.out.gb
 go_wp2_with fail
 clear g0 g1 g2
 refine (aJ P Q G true eu hQ _ (aa (hv.out.below HI0.out.b))).mono ?_
 rintro e w1 ⟨rfl, hb1⟩
 have HI1 := aa (HI0.out.below hb1)
 clear hb1 HI0
 go_wp2_with ((with_reducible show wpList _ _ _ (⟨some 34, _, _, _, _, _⟩ :: _) _ _); refine aS (by rfl) 27 _ rfl (w.heap.size + 1) rfl _ _ _ _ HI1.out.d Tryz.underlying27 rfl (aj hl.out) ?_)
 refine (dN h hl c true hdr _).mono ?_
 rintro e w2 ⟨rfl, hb2⟩
 have HI2 := aa (HI1.out.below hb2)
 clear hb2 HI1
 obtain ⟨g0, g1, g2⟩ := HI2.out.gb
 go_wp2_with fail
 clear g0 g1 g2
 refine (jH P Q G need n true hnu _).mono ?_
 rintro e w3 ⟨rfl, hb3⟩
 have HI3 := aa (HI2.out.below hb3)
 clear hb3 HI2
 obtain ⟨g0, g1, g2⟩ := HI3.out.gb
 go_wp2_with ((with_reducible show wpList _ _ _ (⟨some 57, _, _, _, _, _⟩ :: _) _ _); refine wpList_load_row rfl 27 _ rfl (w.heap.size + 1) rfl _ _ _ _ HI3.out.d Tryz.underlying27 rfl (aj hl.out) ?_)
 clear g0 g1 g2
 refine (qU h hl tL c hdr Q (by omega) (by omega) x0 c1 true Jv (aH 32) 0 5 0 (aa rfl) _ (aa (hd.out.below HI3.out.b))).mono ?_
 rintro e w4 ⟨rfl, hb4⟩
 rw [show uL (aH 32) 0 0 5 = .tuple #[.agg (aC (aH 32) 0), .int .i64 0, .int .i64 5] from rfl]
 have HI4 := aa (HI3.out.below hb4)
 clear hb4 HI3
 go_upto_region 7 with ((with_reducible show wpList _ _ _ (⟨none, _, _, _, _, _⟩ :: _) _ _); refine wpList_store_row rfl 27 _ _ rfl (w.heap.size + 1) (aC (aH 32) 0) rfl rfl _ _ HI4.out.d (aj rfl) (dK hl.out rfl) (aF _ _) ?_)
 have lS : Hid (iD w P Q G (aH 32) 0 (w4.setRow (w.heap.size + 1) (aC (aH 32) 0))) := aa HI4.out.put
 clear HI4
 obtain ⟨w5, FW⟩ : ∃ u, w4.setRow (w.heap.size + 1) (aC (aH 32) 0) = u := ⟨_, rfl⟩
 rw [FW] at lS ⊢
 clear FW
 go_wp2_with fail
 refine (fP 5 _).mono ?_
 rintro e wz ⟨rfl, hbz⟩
 have rG := aa (lS.out.below hbz)
 clear hbz lS
 obtain ⟨hq, hdd, hd1, eP⟩ := rG.out.fail
 have FI := aa hd1
 have Fy := aa rG.out.p
 have Fx := aa hq
 have Dc := aa hdd
 have og := aa eP
 clear hq hdd hd1 eP rG
 go_wp2_with (first
  | ((with_reducible show wpList _ _ _ (⟨none, Op.store _ (Operand.tmp 8) _, _, _, _, _⟩ :: _) _ _); refine wpList_store_row rfl 32 _ _ rfl (w.heap.size + 2) j_ rfl rfl _ _ Fy.out aU rfl (dP 0 rfl rfl) ?_)
  | ((with_reducible show wpList _ _ _ (⟨none, Op.store _ (Operand.tmp 10) _, _, _, _, _⟩ :: _) _ _); refine wpList_store_row rfl 27 _ _ rfl (w.heap.size + 3) (aC (aH 32) 0) rfl rfl _ _ FI.out (aj rfl) rfl (aF _ _) ?_))
 exact bodyPost_ret (v := zn 5) (bD (p := 8) (q := 9) (r := 10) (s := 11) (ty := 32) (ty2 := 27) rfl _ _ ⟨w.heap.size + 2, 0, none⟩ ⟨w.heap.size + 3, 0, none⟩ _ _ _ _ rfl rfl rfl rfl (run_loadVar_row _ _ _ _ _ _ _ Fx.out Tryz.underlying32 rfl aU) (run_loadVar_row _ _ _ _ _ _ _ Dc.out Tryz.underlying27 rfl (aj rfl))) rfl ⟨rfl, og.out⟩
theorem Ik (P Q G : Int) (m1 nn : Nat) (h : List Int) (c : Int) (hl : Hid (h.length = 32)) (hQ : Q < 9223372036854775808) (eu : Hid (au P Q G = true)) (hdr : Hid (oN c = true)) (hnu : Hid (ni Q ((m1 + 1 : Nat) : Int) (nn : Int) = true)) (hm1 : m1 ≤ 100) (tL : Hid (ax h = true)) (x0 c1 : Int) (Jv : Kp (pJ h Q 256 c = (x0, c1, false))) (zf : Hid (oN c1 = true)) (hst : Hid ((iU h Q c1 m1).2 = true)) (w : World) (hv : Hid (Vars w)) (hd : Hid (dx w)) :
  Calls Tryz.prog 7 #[gv P Q G, .int .i64 ((m1 + 1 : Nat) : Int), .int .i64 (nn : Int), .agg (aC h c)] w (Rt w (zn 5)) := by
 obtain ⟨MX, vp, MW, MU⟩ := aD eu.out
 have q0 : IntKind.i64.wrap (((m1 + 1 : Nat) : Int) - 1) = (m1 : Int) := by rw [show ((m1 + 1 : Nat) : Int) - 1 = (m1 : Int) by omega]; exact IntWalk.i64_in _ (by omega)
 obtain ⟨W, hW⟩ : ∃ W, ((((w.alloc (aM P Q G)).alloc (.cells (aC h c) 27)).alloc (.cells j_ 32)).alloc (.cells #[.int .u8 0, .int .u8 0, .int .u8 0, .int .u8 0, .int .u8 0, .int .u8 0, .int .u8 0, .int .u8 0, .int .u8 0, .int .u8 0, .int .u8 0, .int .u8 0, .int .u8 0, .int .u8 0, .int .u8 0, .int .u8 0, .int .u8 0, .int .u8 0, .int .u8 0, .int .u8 0, .int .u8 0, .int .u8 0, .int .u8 0, .int .u8 0, .int .u8 0, .int .u8 0, .int .u8 0, .int .u8 0, .int .u8 0, .int .u8 0, .int .u8 0, .int .u8 0, .int .i64 0] 27)) = W := ⟨_, rfl⟩
 have HI0 : Hid (iD w P Q G h c W) := aa (by rw [← hW]; exact iD.start w P Q G h c)
 have HW := aa hW
 clear hW
 go_in
 go_upto_region 1 with (fail)
 rw [HW.out]
 clear HW
 obtain ⟨g0, g1, g2⟩ := HI0.out.gb
 go_wp2_with fail
 clear g0 g1 g2
 refine (aJ P Q G true eu hQ _ (aa (hv.out.below HI0.out.b))).mono ?_
 rintro e w1 ⟨rfl, hb1⟩
 have HI1 := aa (HI0.out.below hb1)
 clear hb1 HI0
 go_wp2_with ((with_reducible show wpList _ _ _ (⟨some 34, _, _, _, _, _⟩ :: _) _ _); refine aS (by rfl) 27 _ rfl (w.heap.size + 1) rfl _ _ _ _ HI1.out.d Tryz.underlying27 rfl (aj hl.out) ?_)
 refine (dN h hl c true hdr _).mono ?_
 rintro e w2 ⟨rfl, hb2⟩
 have HI2 := aa (HI1.out.below hb2)
 clear hb2 HI1
 obtain ⟨g0, g1, g2⟩ := HI2.out.gb
 go_wp2_with fail
 clear g0 g1 g2
 refine (jH P Q G ((m1 + 1 : Nat) : Int) (nn : Int) true hnu _).mono ?_
 rintro e w3 ⟨rfl, hb3⟩
 have HI3 := aa (HI2.out.below hb3)
 clear hb3 HI2
 obtain ⟨g0, g1, g2⟩ := HI3.out.gb
 go_wp2_with ((with_reducible show wpList _ _ _ (⟨some 57, _, _, _, _, _⟩ :: _) _ _); refine wpList_load_row rfl 27 _ rfl (w.heap.size + 1) rfl _ _ _ _ HI3.out.d Tryz.underlying27 rfl (aj hl.out) ?_)
 clear g0 g1 g2
 refine (qU h hl tL c hdr Q (by omega) (by omega) x0 c1 false Jv h c1 0 x0 (aa rfl) _ (aa (hd.out.below HI3.out.b))).mono ?_
 rintro e w4 ⟨rfl, hb4⟩
 rw [show uL h c1 x0 0 = .tuple #[.agg (aC h c1), .int .i64 x0, .int .i64 0] from rfl]
 have HI4 := aa (HI3.out.below hb4)
 clear hb4 HI3
 go_upto_region 7 with ((with_reducible show wpList _ _ _ (⟨none, _, _, _, _, _⟩ :: _) _ _); refine wpList_store_row rfl 27 _ _ rfl (w.heap.size + 1) (aC h c1) rfl rfl _ _ HI4.out.d (aj hl.out) (dK hl.out hl.out) (aF _ _) ?_)
 have lS : Hid (iD w P Q G h c1 (w4.setRow (w.heap.size + 1) (aC h c1))) := aa HI4.out.put
 clear HI4
 obtain ⟨w5, FW⟩ : ∃ u, w4.setRow (w.heap.size + 1) (aC h c1) = u := ⟨_, rfl⟩
 rw [FW] at lS ⊢
 clear FW
 obtain ⟨g0, g1, g2⟩ := lS.out.gb
 go_wp2_with ((with_reducible show wpList _ _ _ (⟨some 74, _, _, _, _, _⟩ :: _) _ _); refine wpList_load_row rfl 27 _ rfl (w.heap.size + 1) rfl _ _ _ _ lS.out.d Tryz.underlying27 rfl (aj hl.out) ?_)
 clear g0 g1 g2
 refine (pR h hl tL c1 zf Q (by omega) (by omega) m1 (by omega) _ (aa (hd.out.below lS.out.b))).mono ?_
 intro e w6 hL
 unfold rD at hL
 rw [if_pos hst.out] at hL
 obtain ⟨rfl, hb6⟩ := hL
 have I1 := aa (lS.out.below hb6)
 clear hb6 lS
 go_upto_region 10 with ((with_reducible show wpList _ _ _ (⟨none, _, _, _, _, _⟩ :: _) _ _); refine wpList_store_row rfl 27 _ _ rfl (w.heap.size + 1) (aC (aH 32) 0) rfl rfl _ _ I1.out.d (aj rfl) (dK hl.out rfl) (aF _ _) ?_)
 have IZ : Hid (iD w P Q G (aH 32) 0 (w6.setRow (w.heap.size + 1) (aC (aH 32) 0))) := aa I1.out.put
 clear I1
 obtain ⟨w7, hw7⟩ : ∃ u, w6.setRow (w.heap.size + 1) (aC (aH 32) 0) = u := ⟨_, rfl⟩
 rw [hw7] at IZ ⊢
 clear hw7
 go_wp2_with fail
 refine (fP 5 _).mono ?_
 rintro e wz ⟨rfl, hbz⟩
 have rG := aa (IZ.out.below hbz)
 clear hbz IZ
 obtain ⟨hq, hdd, hd1, eP⟩ := rG.out.fail
 have FI := aa hd1
 have Fy := aa rG.out.p
 have Fx := aa hq
 have Dc := aa hdd
 have og := aa eP
 clear hq hdd hd1 eP rG
 go_wp2_with (first
  | ((with_reducible show wpList _ _ _ (⟨none, Op.store _ (Operand.tmp 8) _, _, _, _, _⟩ :: _) _ _); refine wpList_store_row rfl 32 _ _ rfl (w.heap.size + 2) j_ rfl rfl _ _ Fy.out aU rfl (dP 0 rfl rfl) ?_)
  | ((with_reducible show wpList _ _ _ (⟨none, Op.store _ (Operand.tmp 10) _, _, _, _, _⟩ :: _) _ _); refine wpList_store_row rfl 27 _ _ rfl (w.heap.size + 3) (aC (aH 32) 0) rfl rfl _ _ FI.out (aj rfl) rfl (aF _ _) ?_))
 exact bodyPost_ret (v := zn 5) (bD (p := 8) (q := 9) (r := 10) (s := 11) (ty := 32) (ty2 := 27) rfl _ _ ⟨w.heap.size + 2, 0, none⟩ ⟨w.heap.size + 3, 0, none⟩ _ _ _ _ rfl rfl rfl rfl (run_loadVar_row _ _ _ _ _ _ _ Fx.out Tryz.underlying32 rfl aU) (run_loadVar_row _ _ _ _ _ _ _ Dc.out Tryz.underlying27 rfl (aj rfl))) rfl ⟨rfl, og.out⟩
theorem EZ (P Q G : Int) (m1 nn : Nat) (h : List Int) (c : Int) (hl : Hid (h.length = 32)) (hQ : Q < 9223372036854775808) (eu : Hid (au P Q G = true)) (hdr : Hid (oN c = true)) (hnu : Hid (ni Q ((m1 + 1 : Nat) : Int) (nn : Int) = true)) (hm1 : m1 ≤ 100) (tL : Hid (ax h = true)) (x0 c1 : Int) (Jv : Kp (pJ h Q 256 c = (x0, c1, false))) (zf : Hid (oN c1 = true)) (c2 : Int) (hst : Hid ((iU h Q c1 m1).2 = false)) (hc2 : Hid ((iU h Q c1 m1).1 = c2)) (w : World) (hv : Hid (Vars w)) (hd : Hid (dx w)) :
  Calls Tryz.prog 7 #[gv P Q G, .int .i64 ((m1 + 1 : Nat) : Int), .int .i64 (nn : Int), .agg (aC h c)] w (Lt P Q G (x0 :: gL h Q c1 m1) (m1 + 1) nn h c2 w) := by
 obtain ⟨MX, vp, MW, MU⟩ := aD eu.out
 have q0 : IntKind.i64.wrap (((m1 + 1 : Nat) : Int) - 1) = (m1 : Int) := by rw [show ((m1 + 1 : Nat) : Int) - 1 = (m1 : Int) by omega]; exact IntWalk.i64_in _ (by omega)
 have q1 : ∀ k : Nat, k ≤ 8 → IntKind.i64.wrap (((k : Int) + 1) + 1) = ((k : Int) + 1) + 1 := fun k hk => IntWalk.i64_in _ (by omega)
 obtain ⟨hn2, Q4, Ub⟩ : m1 + 1 ≤ nn ∧ nn ≤ 8 ∧ (nn : Int) < Q := by
  obtain ⟨nm, nk, e1, e2, n1, n2, n3, n4⟩ := ng hnu.out
  omega
 obtain ⟨i0, hi, hz0, hz1, hz2⟩ := info_parts fD
 obtain ⟨i1, hi1, hy0, hy1, hy2⟩ := info_parts BN
 have Qt : Hid (kU P Q G [G] = 0) := aa (mE eu.out (by simp [fO eu.out]))
 have Gq : Hid (dB Q = true) := aa (by have h2 := eu.out; simp [au] at h2; exact h2.2.2.2.2.1)
 have wW : Hid ((gL h Q c1 m1).length = m1) := aa (nD _ _ _ _)
 have HF : Hid ((x0 :: gL h Q c1 m1).all (aQ Q) = true) := aa (by
  have h1 := hdr.out
  simp [oN] at h1
  have h2 := vz (h := h) (q := Q) (by omega) 256 c h1.2
  rw [Jv.1] at h2
  have h3 := h2 rfl
  rw [List.all_cons, xP (by omega), Bool.and_true]
  simp [aQ]; omega)
 obtain ⟨W, hW⟩ : ∃ W, ((((w.alloc (aM P Q G)).alloc (.cells (aC h c) 27)).alloc (.cells j_ 32)).alloc (.cells #[.int .u8 0, .int .u8 0, .int .u8 0, .int .u8 0, .int .u8 0, .int .u8 0, .int .u8 0, .int .u8 0, .int .u8 0, .int .u8 0, .int .u8 0, .int .u8 0, .int .u8 0, .int .u8 0, .int .u8 0, .int .u8 0, .int .u8 0, .int .u8 0, .int .u8 0, .int .u8 0, .int .u8 0, .int .u8 0, .int .u8 0, .int .u8 0, .int .u8 0, .int .u8 0, .int .u8 0, .int .u8 0, .int .u8 0, .int .u8 0, .int .u8 0, .int .u8 0, .int .i64 0] 27)) = W := ⟨_, rfl⟩
 have HI0 : Hid (iD w P Q G h c W) := aa (by rw [← hW]; exact iD.start w P Q G h c)
 have HW := aa hW
 clear hW
 go_in
 go_upto_region 1 with (fail)
 rw [HW.out]
 clear HW
 obtain ⟨g0, g1, g2⟩ := HI0.out.gb
 go_wp2_with fail
 clear g0 g1 g2
 refine (aJ P Q G true eu hQ _ (aa (hv.out.below HI0.out.b))).mono ?_
 rintro e w1 ⟨rfl, hb1⟩
 have HI1 := aa (HI0.out.below hb1)
 clear hb1 HI0
 go_wp2_with ((with_reducible show wpList _ _ _ (⟨some 34, _, _, _, _, _⟩ :: _) _ _); refine aS (by rfl) 27 _ rfl (w.heap.size + 1) rfl _ _ _ _ HI1.out.d Tryz.underlying27 rfl (aj hl.out) ?_)
 refine (dN h hl c true hdr _).mono ?_
 rintro e w2 ⟨rfl, hb2⟩
 have HI2 := aa (HI1.out.below hb2)
 clear hb2 HI1
 obtain ⟨g0, g1, g2⟩ := HI2.out.gb
 go_wp2_with fail
 clear g0 g1 g2
 refine (jH P Q G ((m1 + 1 : Nat) : Int) (nn : Int) true hnu _).mono ?_
 rintro e w3 ⟨rfl, hb3⟩
 have HI3 := aa (HI2.out.below hb3)
 clear hb3 HI2
 obtain ⟨g0, g1, g2⟩ := HI3.out.gb
 go_wp2_with ((with_reducible show wpList _ _ _ (⟨some 57, _, _, _, _, _⟩ :: _) _ _); refine wpList_load_row rfl 27 _ rfl (w.heap.size + 1) rfl _ _ _ _ HI3.out.d Tryz.underlying27 rfl (aj hl.out) ?_)
 clear g0 g1 g2
 refine (qU h hl tL c hdr Q (by omega) (by omega) x0 c1 false Jv h c1 0 x0 (aa rfl) _ (aa (hd.out.below HI3.out.b))).mono ?_
 rintro e w4 ⟨rfl, hb4⟩
 rw [show uL h c1 x0 0 = .tuple #[.agg (aC h c1), .int .i64 x0, .int .i64 0] from rfl]
 have HI4 := aa (HI3.out.below hb4)
 clear hb4 HI3
 go_upto_region 7 with ((with_reducible show wpList _ _ _ (⟨none, _, _, _, _, _⟩ :: _) _ _); refine wpList_store_row rfl 27 _ _ rfl (w.heap.size + 1) (aC h c1) rfl rfl _ _ HI4.out.d (aj hl.out) (dK hl.out hl.out) (aF _ _) ?_)
 have lS : Hid (iD w P Q G h c1 (w4.setRow (w.heap.size + 1) (aC h c1))) := aa HI4.out.put
 clear HI4
 obtain ⟨w5, FW⟩ : ∃ u, w4.setRow (w.heap.size + 1) (aC h c1) = u := ⟨_, rfl⟩
 rw [FW] at lS ⊢
 clear FW
 have O7 := lS.out.z
 obtain ⟨g0, g1, g2⟩ := lS.out.gb
 go_wp2_with ((with_reducible show wpList _ _ _ (⟨some 74, _, _, _, _, _⟩ :: _) _ _); refine wpList_load_row rfl 27 _ rfl (w.heap.size + 1) rfl _ _ _ _ lS.out.d Tryz.underlying27 rfl (aj hl.out) ?_)
 clear g0 g1 g2
 refine (pR h hl tL c1 zf Q (by omega) (by omega) m1 (by omega) _ (aa (hd.out.below lS.out.b))).mono ?_
 intro e w6 hL
 unfold rD at hL
 rw [if_neg (by rw [hst.out]; decide)] at hL
 obtain ⟨v, rfl, Ji, hb6⟩ := hL
 rw [hc2.out]
 have Gr := aa Ji
 clear Ji
 have I1 := aa (lS.out.below hb6)
 clear hb6 lS
 go_upto_region 10 with ((with_reducible show wpList _ _ _ (⟨none, _, _, _, _, _⟩ :: _) _ _); refine wpList_store_row rfl 27 _ _ rfl (w.heap.size + 1) (aC h c2) rfl rfl _ _ I1.out.d (aj hl.out) (dK hl.out hl.out) (aF _ _) ?_)
 have IZ : Hid (iD w P Q G h c2 (w6.setRow (w.heap.size + 1) (aC h c2))) := aa I1.out.put
 have Ju : Hid (aT (w6.setRow (w.heap.size + 1) (aC h c2)) (w.heap.size + 4) v (gL h Q c1 m1)) := aa (World.ownsRow.kept (aT.mono Gr.out O7) (gz _ _ _) (Or.inr (fun e => by have := (World.ownsRow.lt (aT.mono Gr.out O7) _ e).1; omega)))
 clear Gr
 clear I1
 obtain ⟨w7, hw7⟩ : ∃ u, w6.setRow (w.heap.size + 1) (aC h c2) = u := ⟨_, rfl⟩
 rw [hw7] at IZ Ju ⊢
 clear hw7
 obtain ⟨rest, hrest⟩ : ∃ r, gL h Q c1 m1 = r := ⟨_, rfl⟩
 rw [hrest] at Ju HF wW
 have IJ := aa hrest
 have Gv : Hid ((x0 :: rest).length = m1 + 1) := aa (by rw [List.length_cons, wW.out])
 have La : Hid (w7.ownsRow (w.heap.size + 4) 3 1 v m1 (rest.map (Value.int .i64))) := aa (by have h2 := Ju.out; unfold aT at h2; rwa [wW.out] at h2)
 clear hrest Ju
 have hrow : (w7.alloc (.cells #[.int .i64 x0] 3)).ownsRow w7.heap.size 3 1 (.slice (some ⟨w7.heap.size, 0, none⟩) 1 1) 1 [.int .i64 x0] := ⟨rfl, Or.inr ⟨w7.heap.size, 1, #[.int .i64 x0], rfl, Nat.le_refl _, heap_alloc_new _ _, Nat.le_refl _, by unfold maxLen; decide, rfl, rfl⟩⟩
 go_upto_region 13 with (at_builtin; refine iP rfl _ _ 30 rfl w7.heap.size 3 i0 (.int .i64 0) 1 8 Tryz.underlying30 hi hz0 hz1 hz2 rfl (by decide) (.slice (some ⟨w7.heap.size, 0, none⟩) 1 1) 1 [.int .i64 x0] rfl hrow (w.heap.size + 4) v m1 (rest.map (Value.int .i64)) rfl (La.out.alloc _) (ints_oneCell .i64 rest) (by unfold maxLen; omega) (by omega) (by simp) ?_; intro vf w8 F4 BX)
 have PL : Below w7.heap.size w7 w8 := ((Below.refl w7.heap.size w7).alloc (Nat.le_refl _) (.cells #[.int .i64 x0] 3)).grown BX (by simp) (fun j hj => by cases hj; exact Nat.le_refl _)
 have BU : w8.ownsRow w7.heap.size 3 1 vf (m1 + 1) ((x0 :: rest).map (Value.int .i64)) := by rw [Nat.add_comm m1 1]; exact F4
 obtain ⟨F, cf, QZ, hcf, hfl, Jf, PE⟩ := mX BU
 subst QZ
 have Lf := aa (IZ.out.below PL)
 have Gn := aa Jf
 have Qn := aa PE
 clear PL F4 BU BX hrow La IZ Jf PE hfl
 go_upto_region 14 with ((with_reducible show wpList _ _ _ (⟨none, _, _, _, _, _⟩ :: _) _ _); refine wpList_store_row rfl 32 _ _ rfl w8.heap.size (oq ((m1 + 1 : Nat) : Int) (.slice none 0 0) (.slice none 0 0)) rfl rfl _ _ (heap_alloc_new _ _) aU rfl (dP _ rfl rfl) ?_)
 rw [World.setRow_alloc_new]
 try simp only [Act.put]
 have LQ : bE (w8.alloc (.cells (oq ((m1 + 1 : Nat) : Int) (.slice none 0 0) (.slice none 0 0)) 32)) w8.heap.size ((m1 + 1 : Nat) : Int) (.slice none 0 0) (.slice none 0 0) := heap_alloc_new _ _
 have zU := af w8 (.cells (oq ((m1 + 1 : Nat) : Int) (.slice none 0 0) (.slice none 0 0)) 32)
 have Dl : (w8.alloc (.cells (oq ((m1 + 1 : Nat) : Int) (.slice none 0 0) (.slice none 0 0)) 32)).heap.size = w8.heap.size + 1 := by simp
 obtain ⟨W9, Pn⟩ : ∃ u, w8.alloc (.cells (oq ((m1 + 1 : Nat) : Int) (.slice none 0 0) (.slice none 0 0)) 32) = u := ⟨_, rfl⟩
 rw [Pn] at LQ zU Dl ⊢
 have Gt := aa (Lf.out.below zU)
 have Qp := aa (Gn.out.below zU)
 have Ia := Lf.out.z
 obtain ⟨bt, hbt⟩ : ∃ b, w8.heap.size = b := ⟨_, rfl⟩
 have MM : Hid (∀ g o, F = some ⟨g, o, none⟩ → g < bt) := aa (fun g o e => by have := (Qn.out g o e).2; omega)
 rw [hbt] at LQ Dl Ia ⊢
 have Mo := aa LQ
 have wV := aa Dl
 clear LQ zU Pn hbt Dl Lf Gn Qn
 go_wp2
 go_loopw [100] (fun i u => ∃ (k : Nat) (vc : Value), k ≤ m1 + 1 ∧ i = .int .i64 k ∧ Hid (bE u bt ((m1 + 1 : Nat) : Int) vc (.slice none 0 0)) ∧ Hid (u.ownsRow (bt + 1) 3 1 vc k (((kR P Q G (x0 :: rest)).take k).map (Value.int .i64))) ∧ Hid (W9.grownBy u (some bt))) (fun i _ => m1 + 1 - (intOf i).toNat)
 case atStart => exact ⟨0, _, by omega, rfl, Mo, aa (jF _ _), aa (aA (Below.refl _ _) _)⟩
 case round =>
  obtain ⟨k, vc, hk, rfl, HU, HO, uD⟩ := hrel
  have zK := aa (Gt.out.grown uD.out Ia)
  have zH := aa (hv.out.below zK.out.b)
  have hfr := Ay Qp.out uD.out MM.out (by have := wV.out; omega)
  by_cases hlt : k < m1 + 1
  ·
   obtain ⟨b, o, hA, hi9⟩ := hfr k (by rw [Gv.out]; exact hlt)
   subst hA
   obtain ⟨x1, x2⟩ := cK HF.out (k := k) (by rw [Gv.out]; exact hlt)
   have IC := aa (Co (P := P) (Q := Q) (G := G) (f := x0 :: rest) (k := k) (by rw [Gv.out]; exact hlt))
   obtain ⟨x, hx⟩ : ∃ x, (x0 :: rest).getD k 0 = x := ⟨_, rfl⟩
   rw [hx] at hi9 x1 x2 IC
   obtain ⟨p, hp⟩ : ∃ p, pw G (x % Q) P = p := ⟨_, rfl⟩
   rw [hp] at IC
   have CX := aa hp
   obtain ⟨g0, g1, g2⟩ := zK.out.gb
   clear hx hp hfr
   go_wp2_with fail
   clear g0 g1 g2 hi9
   refine (mq P Q G G x p Qt CX (by omega) (by omega) _ zH).mono ?_
   rintro e w1 ⟨rfl, hb1⟩
   have Jn := aa (HU.out.below hb1)
   have Dv := aa (own_below HO.out hb1)
   have Gu := aa (bf uD.out (aA hb1 _))
   have hs1 := Jn.out.lt
   have Ni : vc.ownBlock ≠ some bt := fun e => by have := (World.ownsRow.lt Dv.out _ e).1; omega
   obtain ⟨c5, f5⟩ := Jn.out.c1
   clear hb1 HU HO uD zK zH
   go_wp2_with (at_builtin; refine _root_.Go.wpList_append_lies _ rfl _ _ 30 rfl (bt + 1) 3 i0 (.int .i64 0) 1 8 Tryz.underlying30 hi hz0 hz1 hz2 rfl (by decide) _ _ _ rfl (Dv.out.alloc _) ⟨w1.heap.size, 0, none⟩ 1 1 [.int .i64 p] rfl rfl (cell_one_new _ _ _) (ints_oneCell .i64 [p]) (by decide) (by unfold maxLen; omega) (by omega) (by simp; omega) (w1.heap.size + 1) (by simp) ?_; intro gk ck w5 hown5 gW Ic Kl; have Ig := (Jn.out.below (af w1 (.cells #[.int .i64 p] 3))).grown gW Ni; obtain ⟨c6, f6⟩ := Ig.c1)
   obtain ⟨v', hv'⟩ : ∃ x, Value.slice (some ⟨gk, 0, none⟩) (k + 1) ck = x := ⟨_, rfl⟩
   rw [hv'] at hown5 ⊢
   have NY := aa (Ig.set1 v')
   have Gr : Hid ((w5.setCell ⟨bt, 1, none⟩ v').ownsRow (bt + 1) 3 1 v' (k + 1) (((kR P Q G (x0 :: rest)).take (k + 1)).map (Value.int .i64))) := aa (by rw [IC.out, List.map_append]; exact mW hown5 (cZ bt 1 v') (Nat.lt_succ_self _))
   have OD : Hid (W9.grownBy (w5.setCell ⟨bt, 1, none⟩ v') (some bt)) := aa (bf (qQ (bf Gu.out (aA (af w1 (.cells #[.int .i64 p] 3)) _)) gW (fun j hj => by have := (World.ownsRow.lt Dv.out _ hj).1; have := wV.out; omega)) (cZ bt 1 v'))
   clear hown5 gW Ig c5 f5 c6 f6 hv'
   go_roundw
   case rel => exact ⟨k + 1, v', by omega, by go_num, NY, Gr, OD⟩
   case measure => simp [intOf]; omega
  ·
   obtain rfl : k = m1 + 1 := by omega
   have hO := HO.out
   rw [List.take_of_length_le (by rw [kR, List.length_map, Gv.out]; exact Nat.le_refl _)] at hO
   obtain ⟨C, cC, Q3, hcC, Rp, Pq, PG⟩ := mX hO
   subst Q3
   have Jq := aa Pq
   have Li := aa PG
   have Qo := aa hfr
   obtain ⟨g0, g1, g2⟩ := zK.out.gb
   clear hO HO Pq PG hfr hlt hk uD Rp hcC
   go_wp2_with fail
   clear g0 g1 g2
   refine (Bt Q F (x0 :: rest) (m1 + 1) cf (m1 + 1) (by omega) Gq Gv hcf (Nat.le_refl _) (by omega) HF _ zH Qo).mono ?_
   rintro e wA ⟨A2, cA, L, rfl, hL, Pw, PI, qP⟩
   have Te := aa (zK.out.below qP)
   have KQ := aa (HU.out.below qP)
   have Qu := aa (Jq.out.below qP)
   have OJ : Hid (∀ g o, C = some ⟨g, o, none⟩ → bt < g ∧ g < wA.heap.size) := aa (fun g o e => by have h1 := Li.out g o e; have := qP.size; omega)
   have Qf := aa hL
   have IL := aa Pw
   have OI := aa PI
   obtain ⟨lL, H7⟩ : ∃ l, L.length = l := ⟨_, rfl⟩
   rw [H7]
   have rF := aa H7
   clear hL Pw PI H7 zK HU Jq Li zH Qo qP Gt Qp MM Mo wV
   go_wp2
   go_loopw [23, 24] (fun vS i u => ∃ (k : Nat) (vK : Value), k ≤ nn ∧ i = .int .i64 ((k : Int) + 1) ∧ Hid (bE u bt ((m1 + 1 : Nat) : Int) (.slice C (m1 + 1) cC) vK) ∧ Hid (u.ownsRow wA.heap.size 3 1 vK k ((rQ P Q G (x0 :: rest) k).map (Value.int .i64))) ∧ Hid (u.ownsRow wA.heap.size 39 2 vS k (uI (ko Q (x0 :: rest) k))) ∧ Hid (∀ j, vK.ownBlock = some j → vS.ownBlock ≠ some j) ∧ Hid (wA.grownBy u (some bt))) (fun _ i _ => nn + 1 - (intOf i).toNat)
   case atStart => exact ⟨0, _, by omega, rfl, KQ, aa (jF _ _), aa (World.ownsRow_nil _ _ _ _), aa (fun j hj => by cases hj), aa (aA (Below.refl _ _) _)⟩
   case round =>
    obtain ⟨k, vK, hk, rfl, HU, HK, HS, HN, uD⟩ := hrel
    have zK := aa (Te.out.grown uD.out Ia)
    have zH := aa (hv.out.below zK.out.b)
    by_cases hlt : k < nn
    ·
     have d1 : decide ((k : Int) + 1 ≤ (nn : Int)) = true := by simp; omega
     have Qd := aa (Aw Qf.out uD.out KQ.out HU.out (lF _ _ _) (lF _ _ _))
     have OE : Hid (pv L ((k : Int) + 1) % Q = xZ Q (x0 :: rest) k) := aa (E5 (OI.out _))
     obtain ⟨V, hV⟩ : ∃ z, xZ Q (x0 :: rest) k = z := ⟨_, rfl⟩
     have V0 : 0 ≤ V := by rw [← hV]; exact Int.emod_nonneg _ (by omega)
     have V1 : V < Q := by rw [← hV]; exact Int.emod_lt_of_pos _ (by omega)
     obtain ⟨p, hp⟩ : ∃ p, pw G (V % Q) P = p := ⟨_, rfl⟩
     have IC : Hid (rQ P Q G (x0 :: rest) (k + 1) = rQ P Q G (x0 :: rest) k ++ [p]) := aa (by rw [Cn, hV, hp])
     have N7 : Hid (ko Q (x0 :: rest) (k + 1) = ko Q (x0 :: rest) k ++ [((k : Int) + 1, V)]) := aa (by rw [Cm, hV])
     rw [hV] at OE
     have CX := aa hp
     have TR := q1 k (by omega)
     obtain ⟨g0, g1, g2⟩ := zK.out.gb
     clear hV hp
     go_wp2_with fail
     clear g0 g1 g2
     refine (sO Q A2 L lL cA (m1 + 1) ((k : Int) + 1) (by omega) Gq rF IL (by omega) (by omega) (by omega) _ zH Qd).mono ?_
     rintro e w1 ⟨rfl, hb1⟩
     rw [OE.out]
     have HI1 := aa (zK.out.below hb1)
     have Jn := aa (HU.out.below hb1)
     have Qj := aa (own_below HK.out hb1)
     have yE := aa (own_below HS.out hb1)
     have Gu := aa (bf uD.out (aA hb1 _))
     obtain ⟨g0, g1, g2⟩ := HI1.out.gb
     clear hb1 HU HK HS uD zK zH Qd OE
     go_wp2_with fail
     clear g0 g1 g2
     refine (mq P Q G G V p Qt CX (by omega) (by omega) _ (aa (hv.out.below HI1.out.b))).mono ?_
     rintro e w2 ⟨rfl, hb2⟩
     have Ms := aa (Jn.out.below hb2)
     have zY := aa (own_below Qj.out hb2)
     have HS2 := aa (own_below yE.out hb2)
     have HG2 := aa (bf Gu.out (aA hb2 _))
     have hs2 := Ms.out.lt
     have hs3 := HG2.out.size
     have qP := KQ.out.lt
     have Kj : vK.ownBlock ≠ some bt := fun e => by have := (World.ownsRow.lt zY.out _ e).1; omega
     obtain ⟨c5, f5⟩ := Ms.out.c2
     clear hb2 Jn Qj yE Gu HI1
     go_upto_region 32 with (at_builtin; refine _root_.Go.wpList_append_lies _ rfl _ _ 30 rfl wA.heap.size 3 i0 (.int .i64 0) 1 8 Tryz.underlying30 hi hz0 hz1 hz2 rfl (by decide) _ _ _ rfl (zY.out.alloc _) ⟨w2.heap.size, 0, none⟩ 1 1 [.int .i64 p] rfl rfl (cell_one_new _ _ _) (ints_oneCell .i64 [p]) (by decide) (by unfold maxLen; omega) (by omega) (by simp; omega) (w2.heap.size + 1) (by simp) ?_; intro gk ck w5 hown5 gW Ic Kl; have Ig := (Ms.out.below (af w2 (.cells #[.int .i64 p] 3))).grown gW Kj; obtain ⟨c6, f6⟩ := Ig.c2)
     obtain ⟨vN, Na⟩ : ∃ x, Value.slice (some ⟨gk, 0, none⟩) (k + 1) ck = x := ⟨_, rfl⟩
     have Py : vN.ownBlock = some gk := by rw [← Na]; rfl
     rw [Na] at hown5 ⊢
     have NC := Ig.set2 vN
     have Ji : (w5.setCell ⟨bt, 2, none⟩ vN).ownsRow wA.heap.size 3 1 vN (k + 1) ((rQ P Q G (x0 :: rest) (k + 1)).map (Value.int .i64)) := by rw [IC.out, List.map_append]; exact mW hown5 (cZ bt 2 vN) (by omega)
     have LX : wA.grownBy (w5.setCell ⟨bt, 2, none⟩ vN) (some bt) := bf (qQ (bf HG2.out (aA (af w2 (.cells #[.int .i64 p] 3)) _)) gW (fun j hj => (World.ownsRow.lt zY.out _ hj).1)) (cZ bt 2 vN)
     have NF : (w5.setCell ⟨bt, 2, none⟩ vN).ownsRow wA.heap.size 39 2 u23 k (uI (ko Q (x0 :: rest) k)) := mW (pI (HS2.out.alloc _) gW (fun j hj e => HN.out j e hj)) (cZ bt 2 vN) (by omega)
     have Pz : ∀ j, vN.ownBlock = some j → u23.ownBlock ≠ some j := fun j hj e => by
      rw [Py] at hj
      cases hj
      rcases Ic with h1 | h1
      · exact HN.out _ h1 e
      ·
       have := (World.ownsRow.lt HS2.out _ e).2
       omega
     obtain ⟨wB, O9⟩ : ∃ u, w5.setCell ⟨bt, 2, none⟩ vN = u := ⟨_, rfl⟩
     rw [O9] at NC Ji LX NF ⊢
     have NY := aa NC
     have Qi := aa Ji
     have OD := aa LX
     have K3 := aa NF
     have Qb := aa Pz
     have hs6 := LX.size
     clear hown5 gW Ig c5 f5 c6 f6 NC Ji LX NF Pz O9 Ic Kl Na Py HN Ms zY HS2 HG2 hs2 hs3 Kj
     go_wp2_with (at_builtin; refine _root_.Go.wpList_append_lies _ rfl _ _ 33 rfl wA.heap.size 39 i1 (.agg #[.int .i64 0, .int .i64 0]) 2 16 Tryz.underlying33 hi1 hy0 hy1 hy2 rfl (by decide) _ _ _ rfl (K3.out.alloc _) ⟨wB.heap.size, 0, none⟩ 1 1 [.int .i64 ((k : Int) + 1), .int .i64 V] rfl rfl (World.news_of_block (cs := #[.int .i64 ((k : Int) + 1), .int .i64 V]) (t := 39) (fr := (0, 0)) (heap_alloc_new wB _)) (by simp [Value.oneCell']) (by decide) (by unfold maxLen; omega) (by omega) (by simp; omega) (wB.heap.size + 1) (by simp) ?_; intro gs cs w9 tK jc EN H6)
     have Ki : u23.ownBlock ≠ some bt := fun e => by have := (World.ownsRow.lt K3.out _ e).1; omega
     have Mo := aa ((NY.out.below (af wB (.cells #[.int .i64 ((k : Int) + 1), .int .i64 V] 39))).grown jc Ki)
     have Oz : Hid (w9.ownsRow wA.heap.size 3 1 vN (k + 1) ((rQ P Q G (x0 :: rest) (k + 1)).map (Value.int .i64))) := aa (pI (Qi.out.alloc _) jc Qb.out)
     have wV : Hid (w9.ownsRow wA.heap.size 39 2 (.slice (some ⟨gs, 0, none⟩) (k + 1) cs) (k + 1) (uI (ko Q (x0 :: rest) (k + 1)))) := aa (by rw [N7.out, xB]; exact tK)
     have SB : Hid (∀ j, vN.ownBlock = some j → (Value.slice (some ⟨gs, 0, none⟩) (k + 1) cs).ownBlock ≠ some j) := aa (fun j hj e => by
      cases e
      rcases EN with h1 | h1
      · exact Qb.out _ hj h1
      ·
       have h3 : gs < wB.heap.size := (World.ownsRow.lt Qi.out _ hj).2
       omega)
     have Tf : Hid (wA.grownBy w9 (some bt)) := aa (qQ (bf OD.out (aA (af wB (.cells #[.int .i64 ((k : Int) + 1), .int .i64 V] 39)) _)) jc (fun j hj => (World.ownsRow.lt K3.out _ hj).1))
     clear tK jc EN H6 Ki
     go_roundw
     case rel => exact ⟨k + 1, vN, by omega, by go_num, Mo, Oz, wV, SB, Tf⟩
     case measure => simp [intOf]; omega
    ·
     obtain rfl : k = nn := by omega
     have d1 : decide ((k : Int) + 1 ≤ (k : Int)) = false := by simp; omega
     obtain ⟨B, cB, hvk, hcB, Ro, Pp, hKb⟩ := mX HK.out
     subst hvk
     obtain ⟨S, cS, hvs, ND, hSS, hSb⟩ := mV HS.out
     subst hvs
     have CV := aa Pp
     have II := aa hSS
     have qP := KQ.out.lt
     have KZ := aa (yL Qu.out uD.out (fun g o e => by have := (OJ.out g o e).1; omega))
     have hkb : ∀ g o, B = some ⟨g, o, none⟩ → w.heap.size + 4 ≤ g := fun g o e => by have := (hKb g o e).1; omega
     have hsb : ∀ g o, S = some ⟨g, o, none⟩ → w.heap.size + 4 ≤ g := fun g o e => by have := (hSb g o e).1; omega
     have hcb : ∀ g o, C = some ⟨g, o, none⟩ → w.heap.size + 4 ≤ g := fun g o e => by have := (OJ.out g o e).1; omega
     have Qh := aa hkb
     have PZ := aa hsb
     have Li := aa hcb
     clear Pp hSS hKb hSb hkb hsb hcb Ro ND hcB HK HS HN Qf KQ Qu OJ hlt hk
     go_wp2
     have IY := aa (zK.out.below (Below.refl wr.heap.size wr).drew)
     have NW := aa (HU.out.below (Below.refl wr.heap.size wr).drew)
     have SY := aa (CV.out.below (Below.refl wr.heap.size wr).drew)
     have R8 := aa (II.out.below (Below.refl wr.heap.size wr).drew)
     have Tk := aa (KZ.out.below (Below.refl wr.heap.size wr).drew)
     clear zK HU CV II KZ uD zH
     have Qr : Hid (aG (wr.drew.setRow (w.heap.size + 2) (oq ((m1 + 1 : Nat) : Int) (.slice C (m1 + 1) cC) (.slice B k cB))) (w.heap.size + 3) (aH 32) 0) := aa (IY.out.e.row (by omega))
     have Js : Hid (bE ((wr.drew.setRow (w.heap.size + 2) (oq ((m1 + 1 : Nat) : Int) (.slice C (m1 + 1) cC) (.slice B k cB))).setRow (w.heap.size + 3) (aC h c2)) (w.heap.size + 2) ((m1 + 1 : Nat) : Int) (.slice C (m1 + 1) cC) (.slice B k cB)) := aa (IY.out.p.setRow.row (by omega))
     have Dc : Hid (aG ((wr.drew.setRow (w.heap.size + 2) (oq ((m1 + 1 : Nat) : Int) (.slice C (m1 + 1) cC) (.slice B k cB))).setRow (w.heap.size + 3) (aC h c2)) (w.heap.size + 3) h c2) := aa Qr.out.setRow
     have og : Hid (Below w.heap.size w ((wr.drew.setRow (w.heap.size + 2) (oq ((m1 + 1 : Nat) : Int) (.slice C (m1 + 1) cC) (.slice B k cB))).setRow (w.heap.size + 3) (aC h c2))) := aa (ak (ak IY.out.b (by omega)) (by omega))
     have Tm : Hid (Sl ((wr.drew.setRow (w.heap.size + 2) (oq ((m1 + 1 : Nat) : Int) (.slice C (m1 + 1) cC) (.slice B k cB))).setRow (w.heap.size + 3) (aC h c2)) C (kR P Q G (x0 :: rest))) := aa (qp (qp Tk.out (fun g o e => by have := Li.out g o e; omega)) (fun g o e => by have := Li.out g o e; omega))
     have S_ : Hid (Sl ((wr.drew.setRow (w.heap.size + 2) (oq ((m1 + 1 : Nat) : Int) (.slice C (m1 + 1) cC) (.slice B k cB))).setRow (w.heap.size + 3) (aC h c2)) B (rQ P Q G (x0 :: rest) k)) := aa (qp (qp SY.out (fun g o e => by have := Qh.out g o e; omega)) (fun g o e => by have := Qh.out g o e; omega))
     have Gn : Hid (Sh ((wr.drew.setRow (w.heap.size + 2) (oq ((m1 + 1 : Nat) : Int) (.slice C (m1 + 1) cC) (.slice B k cB))).setRow (w.heap.size + 3) (aC h c2)) S (ko Q (x0 :: rest) k)) := aa (AA (AA R8.out (fun g o e => by have := PZ.out g o e; omega)) (fun g o e => by have := PZ.out g o e; omega))
     refine dR (S := fun w' => bE w' bt ((m1 + 1 : Nat) : Int) (.slice C (m1 + 1) cC) (.slice B k cB) ∧ aG w' (w.heap.size + 1) h c2) (E := [5, 6]) (by kernel_rfl) (by exact ⟨NW.out, IY.out.d⟩) (fun hHeld => ?_)
     refine O1 0 (.agg (oq ((m1 + 1 : Nat) : Int) (.slice C (m1 + 1) cC) (.slice B k cB))) rfl (mH 32 _ rfl bt rfl _ _ _ _ (fun _ h => h.1) Tryz.underlying32 rfl aU) ?_
     refine o7 1 ?_
     refine O1 2 (.agg (aC h c2)) rfl (mH 27 _ rfl (w.heap.size + 1) rfl _ _ _ _ (fun _ h => h.2) Tryz.underlying27 rfl (aj hl.out)) ?_
     refine mK 3 fun K hK => ?_
     rw [show (if Region.wanted _ _ = true then _ else _ : Prop) = _ from if_pos rfl]
     refine wp_store_row 32 _ _ rfl (w.heap.size + 2) (oq ((m1 + 1 : Nat) : Int) (.slice C (m1 + 1) cC) (.slice B k cB)) rfl rfl 32 _ IY.out.p aU rfl (dP _ rfl rfl) ?_
     refine hK.out _ _ ?_ (fun hHeld => ?_)
     · exact ⟨NW.out.row (by omega), IY.out.d.row (by omega)⟩
     clear hK K
     try simp only [qq]
     refine mK 4 fun K hK => ?_
     go_simp
     refine hK.out _ _ ?_ (fun hHeld => ?_)
     · exact ⟨NW.out.row (by omega), IY.out.d.row (by omega)⟩
     clear hK K
     try simp only [qq]
     refine Jb 5 fun K hK => ?_
     rw [show (if Region.wanted _ _ = true then _ else _ : Prop) = _ from if_pos rfl]
     refine wp_store_row 27 _ _ rfl (w.heap.size + 3) (aC h c2) rfl rfl 27 _ Qr.out (aj hl.out) (dK rfl hl.out) (aF _ _) ?_
     refine hK.out _ _ ?_
     clear hK K
     try simp only [qq]
     refine Jb 6 fun K hK => ?_
     go_simp
     refine hK.out _ _ ?_
     clear hK K
     try simp only [qq]
     refine Aj ?_
     go_wp2
     exact bodyPost_ret (v := .tuple #[o6 ((m1 + 1 : Nat) : Int) C (m1 + 1) cC B k cB, .slice S k cS, .agg (aC h c2), .int .i64 0]) (bD (p := 8) (q := 9) (r := 10) (s := 11) (ty := 32) (ty2 := 27) rfl _ _ ⟨w.heap.size + 2, 0, none⟩ ⟨w.heap.size + 3, 0, none⟩ _ _ _ _ rfl rfl rfl rfl (run_loadVar_row _ _ _ _ _ _ _ Js.out Tryz.underlying32 rfl aU) (run_loadVar_row _ _ _ _ _ _ _ Dc.out Tryz.underlying27 rfl (aj hl.out))) rfl (by rw [IJ.out]; exact ⟨C, cC, B, cB, S, cS, rfl, Tm.out, S_.out, Gn.out, og.out⟩)
def Jl (P Q G need n : Int) (h : List Int) (c : Int) : Bool := au P Q G && (oN c && (ni Q need n && (!(pJ h Q 256 c).2.2 && !(iU h Q (pJ h Q 256 c).2.1 (need.toNat - 1)).2)))
def Lu (P Q G need n : Int) (h : List Int) (c : Int) (w : World) (e : Ending) (w' : World) : Prop :=
 (Jl P Q G need n h c = false ∧ ∃ x, x ≠ 0 ∧ e = .returned (zn x) ∧ Below w.heap.size w w') ∨
 (∃ (m1 nn : Nat) (f : List Int) (c2 : Int), au P Q G = true ∧ need = ((m1 + 1 : Nat) : Int) ∧ n = (nn : Int) ∧ f.length = m1 + 1 ∧ f.all (aQ Q) = true ∧ 0 < f.getD 0 0 ∧ m1 + 1 ≤ nn ∧ nn ≤ 8 ∧ (nn : Int) < Q ∧ Lt P Q G f (m1 + 1) nn h c2 w e w')
theorem Cu (P Q G need n : Int) (h : List Int) (c : Int) (hl : Hid (h.length = 32)) (tL : Hid (ax h = true)) (hQ : Q < 9223372036854775808) (w : World) (hv : Hid (Vars w)) (hd : Hid (dx w)) :
  Calls Tryz.prog 7 #[gv P Q G, .int .i64 need, .int .i64 n, .agg (aC h c)] w (Lu P Q G need n h c w) := by
 cases jR : au P Q G with
 | false => exact (Ip P Q G need n h c hl hQ (aa jR) w hv hd).mono (fun e w' hh => .inl ⟨by simp [Jl, jR], 1, by decide, hh⟩)
 | true =>
  cases hdr : oN c with
  | false => exact (Io P Q G need n h c hl hQ (aa jR) (aa hdr) w hv hd).mono (fun e w' hh => .inl ⟨by simp [Jl, hdr], 1, by decide, hh⟩)
  | true =>
   cases hnu : ni Q need n with
   | false => exact (Im P Q G need n h c hl hQ (aa jR) (aa hdr) (aa hnu) w hv hd).mono (fun e w' hh => .inl ⟨by simp [Jl, hnu], 2, by decide, hh⟩)
   | true =>
    obtain ⟨x0, c1, b, hnz⟩ : ∃ x0 c1 b, pJ h Q 256 c = (x0, c1, b) := ⟨_, _, _, rfl⟩
    obtain ⟨MX, vp, MW, MU⟩ := aD jR
    cases b with
    | true => exact (Il P Q G need n h c hl hQ (aa jR) (aa hdr) (aa hnu) tL x0 c1 ⟨hnz⟩ w hv hd).mono (fun e w' hh => .inl ⟨by simp [Jl, hnz], 5, by decide, hh⟩)
    | false =>
     obtain ⟨m, nn, rfl, rfl, n1, n2, n3, n4⟩ := ng hnu
     obtain ⟨m1, rfl⟩ : ∃ m1, m = m1 + 1 := ⟨m - 1, by omega⟩
     obtain ⟨hc0, hc1⟩ : 0 ≤ c ∧ c ≤ 1099511627776 := by have h2 := hdr; simp [oN] at h2; exact h2
     have h4 := vz (h := h) (q := Q) (by omega) 256 c hc1
     rw [hnz] at h4
     obtain ⟨y1, y2, y3, y4⟩ := h4 rfl
     dsimp only at y1 y2 y3 y4
     have zf : oN c1 = true := by simp [oN]; omega
     cases hst : (iU h Q c1 m1).2 with
     | true => exact (Ik P Q G m1 nn h c hl hQ (aa jR) (aa hdr) (aa hnu) (by omega) tL x0 c1 ⟨hnz⟩ (aa zf) (aa hst) w hv hd).mono (fun e w' hh => .inl ⟨by
       have e1 : (((m1 + 1 : Nat) : Int).toNat - 1) = m1 := by omega
       rw [Jl, hnz, e1, hst]; simp, 5, by decide, hh⟩)
     | false =>
      refine (EZ P Q G m1 nn h c hl hQ (aa jR) (aa hdr) (aa hnu) (by omega) tL x0 c1 ⟨hnz⟩ (aa zf) (iU h Q c1 m1).1 (aa hst) (aa rfl) w hv hd).mono (fun e w' hh => .inr ⟨m1, nn, x0 :: gL h Q c1 m1, _, jR, rfl, rfl, by rw [List.length_cons, nD], ?_, y1, n2, n3, n4, hh⟩)
      rw [List.all_cons, xP (by omega), Bool.and_true]
      simp [aQ]; omega
theorem five (w : World) (o1 o2 o3 o4 o5 : Obj) : let W := ((((w.alloc o1).alloc o2).alloc o3).alloc o4).alloc o5
  W.heap[w.heap.size]? = some o1 ∧ W.heap[w.heap.size + 1]? = some o2 ∧ W.heap[w.heap.size + 1 + 1]? = some o3 ∧ W.heap[w.heap.size + 1 + 1 + 1]? = some o4 ∧ W.heap[w.heap.size + 1 + 1 + 1 + 1]? = some o5 ∧ Below w.heap.size w W := by
 have e1 : (w.alloc o1).heap.size = w.heap.size + 1 := by simp
 have e2 : ((w.alloc o1).alloc o2).heap.size = w.heap.size + 1 + 1 := by simp
 have e3 : (((w.alloc o1).alloc o2).alloc o3).heap.size = w.heap.size + 1 + 1 + 1 := by simp
 have e4 : ((((w.alloc o1).alloc o2).alloc o3).alloc o4).heap.size = w.heap.size + 1 + 1 + 1 + 1 := by simp
 have b1 := af (w.alloc o1) o2
 have b2 := ag b1 (af _ o3)
 have b3 := ag b2 (af _ o4)
 have b4 := ag b3 (af _ o5)
 have c2 := ag (ag (af ((w.alloc o1).alloc o2) o3) (af _ o4)) (af _ o5)
 have c3 := ag (af (((w.alloc o1).alloc o2).alloc o3) o4) (af _ o5)
 have c4 := af ((((w.alloc o1).alloc o2).alloc o3).alloc o4) o5
 refine ⟨(b4.block _ (by omega)).trans (heap_alloc_new _ _), (c2.block _ (by omega)).trans ?_, (c3.block _ (by omega)).trans ?_, (c4.block _ (by omega)).trans ?_, ?_, ag (af w o1) b4⟩
 · rw [← e1]; exact heap_alloc_new _ _
 · rw [← e2]; exact heap_alloc_new _ _
 · rw [← e3]; exact heap_alloc_new _ _
 · rw [← e4]; exact heap_alloc_new _ _
theorem Az {w : World} {g : Nat} {cs : Array Value} {T : TypeId} {xs : List Int} (h : w.heap[g]? = some (.cells cs T)) (hc : ∀ k, k < xs.length → cs[k]? = some (.int .i64 (xs.getD k 0))) : Sl w (some ⟨g, 0, none⟩) xs :=
 fun k hk => ⟨g, 0, rfl, by rw [Nat.zero_add, ai h]; exact hc k hk⟩
theorem Ak (P Q G need : Int) (Cs : Option Addr) (cs : List Int) (cn cc : Nat) (Ks : Option Addr) (ks : List Int) (kn kc : Nat) (hcn : Hid (cs.length = cn)) (hkn : Hid (ks.length = kn)) (ix v : Int) (ht : Hid (Ah P Q G need cs ks = true)) (r : Bool) (hr : Hid (gQ P Q G ks ix v = r)) (hQ : Q < 9223372036854775808) (w : World) (hv : Hid (Vars w)) (hC : Hid (Sl w Cs cs)) (hK : Hid (Sl w Ks ks)) :
  Calls Tryz.prog 52 #[gv P Q G, o6 need Cs cn cc Ks kn kc, JV ix v] w (Rt w (.bool r)) := by
 obtain ⟨eu, n1, n2, n3, n4, n5, n6⟩ := kD ht.out hcn.out hkn.out
 obtain ⟨w0, HW, bO, kC⟩ := Lv (aM P Q G) wM (r_ need Cs cn cc Ks kn kc) wM (kg ix v) Dm w
 have kV := mkV bO hv
 have oM := mkS bO hC
 have rP := mkS bO hK
 have aN := kr w0
 clear hv hC hK
 go_in
 go_wp2_with fail
 rw [HW.out]
 have zc := kC.out _ aN
 go_wp2_with fail
 clear zc
 refine oz kC aN (lV P Q G need Cs cs cn cc Ks ks kn kc hcn hkn true ht hQ _ (kV.out _ aN) (oM.out _ aN) (rP.out _ aN)) fun w1 bW zc => ?_
 go_wp2_with fail
 clear zc
 refine oz kC bW (kH P Q G need Cs cn cc Ks ks kn kc ix v hkn n2 eu r hr _ (kV.out _ bW) (rP.out _ bW)) fun w2 aL zc => ?_
 go_wp2
 go_ret
 exact ⟨rfl, zV bO aL⟩
def KG (w : World) (e : Ending) (w' : World) : Prop := ∃ b1 b2 b3, e = .returned (.tuple #[gv 23 11 4, o6 2 (some ⟨b1, 0, none⟩) 2 2 (some ⟨b2, 0, none⟩) 3 3, .slice (some ⟨b3, 0, none⟩) 3 3]) ∧ Sl w' (some ⟨b1, 0, none⟩) [18, 16] ∧ Sl w' (some ⟨b2, 0, none⟩) [12, 8, 13] ∧ w'.heap[b3]? = some (.cells #[.int .i64 1, .int .i64 5, .int .i64 2, .int .i64 7, .int .i64 3, .int .i64 9] 39) ∧ Below w.heap.size w w'
theorem D6 (w : World) : Calls Tryz.prog 51 #[] w (KG w) := by
 obtain ⟨h0, h1, h2, h3, h4, hb⟩ := five w (aM 23 11 4) (r_ 2 (some ⟨w.heap.size + 1 + 1, 0, none⟩) 2 2 (some ⟨w.heap.size + 1 + 1 + 1, 0, none⟩) 3 3) (.cells #[.int .i64 18, .int .i64 16] 3) (.cells #[.int .i64 12, .int .i64 8, .int .i64 13] 3) (.cells #[.int .i64 1, .int .i64 5, .int .i64 2, .int .i64 7, .int .i64 3, .int .i64 9] 39)
 have c0 := ai h0 0
 have c1 := ai h0 1
 have c2 := ai h0 2
 have d0 := ai h1 0
 have d1 := ai h1 1
 have d2 := ai h1 2
 go_in
 go_wp2
 exact bodyPost_ret (v := .tuple #[gv 23 11 4, o6 2 (some ⟨w.heap.size + 1 + 1, 0, none⟩) 2 2 (some ⟨w.heap.size + 1 + 1 + 1, 0, none⟩) 3 3, .slice (some ⟨w.heap.size + 1 + 1 + 1 + 1, 0, none⟩) 3 3]) (by simp [results, Tryz.results51, go_sem, c0, c1, c2, d0, d1, d2]) rfl
  ⟨_, _, _, rfl, Az h2 (fun k hk => by match k, hk with | 0, _ => rfl | 1, _ => rfl), Az h3 (fun k hk => by match k, hk with | 0, _ => rfl | 1, _ => rfl | 2, _ => rfl), h4, hb⟩
theorem M6 : bI [1, 2] := fun i j hi hj => by
 have h : i < 2 := hi
 obtain rfl : i = 1 := by omega
 obtain rfl : j = 0 := by omega
 decide
theorem xW : Hid (Ah 23 11 4 2 [18, 16] [12, 8, 13] = true) := aa (by kernel_rfl)
theorem Kw : Hid (gQ 23 11 4 [12, 8, 13] 1 5 = true) := aa (by kernel_rfl)
theorem Kv : Hid (gQ 23 11 4 [12, 8, 13] 3 9 = true) := aa (by kernel_rfl)
theorem Gd : lN 23 11 4 2 [12, 8, 13] [(1, 5), (2, 7)] = 0 := by
 rw [lN, if_pos (show ([(1, 5), (2, 7)] : List (Int × Int)).all (fun p => gQ 23 11 4 [12, 8, 13] p.1 p.2) = true by kernel_rfl), if_pos (@decide_eq_true _ (Classical.propDecidable _) (show bI (ixs [(1, 5), (2, 7)]) from M6)), if_neg (by decide)]
theorem JN : rM 11 [1, 2] 0 0 = 2 := by
 rw [rM, show iT 11 [1, 2] 0 0 ([1, 2] : List Int).length = 9 by decide, show iT 11 [1, 2] 0 (([1, 2] : List Int).getD 0 0) ([1, 2] : List Int).length = 10 by decide, jP (x := 10) ⟨by decide, by decide, .inl (by decide)⟩]
 decide
theorem JM : rM 11 [1, 2] 0 1 = 10 := by
 rw [rM, show iT 11 [1, 2] 1 0 ([1, 2] : List Int).length = 10 by decide, show iT 11 [1, 2] 1 (([1, 2] : List Int).getD 1 0) ([1, 2] : List Int).length = 1 by decide, jP (x := 1) ⟨by decide, by decide, .inl (by decide)⟩]
 decide
theorem Ku : sF 23 11 4 2 [12, 8, 13] [(1, 5), (2, 7)] = 3 := by
 rw [sF, Gd, if_pos rfl, show (2 : Int).toNat = 2 from rfl, show ((ixs [(1, 5), (2, 7)]).take 2) = [1, 2] from rfl, show dA [(1, 5), (2, 7)] = [5, 7] from rfl]
 simp only [zP, JN, JM]
 decide
theorem M3 {w : World} {b : Nat} (h : w.heap[b]? = some (.cells #[.int .i64 1, .int .i64 5, .int .i64 2, .int .i64 7, .int .i64 3, .int .i64 9] 39)) : Sh w (some ⟨b, 0, none⟩) [(1, 5), (2, 7)] := fun k hk => by
 match k, hk with
 | 0, _ => exact ⟨b, 0, rfl, ai h 0, ai h 1⟩
 | 1, _ => exact ⟨b, 0, rfl, ai h 2, ai h 3⟩
theorem JX (b1 b2 b3 : Nat) (w : World) (hv : Hid (Vars w)) (hC : Hid (Sl w (some ⟨b1, 0, none⟩) [18, 16])) (hK : Hid (Sl w (some ⟨b2, 0, none⟩) [12, 8, 13])) (hA : Hid (Sh w (some ⟨b3, 0, none⟩) [(1, 5), (2, 7)])) :
  Calls Tryz.prog 10 #[gv 23 11 4, o6 2 (some ⟨b1, 0, none⟩) 2 2 (some ⟨b2, 0, none⟩) 3 3, .slice (some ⟨b3, 0, none⟩) 2 3] w (Rt w (.tuple #[.int .i64 3, .int .i64 0])) := by
 have h := JW 23 11 4 2 (some ⟨b1, 0, none⟩) [18, 16] 2 2 (some ⟨b2, 0, none⟩) [12, 8, 13] 3 3 (aa rfl) (aa rfl) (some ⟨b3, 0, none⟩) [(1, 5), (2, 7)] 2 3 (aa rfl) (by omega) (aa (fun k hk => by
  match k, hk with
  | 0, _ => exact ⟨by decide, by decide⟩
  | 1, _ => exact ⟨by decide, by decide⟩)) xW (by omega) w hv hC hK hA
 rw [show ((2 : Nat) : Int) = 2 from rfl, Gd, Ku] at h
 exact h
theorem yt (w : World) (hv : Hid (Vars w)) :
  Calls Tryz.prog 14 #[] w (Rt w (.bool true)) := by
 obtain ⟨w0, hW⟩ : ∃ W, w = W := ⟨_, rfl⟩
 have bO : Hid (Below w.heap.size w w0) := aa (by rw [← hW]; exact Below.refl _ _)
 have kC := aa (show ∀ u : World, Hid (Below w0.heap.size w0 u) → True from fun _ _ => trivial)
 have kV := aa (show ∀ u : World, Hid (Below w0.heap.size w0 u) → Hid (Vars u) from fun u h => aa ((hv.out.below) (ag bO.out h.out)))
 have aN : Hid (Below w0.heap.size w0 w0) := aa (Below.refl _ _)
 have HW := aa hW
 clear hW hv
 go_in
 go_wp2_with fail
 rw [HW.out]
 have zc := kC.out _ aN
 go_wp2_with fail
 refine (D6 _).mono ?_
 intro e w1 hE
 obtain ⟨b1, b2, b3, rfl, PK, Jj, Pt, hb0⟩ := hE
 have Tp := aa PK
 have Oz := aa Jj
 have wV := aa Pt
 clear PK Jj Pt
 have bW := Fa aN hb0
 clear zc hb0
 have zc := kC.out _ bW
 have FL := kr w1
 have oM := FV (w := w1) (fun u => Sl u (some ⟨b1, 0, none⟩) [18, 16]) Tp.out (·.below)
 have rP := FV (w := w1) (fun u => Sl u (some ⟨b2, 0, none⟩) [12, 8, 13]) Oz.out (·.below)
 have kA := aa (show ∀ u : World, Hid (Below w1.heap.size w1 u) → Hid (Sh u (some ⟨b3, 0, none⟩) [(1, 5), (2, 7)]) from fun u h => aa ((M3 wV.out).below h.out))
 have J6 := aa (show ∀ u : World, Hid (Below w1.heap.size w1 u) → u.cell? ⟨b3, 0, none⟩ = some (.int .i64 1) ∧ u.cell? ⟨b3, 1, none⟩ = some (.int .i64 5) ∧ u.cell? ⟨b3, 2, none⟩ = some (.int .i64 2) ∧ u.cell? ⟨b3, 3, none⟩ = some (.int .i64 7) ∧ u.cell? ⟨b3, 4, none⟩ = some (.int .i64 3) ∧ u.cell? ⟨b3, 5, none⟩ = some (.int .i64 9) from fun u h => ⟨cell_below (ai wV.out 0) h.out, cell_below (ai wV.out 1) h.out, cell_below (ai wV.out 2) h.out, cell_below (ai wV.out 3) h.out, cell_below (ai wV.out 4) h.out, cell_below (ai wV.out 5) h.out⟩)
 clear zc
 obtain ⟨wX, LF⟩ : ∃ x, ((w1.alloc (aM 23 11 4)).alloc (r_ 2 (some ⟨b1, 0, none⟩) 2 2 (some ⟨b2, 0, none⟩) 3 3)) = x := ⟨_, rfl⟩
 have hbx : Below w1.heap.size w1 wX := by rw [← LF]; exact ag (af _ _) (af _ _)
 have hcx : wX.cell? ⟨w1.heap.size, 0, none⟩ = some (.int .i64 23) ∧ wX.cell? ⟨w1.heap.size, 1, none⟩ = some (.int .i64 11) ∧ wX.cell? ⟨w1.heap.size, 2, none⟩ = some (.int .i64 4) ∧ wX.cell? ⟨w1.heap.size + 1, 0, none⟩ = some (.int .i64 2) ∧ wX.cell? ⟨w1.heap.size + 1, 1, none⟩ = some (.slice (some ⟨b1, 0, none⟩) 2 2) ∧ wX.cell? ⟨w1.heap.size + 1, 2, none⟩ = some (.slice (some ⟨b2, 0, none⟩) 3 3) := by rw [← LF]; exact ⟨cell_below (bP rfl (by rfl)) (af _ _), cell_below (bP rfl (by rfl)) (af _ _), cell_below (bP rfl (by rfl)) (af _ _), bP (by simp) (by rfl), bP (by simp) (by rfl), bP (by simp) (by rfl)⟩
 have J7 := aa (show ∀ u : World, Hid (Below wX.heap.size wX u) → u.cell? ⟨w1.heap.size, 0, none⟩ = some (.int .i64 23) ∧ u.cell? ⟨w1.heap.size, 1, none⟩ = some (.int .i64 11) ∧ u.cell? ⟨w1.heap.size, 2, none⟩ = some (.int .i64 4) ∧ u.cell? ⟨w1.heap.size + 1, 0, none⟩ = some (.int .i64 2) ∧ u.cell? ⟨w1.heap.size + 1, 1, none⟩ = some (.slice (some ⟨b1, 0, none⟩) 2 2) ∧ u.cell? ⟨w1.heap.size + 1, 2, none⟩ = some (.slice (some ⟨b2, 0, none⟩) 3 3) from fun u h => by
  obtain ⟨z0, z1, z2, z3, z4, z5⟩ := hcx
  exact ⟨cell_below z0 h.out, cell_below z1 h.out, cell_below z2 h.out, cell_below z3 h.out, cell_below z4 h.out, cell_below z5 h.out⟩)
 have RN := aa LF
 have UI := aa hcx
 have aL := Fa bW hbx
 have yG := Fa FL hbx
 clear hbx LF hcx
 have yF := kr wX
 have zc := kC.out _ aL
 have Dx := J6.out _ yG
 have Dy := J7.out _ yF
 go_upto_region 2 with (fail)
 rw [RN.out]
 clear zc Dx Dy
 have hO := aa (fun (u : World) (h : Hid (Below w0.heap.size w0 u ∧ Below w1.heap.size w1 u ∧ Below wX.heap.size wX u)) => And.intro (J6.out u (aa h.out.2.1)) (J7.out u (aa h.out.2.2)))
 refine Jd (fun u => Below w0.heap.size w0 u ∧ Below w1.heap.size w1 u ∧ Below wX.heap.size wX u) [] (bb3 (aa ⟨aL.out, yG.out, yF.out⟩) ((Below.refl _ _).drew)) (fun hHeld => ?_)
 refine gJ 0 1 2 3 ?_
 refine mK 4 fun K hK => ?_
 go_simp
 refine (JX b1 b2 b3 _ (kV.out _ (aa hHeld.out.1)) (oM.out _ (aa hHeld.out.2.1)) (rP.out _ (aa hHeld.out.2.1)) (kA.out _ (aa hHeld.out.2.1))).mono ?_
 rintro e wA ⟨rfl, qP⟩
 refine hK.out _ _ (bb3 hHeld qP) (fun hHeld => ?_)
 clear hK K
 refine gJ 5 6 7 8 ?_
 refine lC 9 ?_
 refine Aj ?_
 clear hO
 have lq := (aa hHeld.out.1)
 have Da := (aa hHeld.out.2.1)
 have C_ := (aa hHeld.out.2.2)
 clear hHeld
 have zc := kC.out _ lq
 have Dx := J6.out _ Da
 have Dy := J7.out _ C_
 go_upto_region 3 with (fail)
 clear zc Dx Dy
 have hO := aa (fun (u : World) (h : Hid (Below w0.heap.size w0 u ∧ Below w1.heap.size w1 u ∧ Below wX.heap.size wX u)) => And.intro (J6.out u (aa h.out.2.1)) (J7.out u (aa h.out.2.2)))
 refine Jd (fun u => Below w0.heap.size w0 u ∧ Below w1.heap.size w1 u ∧ Below wX.heap.size wX u) [] (bb3 (aa ⟨lq.out, Da.out, C_.out⟩) ((Below.refl _ _).drew)) (fun hHeld => ?_)
 refine lC 0 ?_
 refine lC 1 ?_
 refine mK 2 fun K hK => ?_
 go_simp
 refine (lV 23 11 4 2 (some ⟨b1, 0, none⟩) [18, 16] 2 2 (some ⟨b2, 0, none⟩) [12, 8, 13] 3 3 (aa rfl) (aa rfl) true xW (by omega) _ (kV.out _ (aa hHeld.out.1)) (oM.out _ (aa hHeld.out.2.1)) (rP.out _ (aa hHeld.out.2.1))).mono ?_
 rintro e wA ⟨rfl, qP⟩
 refine hK.out _ _ (bb3 hHeld qP) (fun hHeld => ?_)
 clear hK K
 refine gJ 3 4 5 6 ?_
 refine lC 7 ?_
 refine lC 8 ?_
 refine mK 9 fun K hK => ?_
 go_simp
 refine (Ak 23 11 4 2 (some ⟨b1, 0, none⟩) [18, 16] 2 2 (some ⟨b2, 0, none⟩) [12, 8, 13] 3 3 (aa rfl) (aa rfl) 1 5 xW true Kw (by omega) _ (kV.out _ (aa hHeld.out.1)) (oM.out _ (aa hHeld.out.2.1)) (rP.out _ (aa hHeld.out.2.1))).mono ?_
 rintro e wA ⟨rfl, qP⟩
 refine hK.out _ _ (bb3 hHeld qP) (fun hHeld => ?_)
 clear hK K
 refine gJ 10 11 12 13 ?_
 refine lC 14 ?_
 refine lC 15 ?_
 refine lC 16 ?_
 refine mK 17 fun K hK => ?_
 go_simp
 refine (Ak 23 11 4 2 (some ⟨b1, 0, none⟩) [18, 16] 2 2 (some ⟨b2, 0, none⟩) [12, 8, 13] 3 3 (aa rfl) (aa rfl) 3 9 xW true Kv (by omega) _ (kV.out _ (aa hHeld.out.1)) (oM.out _ (aa hHeld.out.2.1)) (rP.out _ (aa hHeld.out.2.1))).mono ?_
 rintro e wA ⟨rfl, qP⟩
 refine hK.out _ _ (bb3 hHeld qP) (fun hHeld => ?_)
 clear hK K
 refine gJ 18 19 20 21 ?_
 refine gJ 22 23 24 25 ?_
 refine lC 26 ?_
 refine lC 27 ?_
 refine Aj ?_
 clear hO
 have C9 := (aa hHeld.out.1)
 have IV := (aa hHeld.out.2.1)
 have IU := (aa hHeld.out.2.2)
 clear hHeld
 have zc := kC.out _ C9
 have Dx := J6.out _ IV
 have Dy := J7.out _ IU
 go_wp2
 go_ret
 exact ⟨rfl, zV bO C9⟩
structure CR (w : World) (P Q G : Int) (h : List Int) (c : Int) (u : World) : Prop where
 g : u.heap[w.heap.size]? = some (aM P Q G)
 d : aG u (w.heap.size + 1) h c
 b : Below w.heap.size w u
section
variable {w u u' : World} {P Q G c : Int} {h : List Int}
theorem CR.gb (H : CR w P Q G h c u) : zN u w.heap.size P Q G := ⟨ai H.g 0, ai H.g 1, ai H.g 2⟩
theorem CR.below (H : CR w P Q G h c u) (hb : Below u.heap.size u u') : CR w P Q G h c u' :=
 ⟨(hb.block _ (Array.getElem?_eq_some_iff.1 H.g).1).trans H.g, H.d.below hb, ag H.b hb⟩
theorem CR.start (w : World) (P Q G : Int) (h : List Int) (c : Int) : CR w P Q G h c ((w.alloc (aM P Q G)).alloc (.cells (aC h c) 27)) :=
 ⟨((af _ _).block _ (by simp)).trans (heap_alloc_new _ _), by
  have e1 : (w.alloc (aM P Q G)).heap.size = w.heap.size + 1 := by simp
  rw [← e1]; exact aG.new _ _ _, aZ (Below.refl _ _)⟩
end
theorem D_ {w : World} {B n : Nat} {f : Nat → Int} (h : bY w B n f) (hn : 0 < n) : B < w.heap.size := by
 rcases Nat.lt_or_ge B w.heap.size with h1 | h1
 · exact h1
 ·
  exfalso
  have h2 := h.1 0 hn
  have h0 : w.heap[B]? = none := Array.getElem?_eq_none (by omega)
  simp [World.cell?, h0] at h2
theorem sI {w u : World} {B n : Nat} {f : Nat → Int} (h : bY w B n f) (hb : u.heap[B]? = w.heap[B]?) : bY u B n f :=
 ⟨fun j hj => (World.cell?_of_block (w := w) (w' := u) (a := ⟨B, j, none⟩) hb).trans (h.1 j hj), fun j => (World.frozen?_of_block (w := w) (w' := u) (a := ⟨B, j, none⟩) hb).trans (h.2 j)⟩
theorem ay {w u : World} {B n : Nat} {f : Nat → Int} (h : bY w B n f) (hn : 0 < n) (hb : Below w.heap.size w u) : bY u B n f := sI h (hb.block B (D_ h hn))
theorem bn {w : World} {B n : Nat} {f g : Nat → Int} (h : bY w B n f) (he : ∀ j, j < n → f j = g j) : bY w B n g := ⟨fun j hj => by rw [← he j hj]; exact h.1 j hj, h.2⟩
theorem eZ {w : World} {B n b j : Nat} {v : Value} {f : Nat → Int} (h : bY w B n f) (hne : B ≠ b) : bY (w.setCell ⟨b, j, none⟩ v) B n f := sI h (Go.Deep.blk_setCell_other _ _ _ _ hne)
def J2 (u : World) (B m : Nat) : List Int := (List.range m).map fun i => intOf ((u.cell? ⟨B, i, none⟩).getD undef)
theorem lY {u : World} {B m q t : Nat} (h : bY u B m (fun i => (aP q m t).getD i 0)) : J2 u B m = aP q m t := by
 apply List.ext_getElem
 · rw [J2, List.length_map, List.length_range, eG]
 ·
  intro i h1 h2
  rw [J2, List.length_map, List.length_range] at h1
  simp only [J2, List.getElem_map, List.getElem_range]
  rw [h.1 i h1]
  show intOf (.int .i64 ((aP q m t).getD i 0)) = _
  rw [List.getD_eq_getElem?_getD, List.getElem?_eq_getElem h2]
  rfl
theorem t_ (q : Nat) : ∀ m i, (aP q m 0).getD i 0 = 0
 | 0, _ => rfl
 | m + 1, 0 => by rw [aP, List.getD_cons_zero, Nat.zero_mod]; rfl
 | m + 1, i + 1 => by rw [aP, List.getD_cons_succ, Nat.zero_div]; exact t_ q m i
abbrev hd0 (w : World) : World := (w.alloc (.cells j_ 32)).alloc (.cells #[.int .u8 0, .int .u8 0, .int .u8 0, .int .u8 0, .int .u8 0, .int .u8 0, .int .u8 0, .int .u8 0, .int .u8 0, .int .u8 0, .int .u8 0, .int .u8 0, .int .u8 0, .int .u8 0, .int .u8 0, .int .u8 0, .int .u8 0, .int .u8 0, .int .u8 0, .int .u8 0, .int .u8 0, .int .u8 0, .int .u8 0, .int .u8 0, .int .u8 0, .int .u8 0, .int .u8 0, .int .u8 0, .int .u8 0, .int .u8 0, .int .u8 0, .int .u8 0, .int .i64 0] 27)
abbrev hd1 (w : World) (need : Int) (v u : Value) : World := (hd0 w).setRow w.heap.size (oq need v u)
abbrev hd2 (w : World) (need : Int) (v u : Value) (h : List Int) (c : Int) : World := (hd1 w need v u).setRow (w.heap.size + 1) (aC h c)
theorem tN (w : World) (need : Int) (v u : Value) (h : List Int) (c : Int) : bE (hd0 w) w.heap.size 0 (.slice none 0 0) (.slice none 0 0) ∧ aG (hd1 w need v u) (w.heap.size + 1) (aH 32) 0 ∧ bE (hd2 w need v u h c) w.heap.size need v u ∧ Below w.heap.size w (hd2 w need v u h c) := by
 have h0 : bE (hd0 w) w.heap.size 0 (.slice none 0 0) (.slice none 0 0) := heap_alloc2_old _ _ _
 have h1 : aG (hd0 w) (w.heap.size + 1) (aH 32) 0 := by
  unfold hd0
  rw [I9]
  exact heap_alloc2_new _ _ _
 exact ⟨h0, h1.row (by omega), h0.setRow.row (by omega), ak (ak (aZ (Below.refl _ _)) (Nat.le_refl _)) (Nat.le_succ _)⟩
theorem xU (P Q G need n : Int) (h : List Int) (c bs : Int) (hl : Hid (h.length = 32)) (hQ : Q < 9223372036854775808) (hbad : (au P Q G = false) ∨ (au P Q G = true ∧ (11 < Q ∨ 3 < need))) (w : World) (hv : Hid (Vars w)) :
  Calls Tryz.prog 4 #[gv P Q G, .int .i64 need, .int .i64 n, .agg (aC h c), .int .u8 bs] w (Rt w (.bool true)) := by
 obtain ⟨W, hW⟩ : ∃ W, (w.alloc (aM P Q G)).alloc (.cells (aC h c) 27) = W := ⟨_, rfl⟩
 have HI0 : Hid (CR w P Q G h c W) := aa (by rw [← hW]; exact CR.start w P Q G h c)
 have HW := aa hW
 clear hW
 go_in
 go_upto_region 1 with (fail)
 rw [HW.out]
 clear HW
 go_wp2_with fail
 refine (yt _ (aa (hv.out.below HI0.out.b))).mono ?_
 rintro e w1 ⟨rfl, hb1⟩
 have HI1 := aa (HI0.out.below hb1)
 clear hb1 HI0
 obtain ⟨g0, g1, g2⟩ := HI1.out.gb
 rcases hbad with jR | ⟨jR, hq⟩
 ·
  go_wp2_with fail
  clear g0 g1 g2
  refine (iV P Q G false (aa jR) hQ _).mono ?_
  rintro e w2 ⟨rfl, hb2⟩
  have HI2 := aa (HI1.out.below hb2)
  go_wp2
  go_ret
  exact ⟨rfl, HI2.out.b⟩
 ·
  go_wp2_with fail
  clear g0 g1 g2
  refine (iV P Q G true (aa jR) hQ _).mono ?_
  rintro e w2 ⟨rfl, hb2⟩
  have HI2 := aa (HI1.out.below hb2)
  obtain ⟨g0, g1, g2⟩ := HI2.out.gb
  by_cases h11 : 11 < Q
  ·
   have d1 : decide ((11 : Int) < Q) = true := by simp [h11]
   clear hq
   go_wp2
   go_ret
   exact ⟨rfl, HI2.out.b⟩
  ·
   have d1 : decide ((11 : Int) < Q) = false := by simp [h11]
   have d2 : decide ((3 : Int) < need) = true := by simp; omega
   clear hq
   go_wp2
   go_ret
   exact ⟨rfl, HI2.out.b⟩
theorem h_ (q m t : Nat) : (aP q (m + 1) t).getD 0 0 = ((t % q : Nat) : Int) := rfl
theorem dZ (q m t x : Nat) : (aP q (m + 1) t).getD (x + 1) 0 = (aP q m (t / q)).getD x 0 := by rw [aP, List.getD_cons_succ]
theorem dig_lo {q : Nat} (hq : 0 < q) {m t x : Nat} (hx : x < m) : 0 ≤ (aP q m t).getD x 0 ∧ (aP q m t).getD x 0 < q := cK (nO hq m t) (by rw [eG]; exact hx)
theorem je {q m t : Nat} (hq : 0 < q) (h : t < q ^ (m + 1)) : t / q < q ^ m := Nat.div_lt_of_lt_mul (by rw [Nat.mul_comm, ← Nat.pow_succ]; exact h)
theorem qX {q : Nat} (hq : 2 ≤ q) : ∀ m t, t < q ^ m → (∀ x, x < m → (aP q m t).getD x 0 = (q : Int) - 1) → t + 1 = q ^ m
 | 0, t, h, _ => by simp at h; rw [h]; rfl
 | m + 1, t, h, hx => by
  have h0 := hx 0 (by omega)
  rw [h_] at h0
  have h1 := qX hq m (t / q) (je (by omega) h) (fun x hxm => by rw [← dZ]; exact hx (x + 1) (by omega))
  rw [Nat.pow_succ, ← h1, Nat.add_mul, Nat.one_mul, Nat.mul_comm (t / q)]
  have := Nat.mod_add_div t q
  omega
theorem qL {q t : Nat} (hq : 0 < q) (h : t % q + 1 < q) : (t + 1) % q = t % q + 1 ∧ (t + 1) / q = t / q := by
 have h0 : t + 1 = (t % q + 1) + q * (t / q) := by have := Nat.mod_add_div t q; omega
 constructor
 · rw [h0, Nat.add_mul_mod_self_left, Nat.mod_eq_of_lt h]
 · rw [h0, Nat.add_mul_div_left _ _ hq, Nat.div_eq_of_lt h, Nat.zero_add]
theorem qM {q t : Nat} (hq : 0 < q) (h : t % q + 1 = q) : (t + 1) % q = 0 ∧ (t + 1) / q = t / q + 1 := by
 have h0 : t + 1 = q * (t / q + 1) := by have := Nat.mod_add_div t q; rw [Nat.mul_add, Nat.mul_one]; omega
 rw [h0]
 exact ⟨Nat.mul_mod_right _ _, Nat.mul_div_cancel_left _ hq⟩
theorem nN {q : Nat} (hq : 2 ≤ q) : ∀ m j t, j < m → t < q ^ m → (∀ x, x < j → (aP q m t).getD x 0 = (q : Int) - 1) → (aP q m t).getD j 0 ≠ (q : Int) - 1 → t + 1 < q ^ m ∧ ∀ x, x < m → (aP q m (t + 1)).getD x 0 = if x = j then (aP q m t).getD j 0 + 1 else if x < j then 0 else (aP q m t).getD x 0
 | 0, j, t, h, _, _, _ => absurd h (by omega)
 | m + 1, 0, t, _, ht, _, hne => by
  rw [h_] at hne ⊢
  have hlt := Nat.mod_lt t (show 0 < q by omega)
  obtain ⟨e1, e2⟩ := qL (q := q) (t := t) (by omega) (by omega)
  refine ⟨?_, fun x hx => ?_⟩
  ·
   have h1 := je (by omega) ht
   have h2 := Nat.mod_add_div t q
   have h3 : q * (t / q + 1) ≤ q * q ^ m := Nat.mul_le_mul_left q h1
   rw [Nat.pow_succ, Nat.mul_comm (q ^ m)]
   rw [Nat.mul_add, Nat.mul_one] at h3
   omega
  ·
   cases x with
   | zero => rw [h_, e1, if_pos rfl]; rfl
   | succ y => rw [dZ, e2, if_neg (by omega), if_neg (by omega), dZ]
 | m + 1, j + 1, t, hj, ht, hx, hne => by
  have h0 := hx 0 (by omega)
  rw [h_] at h0
  obtain ⟨e1, e2⟩ := qM (q := q) (t := t) (by omega) (by omega)
  rw [dZ] at hne
  obtain ⟨g1, g2⟩ := nN hq m j (t / q) (by omega) (je (by omega) ht) (fun x hxm => by rw [← dZ]; exact hx (x + 1) (by omega)) hne
  refine ⟨?_, fun x hxm => ?_⟩
  ·
   have h2 := Nat.mod_add_div t q
   have h3 : q * (t / q + 1 + 1) ≤ q * q ^ m := Nat.mul_le_mul_left q g1
   rw [Nat.pow_succ, Nat.mul_comm (q ^ m)]
   rw [Nat.mul_add, Nat.mul_add, Nat.mul_one] at h3
   omega
  ·
   cases x with
   | zero => rw [h_, e1, if_neg (by omega), if_pos (by omega)]; rfl
   | succ y =>
    rw [dZ, e2, g2 y (by omega), dZ, dZ]
    simp only [Nat.add_right_cancel_iff, Nat.add_lt_add_iff_right]
theorem wu (p : Nat → Bool) : ∀ N, cnt p N ≤ N
 | 0 => Nat.le_refl _
 | N + 1 => by
  have := wu p N
  rw [cnt]
  split <;> omega
theorem uU (q : Nat) (l : List (Int × Int)) (m N : Nat) : ∀ k, fK q l m N k ≤ k * N
 | 0 => by simp [fK]
 | k + 1 => by
  have h1 := uU q l m N k
  have h2 := wu (fT q l m k) N
  rw [fK, Nat.succ_mul]
  omega
theorem zh {Q : Int} {l : List (Int × Int)} {f : List Int} {k : Nat} (hk : k < l.length) : dY Q (l.take (k + 1)) f = (dY Q (l.take k) f && (pv f (l.getD k (0, 0)).1 % Q == (l.getD k (0, 0)).2)) := by
 unfold dY
 rw [List.take_succ_eq_append_getElem hk, List.all_append, List.getD_eq_getElem?_getD, List.getElem?_eq_getElem hk]
 simp
theorem BV {q : Nat} (hq : 0 < q) {m k : Nat} {f : List Int} {x : Int} (hf : f.length = m) (hk : k < m) : hv (q : Int) (f.drop (m - (k + 1))) x = (hv (q : Int) (f.drop (m - k)) x * x + f.getD (m - 1 - k) 0) % q := by
 rw [xS (by omega), show m - (k + 1) + 1 = m - k by omega, Int.emod_add_emod, show m - (k + 1) = m - 1 - k by omega]
theorem uk (q : Nat) (l : List (Int × Int)) (m c t : Nat) : (cnt (fT q l m c) (t + 1) : Int) = if dY (q : Int) l (aP q m t) = true ∧ c = t % q then (cnt (fT q l m c) t : Int) + 1 else (cnt (fT q l m c) t : Int) := by
 rw [cnt]
 cases h1 : dY (q : Int) l (aP q m t) with
 | true =>
  have e : fT q l m c t = decide (t % q = c) := by rw [fT, h1, Bool.true_and]
  rw [e]
  simp only [true_and, decide_eq_true_eq]
  split <;> split <;> omega
 | false =>
  have e : fT q l m c t = false := by rw [fT, h1, Bool.false_and]
  rw [e]
  simp
end Go.Proofs.YticegghameafgaaGreatDoor