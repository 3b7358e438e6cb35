/- Contracts and lemmas: TlI, Bld, Hex, HexR, TlT, TlU, TruG, TruH, TlW, TlX. -/
import Derived.Shelf.Strings.Builder1
import Derived.Deep.AppendLies
import Derived.Test.YtchcllcbknfikaaGreatDoorTv8
set_option linter.unusedVariables false
set_option linter.unusedSimpArgs false
set_option maxRecDepth 100000
set_option maxHeartbeats 25600000
namespace Go.Proofs.YtchcllcbknfikaaGreatDoor
open Go.RowKit rQ
theorem IZ (p : a_) (hna : Hid (p.al.length = p.na)) (hnz : Hid (p.zs.length = p.nz)) (hb1 : p.na ≤ 1000) (hb2 : p.nz ≤ 1000) (w : World) (hA : Hid (Sl w p.A p.al)) (hZ : Hid (Sl w p.Z p.zs)) :
  Calls Tryz.prog 132 #[G7 p] w (mM (EN p) w) := by
 obtain ⟨w0, HW, ai, kC⟩ := st2 (uf p) J6 (.cells #[.int .i64 0, .int .i64 0, .slice none 0 0, .slice none 0 0] 117) xO w
 have kA := mkS ai hA
 have kZ := mkS ai hZ
 have yV := O4 (w0 := w0) (o := .cells #[.int .i64 0, .int .i64 0, .slice none 0 0, .slice none 0 0] 117) (w.heap.size + 1) (by rw [← HW.out]; exact heap_alloc2_new _ _ _)
 have ah := bS w0
 clear hA hZ
 go_in
 go_wp2_with fail
 rw [HW.out]
 have zc := kC.out _ ah
 have nQ : Hid (w0.heap.size = w.heap.size + 2) := aa (by rw [← HW.out]; simp)
 go_upto_region 1 with (fail)
 clear zc
 have hO := kC
 have mP := bY (aa ah.out) (Below.refl _ _).drew
 refine t_ (fun u => Below w0.heap.size w0 u) [20] mP (fun hHeld => ?_)
 obtain ⟨wD, mI⟩ : ∃ u, w0.drew = u := ⟨_, rfl⟩
 rw [mI] at mP hHeld ⊢
 have zk : Hid (w0.heap.size ≤ wD.heap.size) := aa (by rw [← mI]; exact Nat.le_refl _)
 clear mI
 refine aT 0 1 2 3 ?_
 refine aT 6 7 8 10 ?_
 refine aT 11 12 14 15 ?_
 refine aH 16 ?_
 have FB := mP
 obtain ⟨u1, hw, HQ, -, -, -⟩ := sI (.cells #[.int .i64 (p.ix), .int .i64 (p.v)] 3) xO wD
 have mO := aa hw
 clear hw
 refine bW 4 fun K hK => ?_
 go_simp
 rw [mO.out]
 have aR := bY FB HQ.out
 refine hK.out _ _ aR (fun hHeld => ?_)
 clear hK K hHeld
 have FE : Hid (Cz u1 (wD.heap.size) (p.ix) (p.v)) := by rw [← mO.out]; exact (aa (Cz.new wD (p.ix) (p.v)))
 obtain ⟨gE, hg⟩ : ∃ x, wD.heap.size = x := ⟨_, rfl⟩
 rw [hg] at FE ⊢
 clear hg
 have FB := aR
 clear aR mO HQ
 try simp only [qq, Ic.val, Ic.cs, aM, aL]
 refine bW 5 fun K hK => ?_
 go_simp
 refine (lZ (some ⟨gE, 0, none⟩) [p.ix, p.v] 2 2 (aa rfl) (by omega) _ (aa FE.out.sl)).mono ?_
 rintro e u2 ⟨cE, rfl, hit, hq⟩
 have aR := bY FB hq
 refine hK.out _ _ aR (fun hHeld => ?_)
 clear hK K hHeld
 have FE := aa (FE.out.below hq)
 have HE := (aa (hit.mono (by have := FB.out.size; omega)))
 have FB := aR
 clear aR
 try simp only [qq, Ic.val, Ic.cs, aM, aL]
 refine bW 9 fun K hK => ?_
 go_simp
 refine (lZ p.A p.al p.na p.ca hna (by omega) _ (kA.out _ (aa FB.out))).mono ?_
 rintro e u3 ⟨cA, rfl, hit, hq⟩
 have aR := bY FB hq
 refine hK.out _ _ aR (fun hHeld => ?_)
 clear hK K hHeld
 have FE := aa (FE.out.below hq)
 have HE := aa (HE.out.kept hq)
 have HA := (aa (hit.mono (by have := FB.out.size; omega)))
 have FB := aR
 clear aR
 try simp only [qq, Ic.val, Ic.cs, aM, aL]
 refine bW 13 fun K hK => ?_
 go_simp
 refine (mZ p.C _).mono ?_
 rintro e u4 ⟨rfl, hq⟩
 have aR := bY FB hq
 refine hK.out _ _ aR (fun hHeld => ?_)
 clear hK K hHeld
 have FE := aa (FE.out.below hq)
 have HE := aa (HE.out.kept hq)
 have HA := aa (HA.out.kept hq)
 have FB := aR
 clear aR
 try simp only [qq, Ic.val, Ic.cs, aM, aL]
 refine bW 17 fun K hK => ?_
 go_simp
 refine (lZ p.Z p.zs p.nz p.cz hnz (by omega) _ (kZ.out _ (aa FB.out))).mono ?_
 rintro e u5 ⟨cZ, rfl, hit, hq⟩
 have aR := bY FB hq
 refine hK.out _ _ aR (fun hHeld => ?_)
 clear hK K hHeld
 have FE := aa (FE.out.below hq)
 have HE := aa (HE.out.kept hq)
 have HA := aa (HA.out.kept hq)
 have HZ := (aa (hit.mono (by have := FB.out.size; omega)))
 have FB := aR
 clear aR
 try simp only [qq, Ic.val, Ic.cs, aM, aL]
 obtain ⟨u6, hw, HQ, -, -, -⟩ := sI (.cells #[.int .i64 cE.kind, .int .i64 cE.n, .slice cE.B cE.nb cE.cb, .slice cE.L cE.nl cE.cl, .int .i64 cA.kind, .int .i64 cA.n, .slice cA.B cA.nb cA.cb, .slice cA.L cA.nl cA.cl, .int .i64 1, .int .i64 p.C, .slice none 0 0, .slice none 0 0, .int .i64 cZ.kind, .int .i64 cZ.n, .slice cZ.B cZ.nb cZ.cb, .slice cZ.L cZ.nl cZ.cl] 117) xO u5
 have mO := aa hw
 clear hw
 refine bW 18 fun K hK => ?_
 go_simp
 rw [mO.out]
 have aR := bY FB HQ.out
 refine hK.out _ _ aR (fun hHeld => ?_)
 clear hK K hHeld
 have FE := aa (FE.out.below HQ.out)
 have HE := aa (HE.out.kept HQ.out)
 have HA := aa (HA.out.kept HQ.out)
 have HZ := aa (HZ.out.kept HQ.out)
 have FL : Hid (u6.heap[(u5.heap.size)]? = some (.cells #[.int .i64 cE.kind, .int .i64 cE.n, .slice cE.B cE.nb cE.cb, .slice cE.L cE.nl cE.cl, .int .i64 cA.kind, .int .i64 cA.n, .slice cA.B cA.nb cA.cb, .slice cA.L cA.nl cA.cl, .int .i64 1, .int .i64 p.C, .slice none 0 0, .slice none 0 0, .int .i64 cZ.kind, .int .i64 cZ.n, .slice cZ.B cZ.nb cZ.cb, .slice cZ.L cZ.nl cZ.cl] 117)) := by rw [← mO.out]; exact (aa (heap_alloc_new u5 _))
 have kQ : Hid (w0.heap.size ≤ (u5.heap.size)) := (aa (by have := FB.out.size; omega))
 obtain ⟨gL, hg⟩ : ∃ x, u5.heap.size = x := ⟨_, rfl⟩
 rw [hg] at FL kQ ⊢
 clear hg
 have FB := aR
 clear aR mO HQ
 try simp only [qq, Ic.val, Ic.cs, aM, aL]
 refine bW 19 fun K hK => ?_
 go_simp
 refine (qH (some ⟨gL, 0, none⟩) 4 4 _).mono ?_
 rintro e u ⟨rfl, hq⟩
 have aR := bY FB hq
 refine hK.out _ _ aR (fun hHeld => ?_)
 clear hK K hHeld
 have FE := aa (FE.out.below hq)
 have HE := aa (HE.out.kept hq)
 have HA := aa (HA.out.kept hq)
 have HZ := aa (HZ.out.kept hq)
 have FL := aa (bE FL.out hq)
 have kQ := kQ
 have FB := aR
 clear aR
 try simp only [qq, Ic.val, Ic.cs, aM, aL]
 have hHeld := FB
 have hT := trivial
 have ha0 := trivial
 have sK := FB
 have oN := yV.out _ (aa FB.out)
 refine mR 20 fun K hK => ?_
 rw [show (if Region.wanted _ _ = true then _ else _ : Prop) = _ from if_pos rfl]
 refine wp_store_row 117 _ _ rfl (w.heap.size + 1) (Ic.cs (Ic.mk 3 0 none 0 0 (some ⟨gL, 0, none⟩) 4 4)) rfl rfl 117 _ oN.out (b_ _) rfl (je _) ?_
 refine hK.out _ _ ?_
 clear hK K
 try simp only [qq]
 refine gz ?_
 have hit : qa w0.heap.size u (EN p) (Ic.mk 3 0 none 0 0 (some ⟨gL, 0, none⟩) 4 4) := rF (fun k9 => match k9 with | 0 => cE | 1 => cA | 2 => aM p.C | _ => cZ) FL.out kQ.out rfl (fun k9 hk => by
   rcases (show k9 = 0 ∨ k9 = 1 ∨ k9 = 2 ∨ k9 = 3 by omega) with rfl | rfl | rfl | rfl <;> exact ⟨rfl, rfl, rfl, rfl⟩) (fun k9 hk => by
   rcases (show k9 = 0 ∨ k9 = 1 ∨ k9 = 2 ∨ k9 = 3 by omega) with rfl | rfl | rfl | rfl
   · exact HE.out
   · exact HA.out
   · exact nA _ _ _
   · exact HZ.out)
 have hit2 := (hit.setRow (g := w.heap.size + 1) (by have := nQ.out; omega) (Ic.cs (Ic.mk 3 0 none 0 0 (some ⟨gL, 0, none⟩) 4 4))).mono (lo' := w.heap.size) (by have := nQ.out; omega)
 have bV := aj (ag ai.out FB.out) (cs := Ic.cs (Ic.mk 3 0 none 0 0 (some ⟨gL, 0, none⟩) 4 4)) (Nat.le_add_right w.heap.size 1)
 have hrw := setRow_heap _ _ _ (Ic.cs (Ic.mk 3 0 none 0 0 (some ⟨gL, 0, none⟩) 4 4)) _ _ oN.out
 go_wp2
 exact bodyPost_ret (v := (Ic.mk 3 0 none 0 0 (some ⟨gL, 0, none⟩) 4 4).val) (aC (p := 2) (ty := 117) rfl _ _ ⟨w.heap.size + 1, 0, none⟩ _ rfl (run_loadVar_row _ _ _ _ _ _ _ hrw Tryz.underlying117 rfl (b_ _))) rfl ⟨_, rfl, hit2, bV⟩
theorem I9 (o : aJ) (hs : lD o) (w : World) (ho : Hid (gy w o)) :
  Calls Tryz.prog 82 #[wU o] w (mM (JZ o) w) := by
 obtain ⟨w0, HW, ai, kC⟩ := st2 (vo o) Yz (.cells #[.int .i64 0, .int .i64 0, .slice none 0 0, .slice none 0 0] 117) xO w
 have kO := gV (fun u => gy u o) ai ho (·.below)
 have yV := O4 (w0 := w0) (o := .cells #[.int .i64 0, .int .i64 0, .slice none 0 0, .slice none 0 0] 117) (w.heap.size + 1) (by rw [← HW.out]; exact heap_alloc2_new _ _ _)
 have ah := bS w0
 clear ho
 go_in
 go_wp2_with fail
 rw [HW.out]
 have zc := kC.out _ ah
 have nQ : Hid (w0.heap.size = w.heap.size + 2) := aa (by rw [← HW.out]; simp)
 go_wp2
 clear zc
 obtain ⟨i0, hi, hz0, hz1, hz2⟩ := info_parts iV
 obtain ⟨⟨VG, Yi⟩, ok8⟩ : (o.ps.length = o.np ∧ o.np ≤ o.cp) ∧ o.ps.length ≤ 8 := ⟨((kO.out _ ah).out).2.2.1, hs.n⟩
 go_loopw [3, 4] (fun v i u => ∃ (k : Nat) (cs : List Ic), k ≤ o.np ∧ i = .int .i64 k ∧ Hid (cs.length = k) ∧ Hid (dM u w0.heap.size v cs) ∧ Hid (∀ j, j < k → ET v.ownBlock w0.heap.size u (EN (o.ps.getD j aF)) (cs.getD j default)) ∧ Hid (Below w0.heap.size w0 u)) (fun _ i _ => o.np - (intOf i).toNat)
 case atStart => exact ⟨0, [], by omega, rfl, aa rfl, aa (qN _ _), aa (fun j h => absurd h (by omega)), ah⟩
 case round =>
  obtain ⟨k, cs, hk, rfl, zn, HO, HG, au⟩ := hrel
  obtain ⟨v, rfl⟩ : ∃ v9, v9 = u3 := ⟨_, rfl⟩
  by_cases hlt : k < o.np
  ·
   have hkl : k < o.ps.length := by rw [VG]; exact hlt
   obtain ⟨b, f, hA, j0, j1, j2, j3, j4, j5⟩ := (kO.out _ au).out.2.2.2.2.2 k hkl
   have zQ := aa hA
   have hps := hs.p _ (oD hkl)
   obtain ⟨p, hp⟩ : ∃ p, o.ps.getD k aF = p := ⟨_, rfl⟩
   have nU := aa hp
   rw [hp] at j0 j1 j2 j3 j4 j5 hps
   obtain ⟨x1, x2, x3, x4⟩ := j5
   have U2 := aa x1
   have U1 := aa x2
   have Xu := aa x3
   have lG := aa x4
   obtain ⟨Mf, Me⟩ := hps
   have QU : p.na ≤ 20 := by rw [← x1]; exact Mf
   have QT : p.nz ≤ 20 := by rw [← x2]; exact Me
   clear hp hA hkl x1 x2 x3 x4 Mf Me
   obtain ⟨LA, Ti⟩ : ∃ x, o.L = x := ⟨_, rfl⟩
   rw [Ti] at zQ
   have HLB := aa Ti
   have ZT := zQ.out
   subst ZT
   clear Ti
   obtain ⟨zW, zV, Cq, Co, Cn, Cm, Ck, xZ, E5, -⟩ := kC.out _ au
   rw [HLB.out] at xZ
   have lW := bS wr
   go_wp2_with fail
   refine (IZ p U2 U1 (by omega) (by omega) _ (aa Xu.out) (aa lG.out)).mono ?_
   rintro e w1 ⟨cP, rfl, hit, hb0⟩
   have HIT := aa hit
   clear hit
   rw [show cP.val = .agg #[.int .i64 cP.kind, .int .i64 cP.n, .slice cP.B cP.nb cP.cb, .slice cP.L cP.nl cP.cl] from rfl]
   have aD := bY au hb0
   have dX := bY lW hb0
   clear zW zV Cq Co Cn Cm Ck xZ E5 hb0
   clear j0 j1 j2 j3 j4
   have hown : w1.ownsRow w0.heap.size 117 4 v k (cs.flatMap aS) := by
    have h := HO.out.keep dX.out
    unfold dM at h
    rwa [zn.out] at h
   have hbz := aD.out.size
   have b1 : k + 1 ≤ maxLen := by unfold maxLen; omega
   have b2 : (k + 1) * 64 ≤ 140737488355328 := by omega
   have b3 : w0.heap.size ≤ (w1.alloc (.cells #[.int .i64 cP.kind, .int .i64 cP.n, .slice cP.B cP.nb cP.cb, .slice cP.L cP.nl cP.cl] 117)).heap.size := by simp; omega
   go_wp2_with (at_builtin; refine wpList_append_lies rfl _ _ 115 rfl w0.heap.size 117 i0 (.agg #[.int .i64 0, .int .i64 0, .slice none 0 0, .slice none 0 0]) 4 64 Tryz.underlying115 hi hz0 hz1 hz2 rfl (by decide) v _ _ rfl (hown.alloc _) ⟨w1.heap.size, 0, none⟩ 1 1 [.int .i64 cP.kind, .int .i64 cP.n, .slice cP.B cP.nb cP.cb, .slice cP.L cP.nl cP.cl] rfl rfl (World.news_of_block (cs := #[.int .i64 cP.kind, .int .i64 cP.n, .slice cP.B cP.nb cP.cb, .slice cP.L cP.nl cP.cl]) (t := 117) (fr := (0, 0)) (heap_alloc_new w1 _)) (by simp [Value.oneCell']) (by decide) b1 b2 b3 _ rfl ?_; intro gg cap wz hown1 hgrow hgg hlt2)
   have hgz : (w1.alloc (.cells #[.int .i64 cP.kind, .int .i64 cP.n, .slice cP.B cP.nb cP.cb, .slice cP.L cP.nl cP.cl] 117)).heap.size ≤ wz.heap.size := hgrow.size
   have acW := dX.out.size
   have hsq : (w1.alloc (.cells #[.int .i64 cP.kind, .int .i64 cP.n, .slice cP.B cP.nb cP.cb, .slice cP.L cP.nl cP.cl] 117)).heap.size = w1.heap.size + 1 := by simp
   have xV : Hid (dM wz w0.heap.size (.slice (some ⟨gg, 0, none⟩) (k + 1) cap) (cs ++ [cP])) := aa (dM.app zn.out.symm (by simpa [aS] using hown1))
   have FZ : ∀ b, ((.slice (some ⟨gg, 0, none⟩) (k + 1) cap) : Value).ownBlock = some b → v.ownBlock = some b ∨ (w1.alloc (.cells #[.int .i64 cP.kind, .int .i64 cP.n, .slice cP.B cP.nb cP.cb, .slice cP.L cP.nl cP.cl] 117)).heap.size ≤ b := fun b e => by
    cases e
    rcases hgg with e | e
    · exact Or.inl e
    · exact Or.inr (show (w1.alloc (.cells #[.int .i64 cP.kind, .int .i64 cP.n, .slice cP.B cP.nb cP.cb, .slice cP.L cP.nl cP.cl] 117)).heap.size ≤ gg by omega)
   have uN : ∀ b, v.ownBlock = some b → b < wr.heap.size := fun b e => (World.ownsRow.lt HO.out b e).2
   have Qh : Hid (∀ j, j < k + 1 → ET ((.slice (some ⟨gg, 0, none⟩) (k + 1) cap) : Value).ownBlock w0.heap.size wz (EN (o.ps.getD j aF)) ((cs ++ [cP]).getD j default)) := aa (fun j hj => by
    by_cases e : j = k
    ·
     subst e
     rw [nU.out, show (cs ++ [cP]).getD j default = cP by rw [List.getD_eq_getElem?_getD, List.getElem?_append_right (by rw [zn.out]; exact Nat.le_refl _), zn.out, Nat.sub_self]; rfl]
     exact (((HIT.out.kept (af _ (.cells #[.int .i64 cP.kind, .int .i64 cP.n, .slice cP.B cP.nb cP.cb, .slice cP.L cP.nl cP.cl] 117))).g (lo := w0.heap.size) (by have := au.out.size; omega) (fun b e => uN b e)).grown hgrow hgz FZ)
    ·
     rw [show (cs ++ [cP]).getD j default = cs.getD j default by rw [List.getD_eq_getElem?_getD, List.getElem?_append_left (by rw [zn.out]; omega), ← List.getD_eq_getElem?_getD]]
     exact (((HG.out j (by omega)).kept (ag dX.out (af _ (.cells #[.int .i64 cP.kind, .int .i64 cP.n, .slice cP.B cP.nb cP.cb, .slice cP.L cP.nl cP.cl] 117)))).grown hgrow hgz FZ))
   have jF : Hid (Below w0.heap.size w0 wz) := aa ((aD.out.alloc (by omega) (.cells #[.int .i64 cP.kind, .int .i64 cP.n, .slice cP.B cP.nb cP.cb, .slice cP.L cP.nl cP.cl] 117)).grown hgrow (by simp; omega) (fun j hj => by have := (World.ownsRow.lt HO.out j hj).1; omega))
   have UH : Hid ((cs ++ [cP]).length = k + 1) := aa (by rw [List.length_append, zn.out]; rfl)
   clear hown hown1 hgrow hgg hlt2 FZ uN b1 b2 b3
   go_roundw
   case rel => exact ⟨k + 1, _, by omega, by go_num, UH, xV, Qh, jF⟩
   case measure => simp [intOf]; omega
  ·
   have hke : k = o.np := by omega
   obtain ⟨L5, J5, hv5, Mm⟩ := Hy (l := o.ps.map EN) (lo := w0.heap.size) HO.out zn.out (by rw [List.length_map, VG, hke]) (Nat.le_refl _) (fun j hj => by
    rw [show (o.ps.map EN).getD j default = EN (o.ps.getD j aF) by rw [List.getD_eq_getElem?_getD, List.getElem?_map, List.getD_eq_getElem?_getD, List.getElem?_eq_getElem (show j < o.ps.length by omega)]; rfl]
    exact (HG.out j hj).s)
   subst hv5
   have Uz := aa Mm
   have U4 := aa hke
   clear Mm HO HG hke
   have lW := bS wr
   have kA := aa (show ∀ u : World, Hid (Below wr.heap.size wr u) → Hid (Sl u o.A o.al) from fun u h => aa ((kO.out _ au).out.2.2.2.1.below h.out))
   have kZ := aa (show ∀ u : World, Hid (Below wr.heap.size wr u) → Hid (Sl u o.Z o.zs) from fun u h => aa ((kO.out _ au).out.2.2.2.2.1.below h.out))
   obtain ⟨q1, q2⟩ : Hid (o.al.length = o.na) ∧ Hid (o.zs.length = o.nz) := ⟨aa (kO.out _ au).out.1, aa (kO.out _ au).out.2.1⟩
   have QU : o.na ≤ 20 := by rw [← q1.out]; exact hs.a
   have QT : o.nz ≤ 20 := by rw [← q2.out]; exact hs.z
   have zc := kC.out _ au
   go_upto_region 6 with (fail)
   clear zc
   have hO := aa (fun (u : World) (h : Hid (Below w0.heap.size w0 u ∧ Below wr.heap.size wr u)) => kC.out u (aa h.out.1))
   have mP := bb2 (aa ⟨au.out, lW.out⟩) (Below.refl _ _).drew
   refine t_ (fun u => Below w0.heap.size w0 u ∧ Below wr.heap.size wr u) [16] mP (fun hHeld => ?_)
   obtain ⟨wD, mI⟩ : ∃ u, wr.drew = u := ⟨_, rfl⟩
   rw [mI] at mP hHeld ⊢
   have zk : Hid (wr.heap.size ≤ wD.heap.size) := aa (by rw [← mI]; exact Nat.le_refl _)
   clear mI
   refine aT 0 1 3 4 ?_
   refine aT 6 7 9 11 ?_
   refine aH 12 ?_
   have FB := mP
   refine bW 2 fun K hK => ?_
   go_simp
   refine (mZ o.num _).mono ?_
   rintro e u1 ⟨rfl, hq⟩
   have aR := bb2 FB hq
   refine hK.out _ _ aR (fun hHeld => ?_)
   clear hK K hHeld
   have FB := aR
   clear aR
   try simp only [qq, Ic.val, Ic.cs, aM, aL]
   refine bW 5 fun K hK => ?_
   go_simp
   refine (Df o.rs hs.r0 (by have := hs.r1; omega) _).mono ?_
   rintro e u2 ⟨cR, rfl, hit, hq⟩
   have aR := bb2 FB hq
   refine hK.out _ _ aR (fun hHeld => ?_)
   clear hK K hHeld
   have HR := (aa (hit.mono (by have := FB.out.1.size; omega)))
   have FB := aR
   clear aR
   try simp only [qq, Ic.val, Ic.cs, aM, aL]
   refine bW 8 fun K hK => ?_
   go_simp
   refine (yH o.E1 o.E2 o.A o.na o.ca o.al o.C o.Z o.nz o.cz o.zs q1 q2 (by omega) (by omega) _ (kA.out _ (aa FB.out.2)) (kZ.out _ (aa FB.out.2))).mono ?_
   rintro e u3 ⟨cE, rfl, hit, hq⟩
   have aR := bb2 FB hq
   refine hK.out _ _ aR (fun hHeld => ?_)
   clear hK K hHeld
   have HR := aa (HR.out.kept hq)
   have HE := (aa (hit.mono (by have := FB.out.1.size; omega)))
   have FB := aR
   clear aR
   try simp only [qq, Ic.val, Ic.cs, aM, aL]
   refine bW 10 fun K hK => ?_
   go_simp
   refine (qH L5 k J5 _).mono ?_
   rintro e u4 ⟨rfl, hq⟩
   have aR := bb2 FB hq
   refine hK.out _ _ aR (fun hHeld => ?_)
   clear hK K hHeld
   have HR := aa (HR.out.kept hq)
   have HE := aa (HE.out.kept hq)
   have FB := aR
   clear aR
   try simp only [qq, Ic.val, Ic.cs, aM, aL]
   refine bW 13 fun K hK => ?_
   go_simp
   refine (mZ o.key _).mono ?_
   rintro e u5 ⟨rfl, hq⟩
   have aR := bb2 FB hq
   refine hK.out _ _ aR (fun hHeld => ?_)
   clear hK K hHeld
   have HR := aa (HR.out.kept hq)
   have HE := aa (HE.out.kept hq)
   have FB := aR
   clear aR
   try simp only [qq, Ic.val, Ic.cs, aM, aL]
   obtain ⟨u6, hw, HQ, -, -, -⟩ := sI (.cells #[.int .i64 1, .int .i64 o.num, .slice none 0 0, .slice none 0 0, .int .i64 cR.kind, .int .i64 cR.n, .slice cR.B cR.nb cR.cb, .slice cR.L cR.nl cR.cl, .int .i64 cE.kind, .int .i64 cE.n, .slice cE.B cE.nb cE.cb, .slice cE.L cE.nl cE.cl, .int .i64 3, .int .i64 0, .slice none 0 0, .slice L5 k J5, .int .i64 1, .int .i64 o.key, .slice none 0 0, .slice none 0 0] 117) xO u5
   have mO := aa hw
   clear hw
   refine bW 14 fun K hK => ?_
   go_simp
   rw [mO.out]
   have aR := bb2 FB HQ.out
   refine hK.out _ _ aR (fun hHeld => ?_)
   clear hK K hHeld
   have HR := aa (HR.out.kept HQ.out)
   have HE := aa (HE.out.kept HQ.out)
   have FL : Hid (u6.heap[(u5.heap.size)]? = some (.cells #[.int .i64 1, .int .i64 o.num, .slice none 0 0, .slice none 0 0, .int .i64 cR.kind, .int .i64 cR.n, .slice cR.B cR.nb cR.cb, .slice cR.L cR.nl cR.cl, .int .i64 cE.kind, .int .i64 cE.n, .slice cE.B cE.nb cE.cb, .slice cE.L cE.nl cE.cl, .int .i64 3, .int .i64 0, .slice none 0 0, .slice L5 k J5, .int .i64 1, .int .i64 o.key, .slice none 0 0, .slice none 0 0] 117)) := by rw [← mO.out]; exact (aa (heap_alloc_new u5 _))
   have kQ : Hid (w0.heap.size ≤ (u5.heap.size)) := (aa (by have := FB.out.1.size; omega))
   obtain ⟨gL, hg⟩ : ∃ x, u5.heap.size = x := ⟨_, rfl⟩
   rw [hg] at FL kQ ⊢
   clear hg
   have FB := aR
   clear aR mO HQ
   try simp only [qq, Ic.val, Ic.cs, aM, aL]
   refine bW 15 fun K hK => ?_
   go_simp
   refine (qH (some ⟨gL, 0, none⟩) 5 5 _).mono ?_
   rintro e u ⟨rfl, hq⟩
   have aR := bb2 FB hq
   refine hK.out _ _ aR (fun hHeld => ?_)
   clear hK K hHeld
   have HR := aa (HR.out.kept hq)
   have HE := aa (HE.out.kept hq)
   have FL := aa (bE FL.out hq)
   have kQ := kQ
   have FB := aR
   clear aR
   try simp only [qq, Ic.val, Ic.cs, aM, aL]
   have hHeld := FB
   have hT := trivial
   have ha0 := trivial
   have sK := aa FB.out.1
   have Q5 := aa FB.out.2
   have oN := yV.out _ (aa FB.out.1)
   refine mR 16 fun K hK => ?_
   rw [show (if Region.wanted _ _ = true then _ else _ : Prop) = _ from if_pos rfl]
   refine wp_store_row 117 _ _ rfl (w.heap.size + 1) (Ic.cs (Ic.mk 3 0 none 0 0 (some ⟨gL, 0, none⟩) 5 5)) rfl rfl 117 _ oN.out (b_ _) rfl (je _) ?_
   refine hK.out _ _ ?_
   clear hK K
   try simp only [qq]
   refine gz ?_
   have hit : qa w0.heap.size u (JZ o) (Ic.mk 3 0 none 0 0 (some ⟨gL, 0, none⟩) 5 5) := rF (fun k9 => match k9 with | 0 => aM o.num | 1 => cR | 2 => cE | 3 => ⟨3, 0, none, 0, 0, L5, k, J5⟩ | _ => aM o.key) FL.out kQ.out rfl (fun k9 hk => by
     rcases (show k9 = 0 ∨ k9 = 1 ∨ k9 = 2 ∨ k9 = 3 ∨ k9 = 4 by omega) with rfl | rfl | rfl | rfl | rfl <;> exact ⟨rfl, rfl, rfl, rfl⟩) (fun k9 hk => by
     rcases (show k9 = 0 ∨ k9 = 1 ∨ k9 = 2 ∨ k9 = 3 ∨ k9 = 4 by omega) with rfl | rfl | rfl | rfl | rfl
     · exact nA _ _ _
     · exact HR.out
     · exact HE.out
     · exact Uz.out.kept FB.out.2
     · exact nA _ _ _)
   have hit2 := (hit.setRow (g := w.heap.size + 1) (by have := nQ.out; omega) (Ic.cs (Ic.mk 3 0 none 0 0 (some ⟨gL, 0, none⟩) 5 5))).mono (lo' := w.heap.size) (by have := nQ.out; omega)
   have bV := aj (ag ai.out FB.out.1) (cs := Ic.cs (Ic.mk 3 0 none 0 0 (some ⟨gL, 0, none⟩) 5 5)) (Nat.le_add_right w.heap.size 1)
   have hrw := setRow_heap _ _ _ (Ic.cs (Ic.mk 3 0 none 0 0 (some ⟨gL, 0, none⟩) 5 5)) _ _ oN.out
   go_wp2
   exact bodyPost_ret (v := (Ic.mk 3 0 none 0 0 (some ⟨gL, 0, none⟩) 5 5).val) (aC (p := 2) (ty := 117) rfl _ _ ⟨w.heap.size + 1, 0, none⟩ _ rfl (run_loadVar_row _ _ _ _ _ _ _ hrw Tryz.underlying117 rfl (b_ _))) rfl ⟨_, rfl, hit2, bV⟩
theorem I6 (h : List Int) (hl : Hid (h.length = 32)) (hb : Hid (az h = true)) (o : aJ) (hi : Hid (gP o)) (hs : lD o) (w : World) (hv : Hid (bF w)) (ho : Hid (gy w o)) :
  Calls Tryz.prog 90 #[.agg (arr .u8 h), wU o] w (Rt w (.agg (arr .u8 (Jk h o)))) := by
 obtain ⟨RR, hRR⟩ : ∃ R, tagged (aU um) (enc (Ar h o)) = R := ⟨_, rfl⟩
 rw [show Jk h o = tagged (aU um) (enc (Ar h o)) from rfl, hRR]
 have HRR : Kp (tagged (aU um) (enc (Ar h o)) = RR) := ⟨hRR⟩
 have fo : Hid (RR.length = 32) := aa (by rw [← hRR]; exact dF _ _)
 have jC : Hid (fits 8 (Ar h o)) := aa (MI hl.out hb.out hi.out hs)
 have HLEN : Hid ((enc (Ar h o)).length ≤ 16384) := aa (QK hl.out hs)
 clear hRR
 obtain ⟨E, hE⟩ : ∃ E, enc (Ar h o) = E := ⟨_, rfl⟩
 have JR : Hid (az E = true) := aa (by rw [← hE]; exact jO jC.out)
 have vC : Hid (0 < E.length ∧ E.length ≤ 16384) := aa (by rw [← hE]; exact ⟨nD _, HLEN.out⟩)
 have GG : Kp (enc (Ar h o) = E) := ⟨hE⟩
 obtain ⟨nE, Pp⟩ : ∃ n, E.length = n := ⟨_, rfl⟩
 have X5 := aa Pp
 have he0 : 0 < nE := by rw [← Pp]; exact vC.out.1
 have he1 : nE ≤ 16384 := by rw [← Pp]; exact vC.out.2
 clear hE Pp
 obtain ⟨w0, HW, ai, kC⟩ := qF (.cells (arr .u8 h) 41) bp0 (vo o) Yz (.cells z32 41) xO w
 have kO := gV (fun u => gy u o) ai ho (·.below)
 have kD := r_ ai hv
 have VP := aa (show ∀ u : World, Hid (Below w0.heap.size w0 u) → Hid (bB .u8 41 u w.heap.size h) from fun u h9 => aa (bB.below (by rw [← HW.out]; exact ((bB.new w h).old _).old _) h9.out))
 have yV := aa (show ∀ u : World, Hid (Below w0.heap.size w0 u) → Hid (bB .u8 41 u (w.heap.size + 2) (dD 32)) from fun u h9 => aa (bB.below (by rw [← HW.out, iP]; exact gU _ _ _ _) h9.out))
 have ah := bS w0
 clear ho hv
 go_in
 go_upto_region 1 with (fail)
 rw [HW.out]
 have zc := kC.out _ ah
 have nQ : Hid (w0.heap.size = w.heap.size + 3) := aa (by rw [← HW.out]; simp)
 have kHg := aa (show ∀ u : World, Hid (Below w0.heap.size w0 u) → bB .u8 41 u w.heap.size h from fun u h9 => (VP.out u h9).out)
 clear zc
 have hO := aa (fun (u : World) (h : Hid (Below w0.heap.size w0 u)) => And.intro (kC.out u h) (kHg.out u h))
 have mP := bY (aa ah.out) (Below.refl _ _).drew
 refine t_ (fun u => Below w0.heap.size w0 u) [8] mP (fun hHeld => ?_)
 obtain ⟨wD, mI⟩ : ∃ u, w0.drew = u := ⟨_, rfl⟩
 rw [mI] at mP hHeld ⊢
 have zk : Hid (w0.heap.size ≤ wD.heap.size) := aa (by rw [← mI]; exact Nat.le_refl _)
 clear mI
 refine Bc 0 (.agg (arr .u8 h)) rfl (fI 41 _ rfl w.heap.size rfl _ _ _ _ (fun _ hq => kHg.out _ hq) Tryz.underlying41 rfl (ax hl.out)) ?_
 refine aH 2 ?_
 have FB := mP
 refine bW 1 fun K hK => ?_
 go_simp
 refine (uA h hl _).mono ?_
 rintro e u1 ⟨eP, rfl, hit, hq⟩
 have aR := bY FB hq
 refine hK.out _ _ aR (fun hHeld => ?_)
 clear hK K hHeld
 have HB := (aa (hit.mono (by have := FB.out.size; omega)))
 have FB := aR
 clear aR
 try simp only [qq, Ic.val, Ic.cs, aM, aL]
 refine bW 3 fun K hK => ?_
 go_simp
 refine (I9 o hs _ (kO.out _ (aa FB.out))).mono ?_
 rintro e u2 ⟨cO, rfl, hit, hq⟩
 have aR := bY FB hq
 refine hK.out _ _ aR (fun hHeld => ?_)
 clear hK K hHeld
 have HB := aa (HB.out.kept hq)
 have HO := (aa (hit.mono (by have := FB.out.size; omega)))
 have FB := aR
 clear aR
 try simp only [qq, Ic.val, Ic.cs, aM, aL]
 obtain ⟨u3, hw, HQ, -, -, -⟩ := sI (.cells #[.int .i64 eP.kind, .int .i64 eP.n, .slice eP.B eP.nb eP.cb, .slice eP.L eP.nl eP.cl, .int .i64 cO.kind, .int .i64 cO.n, .slice cO.B cO.nb cO.cb, .slice cO.L cO.nl cO.cl] 117) xO u2
 have mO := aa hw
 clear hw
 refine bW 4 fun K hK => ?_
 go_simp
 rw [mO.out]
 have aR := bY FB HQ.out
 refine hK.out _ _ aR (fun hHeld => ?_)
 clear hK K hHeld
 have HB := aa (HB.out.kept HQ.out)
 have HO := aa (HO.out.kept HQ.out)
 have FL : Hid (u3.heap[(u2.heap.size)]? = some (.cells #[.int .i64 eP.kind, .int .i64 eP.n, .slice eP.B eP.nb eP.cb, .slice eP.L eP.nl eP.cl, .int .i64 cO.kind, .int .i64 cO.n, .slice cO.B cO.nb cO.cb, .slice cO.L cO.nl cO.cl] 117)) := by rw [← mO.out]; exact (aa (heap_alloc_new u2 _))
 have kQ : Hid (w0.heap.size ≤ (u2.heap.size)) := (aa (by have := FB.out.size; omega))
 obtain ⟨gL, hg⟩ : ∃ x, u2.heap.size = x := ⟨_, rfl⟩
 rw [hg] at FL kQ ⊢
 clear hg
 have FB := aR
 clear aR mO HQ
 try simp only [qq, Ic.val, Ic.cs, aM, aL]
 refine bW 5 fun K hK => ?_
 go_simp
 refine (qH (some ⟨gL, 0, none⟩) 2 2 _).mono ?_
 rintro e u4 ⟨rfl, hq⟩
 have aR := bY FB hq
 refine hK.out _ _ aR (fun hHeld => ?_)
 clear hK K hHeld
 have HB := aa (HB.out.kept hq)
 have HO := aa (HO.out.kept hq)
 have FL := aa (bE FL.out hq)
 have kQ := kQ
 have FB := aR
 clear aR
 try simp only [qq, Ic.val, Ic.cs, aM, aL]
 refine bW 6 fun K hK => ?_
 go_simp
 have hit : nO u4 (Ar h o) (Ic.mk 3 0 none 0 0 (some ⟨gL, 0, none⟩) 2 2) := uK (fun k => match k with | 0 => eP | _ => cO) FL.out rfl (fun k hk => by
   rcases (show k = 0 ∨ k = 1 by omega) with rfl | rfl <;> exact ⟨rfl, rfl, rfl, rfl⟩) (fun k hk => by
   rcases (show k = 0 ∨ k = 1 by omega) with rfl | rfl
   · exact HB.out.it
   · exact HO.out.it)
 refine (uz 8 (Ar h o) (Ic.mk 3 0 none 0 0 (some ⟨gL, 0, none⟩) 2 2) _ jC.out hit HLEN.out).mono ?_
 rintro e u5 ⟨v4, rfl, zI, hq⟩
 rw [GG.1] at zI
 obtain ⟨gE, cE, e4, hg4, -, -, qR⟩ := zI.cells vC.out.1
 rw [X5.out] at e4
 subst e4
 clear hit zI
 have aR := bY FB hq
 refine hK.out _ _ aR (fun hHeld => ?_)
 clear hK K hHeld
 have HB := aa (HB.out.kept hq)
 have HO := aa (HO.out.kept hq)
 have FL := aa (bE FL.out hq)
 have kQ := kQ
 have FE := (aa qR)
 have FB := aR
 clear aR
 try simp only [qq, Ic.val, Ic.cs, aM, aL]
 refine bW 7 fun K hK => ?_
 go_simp
 refine (kg um (by decide) (by decide) gE 0 cE E nE X5 he0 (by omega) JR _ FE).mono ?_
 rintro e u ⟨rfl, hq⟩
 rw [← GG.1, HRR.1]
 have aR := bY FB hq
 refine hK.out _ _ aR (fun hHeld => ?_)
 clear hK K hHeld
 have HB := aa (HB.out.kept hq)
 have HO := aa (HO.out.kept hq)
 have FL := aa (bE FL.out hq)
 have kQ := kQ
 have FE := aa (FE.out.below hq)
 have FB := aR
 clear aR
 try simp only [qq, Ic.val, Ic.cs, aM, aL]
 have hHeld := FB
 have hT := trivial
 have ha0 := trivial
 have sK := FB
 have oN := yV.out _ (aa FB.out)
 refine mR 8 fun K hK => ?_
 rw [show (if Region.wanted _ _ = true then _ else _ : Prop) = _ from if_pos rfl]
 refine wp_store_row 41 _ _ rfl (w.heap.size + 2) (arr .u8 RR) rfl rfl 41 _ oN.out (ax fo.out) (dY (l := dD 32) rfl fo.out) (cu _) ?_
 refine hK.out _ _ ?_
 clear hK K
 try simp only [qq]
 refine gz ?_
 have bV := aj (ag ai.out FB.out) (cs := arr .u8 RR) (Nat.le_add_right w.heap.size 2)
 have hrw := oN.out.setRow (l' := RR)
 go_wp2
 exact bodyPost_ret (v := .agg (arr .u8 RR)) (aC (p := 4) (ty := 41) rfl _ _ ⟨w.heap.size + 2, 0, none⟩ _ rfl (run_loadVar_row _ _ _ _ _ _ _ hrw Tryz.underlying41 rfl (ax fo.out))) rfl ⟨rfl, bV⟩
theorem Ig : (Tryz.prog.info? 217).map (·.size) = some 2 := by kernel_rfl
theorem PS : liesAt Tryz.prog Tryz.prog.depth 217 (2 / Tryz.prog.cellsOf 217) 0 217 1 = true := by kernel_rfl
def oP (w : World) (b : Nat) (p v : Value) : Prop := w.heap[b]? = some (.cells #[p, v] 217 (0, 0))
theorem oP.cells {w : World} {b : Nat} {p v : Value} (h : oP w b p v) : (w.cell? ⟨b, 0, none⟩ = some p ∧ w.cell? ⟨b, 1, none⟩ = some v) ∧ w.frozen? ⟨b, 0, none⟩ = false ∧ w.frozen? ⟨b, 1, none⟩ = false :=
 ⟨⟨ak h 0, ak h 1⟩, aX h 0, aX h 1⟩
theorem oP.lt {w : World} {b : Nat} {p v : Value} (h : oP w b p v) : b < w.heap.size := (Array.getElem?_eq_some_iff.1 h).1
theorem oP.set0 {w : World} {b : Nat} {p v : Value} (h : oP w b p v) (q : Value) : oP (w.setCell ⟨b, 0, none⟩ q) b q v := by
 unfold oP
 rw [heap_setCell_same _ _ _ _ _ _ h]
 rfl
theorem oP.set1 {w : World} {b : Nat} {p v : Value} (h : oP w b p v) (q : Value) : oP (w.setCell ⟨b, 1, none⟩ q) b p q := by
 unfold oP
 rw [heap_setCell_same _ _ _ _ _ _ h]
 rfl
theorem oP.shape {w : World} {b : Nat} {p v : Value} (h : oP w b p v) : w.shape? b = some (217, 2) := by
 unfold oP at h
 simp [World.shape?, h]
theorem M9 (b : Nat) (v : Value) (w : World) (hB : Hid (oP w b (.pointer none) v)) :
  Calls Tryz.prog 224 #[.pointer (some ⟨b, 0, none⟩)] w fun e w' => (∃ u, e = .returned u) ∧ w' = w.setCell ⟨b, 0, none⟩ (.pointer (some ⟨b, 0, none⟩)) := by
 obtain ⟨⟨c0, c1⟩, f0, f1⟩ := hB.out.cells
 obtain ⟨j, hj, hjs⟩ := Option.map_eq_some_iff.1 Ig
 have hsh := hB.out.shape
 have t1 := Lib.run_to_unsafe (P := Tryz.prog) w ⟨b, 0, none⟩ Tryz.underlying215 Tryz.underlying258 hj (by rw [hjs]; decide) hsh (Nat.zero_lt_succ 1)
 have t2 := Lib.run_from_unsafe (P := Tryz.prog) w ⟨b, 0, none⟩ Tryz.underlying258 Tryz.underlying215 hj hsh PS
 go_in
 go_wp2
 rw [run_callFunc_extern Tryz.func247 (by kernel_rfl) (by kernel_rfl) (by kernel_rfl) (e := Extern.AbiNoEscape.same) (by kernel_rfl), Lib.run_noEscape]
 simp only [Result.andThen]
 rw [Oper.upon_value]
 go_wp2
 go_end0
 exact ⟨⟨_, rfl⟩, rfl⟩
theorem M_ (b : Nat) (v : Value) (w : World) (hB : Hid (oP w b (.pointer (some ⟨b, 0, none⟩)) v)) :
  Calls Tryz.prog 224 #[.pointer (some ⟨b, 0, none⟩)] w fun e w' => (∃ u, e = .returned u) ∧ w' = w := by
 obtain ⟨⟨c0, c1⟩, f0, f1⟩ := hB.out.cells
 obtain ⟨j, hj, hjs⟩ := Option.map_eq_some_iff.1 Ig
 have t3 := Lib.run_neq_ptr_same (P := Tryz.prog) w ⟨b, 0, none⟩ Tryz.underlying215 hj
 go_in
 go_wp2
 go_end0
 exact ⟨⟨_, rfl⟩, rfl⟩
def NY (w : World) (b : Nat) (l : List Int) : Prop := ∃ p v, (p = .pointer none ∨ p = .pointer (some ⟨b, 0, none⟩)) ∧ oP w b p v ∧ aQ .u8 5 w (b + 1) v l
theorem z8 (b : Nat) (l : List Int) (c : Int) (hlen : l.length ≤ 100000) (w : World) (hB : Hid (NY w b l)) :
  Calls Tryz.prog 203 #[.pointer (some ⟨b, 0, none⟩), .int .u8 c] w fun e w' => (∃ u, e = .returned u) ∧ NY w' b (l ++ [c]) ∧ Below b w w' := by
 obtain ⟨p, v, hp, hblk, hown⟩ := hB.out
 obtain ⟨i0, hi, hz0, hz1, hz2⟩ := info_parts dO
 have zR := aa hblk
 have HOw := aa hown
 have hbw := hblk.lt
 have hcc : Calls Tryz.prog 224 #[.pointer (some ⟨b, 0, none⟩)] w fun e w' => (∃ u, e = .returned u) ∧ Hid (oP w' b (.pointer (some ⟨b, 0, none⟩)) v) ∧ Hid (aQ .u8 5 w' (b + 1) v l) ∧ Hid (Below b w w') := by
  rcases hp with rfl | rfl
  ·
   refine (M9 b v w zR).mono ?_
   rintro e w' ⟨h1, rfl⟩
   exact ⟨h1, aa (zR.out.set0 _), aa (HOw.out.kept (yY b 0 _) (Or.inr (fun e => by have := (World.ownsRow.lt HOw.out _ e).1; omega))), aa ((Below.refl b w).setCell (Nat.le_refl b) _)⟩
  ·
   refine (M_ b v w zR).mono ?_
   rintro e w' ⟨h1, rfl⟩
   exact ⟨h1, zR, HOw, aa (Below.refl b _)⟩
 clear hp hblk hown hB
 have HCC := aa hcc
 clear hcc
 go_in
 go_wp2_with fail
 refine HCC.out.mono ?_
 rintro e w1 ⟨⟨u, rfl⟩, HB1, zm, Ka⟩
 clear HCC
 obtain ⟨⟨c0, c1⟩, f0, f1⟩ := HB1.out.cells
 have hb1 := HB1.out.lt
 have hown := zm.out.row rfl
 have hsz := Ka.out.size
 have hcnt : b < w1.heap.size := hb1
 have b1 : l.length + 1 ≤ maxLen := by unfold maxLen; omega
 have b2 : (l.length + 1) * 1 ≤ 140737488355328 := by omega
 have b3 : b + 1 ≤ (w1.alloc (.cells #[.int .u8 c] 5)).heap.size := by simp; omega
 go_wp2_with (at_builtin; refine wpList_append_lies rfl _ _ 114 rfl (b + 1) 5 i0 (.int .u8 0) 1 1 Tryz.underlying114 hi hz0 hz1 hz2 rfl (by decide) v _ _ rfl (hown.alloc _) ⟨w1.heap.size, 0, none⟩ 1 1 [.int .u8 c] rfl rfl (World.news_of_block (cs := #[.int .u8 c]) (t := 5) (fr := (0, 0)) (heap_alloc_new w1 _)) (by simp [Value.oneCell']) (by decide) b1 b2 b3 _ rfl ?_; intro gg cap wz hown1 hgrow hat hlt2; have hne : v.ownBlock ≠ some b := fun e => absurd (World.ownsRow.lt hown b e).1 (by omega); have qC : Hid (oP wz b (.pointer (some ⟨b, 0, none⟩)) v) := aa ((hgrow.block b (by simp; omega) (Ne.symm hne)).trans ((heap_alloc_old w1 _ hb1).trans HB1.out)); obtain ⟨⟨z0, z1⟩, y0, y1⟩ := qC.out.cells)
 have JO : Hid (aQ .u8 5 wz (b + 1) (.slice (some ⟨gg, 0, none⟩) (l.length + 1) cap) (l ++ [c])) := aa (aQ.app (ys := [c]) rfl rfl hown1)
 have HLz : Hid (Below b w wz) := aa ((Ka.out.alloc (by omega) (.cells #[.int .u8 c] 5)).grown hgrow (by simp; omega) (fun j hj => by have := (World.ownsRow.lt hown j hj).1; omega))
 have HNe : Hid (b ≠ gg) := aa (by
  rcases hat with h2 | h2
  · have := (World.ownsRow.lt hown gg h2).1; omega
  · simp at h2; omega)
 go_ret
 refine ⟨⟨_, rfl⟩, ⟨_, _, Or.inr rfl, qC.out.set1 _, JO.out.kept (yY b 1 _) (Or.inr (fun e => HNe.out (by simpa [Value.ownBlock] using e.symm)))⟩, HLz.out.setCell (Nat.le_refl b) _⟩
theorem Ms : Tryz.prog.underlying 41 = some (.array 32 5) := by kernel_rfl
theorem Ju {l : List Int} (hl : l.length = 32) {k : Nat} (hk : k < 32) (w : World) : (Instr.index 41 (.agg (arr .u8 l)) (.int .i64 (k : Int))).run Tryz.prog w = .ok (.int .u8 (l.getD k 0)) w := by
 obtain ⟨i1, hi1, hy0, hy1, hy2⟩ := info_parts dO
 have h0 : (0 : Int) ≤ k ∧ (k : Int) < ((32 : Nat) : Int) := by omega
 have h1 : (arr .u8 l)[k]? = some (.int .u8 (l.getD k 0)) := xQ (by omega)
 simp only [Instr.index, asIntOf, run_underlying Ms, h0, go_sem]
 simp [h1, hk, go_sem]
def oz (q : Int) : Int := if q < 10 then 48 + q else 87 + q
theorem DX : ∀ n : Nat, n < 16 → ∀ w, (Instr.index 9 (.string ⟨#[48, 49, 50, 51, 52, 53, 54, 55, 56, 57, 97, 98, 99, 100, 101, 102]⟩) (.int .u8 (n : Int))).run Tryz.prog w = .ok (.int .u8 (oz n)) w
 | 0, _ => fun w => by kernel_rfl
 | 1, _ => fun w => by kernel_rfl
 | 2, _ => fun w => by kernel_rfl
 | 3, _ => fun w => by kernel_rfl
 | 4, _ => fun w => by kernel_rfl
 | 5, _ => fun w => by kernel_rfl
 | 6, _ => fun w => by kernel_rfl
 | 7, _ => fun w => by kernel_rfl
 | 8, _ => fun w => by kernel_rfl
 | 9, _ => fun w => by kernel_rfl
 | 10, _ => fun w => by kernel_rfl
 | 11, _ => fun w => by kernel_rfl
 | 12, _ => fun w => by kernel_rfl
 | 13, _ => fun w => by kernel_rfl
 | 14, _ => fun w => by kernel_rfl
 | 15, _ => fun w => by kernel_rfl
 | n + 16, h => fun w => absurd h (by omega)
theorem pJ {q : Int} (h0 : 0 ≤ q) (h1 : q < 16) (w : World) : (Instr.index 9 (.string ⟨#[48, 49, 50, 51, 52, 53, 54, 55, 56, 57, 97, 98, 99, 100, 101, 102]⟩) (.int .u8 q)).run Tryz.prog w = .ok (.int .u8 (oz q)) w := by
 obtain ⟨n, rfl⟩ : ∃ n : Nat, q = n := ⟨q.toNat, by omega⟩
 exact DX n (by omega) w
def jr (l : List Int) : List Int := l.flatMap fun x => [oz (x / 16), oz (x % 16)]
theorem mJ (l : List Int) : (jr l).length = 2 * l.length := by
 induction l with
 | nil => rfl
 | cons x t ih => simp [jr] at ih ⊢; omega
theorem DZ (l m : List Int) : jr (l ++ m) = jr l ++ jr m := by simp [jr]
def txt (l : List Int) : ByteArray := ⟨(l.map fun x => UInt8.ofNat x.toNat).toArray⟩
def NN (l : List Int) : Prop := ∀ x ∈ l, 0 ≤ x ∧ x < 256
theorem zM {l : List Int} (h : NN l) : Lib.byteCells (l.map fun x => UInt8.ofNat x.toNat) = l.map (Value.int .u8) := by
 unfold Lib.byteCells
 rw [List.map_map]
 apply List.map_congr_left
 intro x hx
 have := h x hx
 simp only [Function.comp, UInt8.toNat_ofNat']
 congr 1
 omega
theorem Mq {q : Int} (h0 : 0 ≤ q) (h1 : q < 16) : 0 ≤ oz q ∧ oz q < 256 := by unfold oz; split <;> omega
theorem Mr {l : List Int} (h : NN l) : NN (jr l) := by
 intro y hy
 obtain ⟨x, hx, hy2⟩ := List.mem_flatMap.1 hy
 have := h x hx
 simp only [List.mem_cons, List.not_mem_nil, or_false] at hy2
 rcases hy2 with rfl | rfl
 · exact Mq (by omega) (by omega)
 · exact Mq (by omega) (by omega)
theorem NY.is {w : World} {b : Nat} {l : List Int} (h : NY w b l) (hb : NN l) : Lib.IsBuilder 217 5 b b (Lib.byteCells (l.map fun x => UInt8.ofNat x.toNat)) w := by
 obtain ⟨p, v, hp, hblk, hown⟩ := h
 have h2 : Lib.BuilderAt 217 5 b b p (Lib.byteCells (l.map fun x => UInt8.ofNat x.toNat)) w := by
  refine ⟨Nat.le_refl b, v, hblk, ?_, ?_⟩
  ·
   rw [zM hb]
   have h3 := (hown.mono (Nat.le_succ b))
   unfold aQ at h3
   simpa using h3
  · exact fun e => absurd (World.ownsRow.lt hown b e).1 (by omega)
 rcases hp with rfl | rfl
 · exact Or.inl h2
 · exact Or.inr h2
theorem NY.new (w : World) : NY (w.alloc (.cells #[.pointer none, .slice none 0 0] 217)) w.heap.size [] :=
 ⟨_, _, Or.inl rfl, heap_alloc_new _ _, ⟨rfl, Or.inl ⟨rfl, rfl⟩⟩⟩
theorem WQ {x : Int} (h0 : 0 ≤ x) (h1 : x < 256) : bits .and .u8 x 15 = x % 16 := by
 obtain ⟨n, rfl⟩ : ∃ n : Nat, x = n := ⟨x.toNat, by omega⟩
 have h2 : ∀ m : Nat, m < 256 → bits .and .u8 (m : Int) 15 = (m : Int) % 16 := by decide
 exact h2 n (by omega)
theorem Pq (h : List Int) (hl : Hid (h.length = 32)) (hb : Hid (NN h)) (w : World) :
  Calls Tryz.prog 171 #[.agg (arr .u8 h)] w (Rt w (.string (txt (jr h)))) := by
 obtain ⟨W, hW⟩ : ∃ W, (w.alloc (.cells (arr .u8 h) 41)).alloc (.cells #[.pointer none, .slice none 0 0] 217) = W := ⟨_, rfl⟩
 have hb0 : (w.alloc (.cells (arr .u8 h) 41)).heap.size = w.heap.size + 1 := by simp
 have HB0 : Hid (Below w.heap.size w W) := aa (by rw [← hW]; exact ((af w _).alloc (by simp) _))
 have HBb : Hid (NY W (w.heap.size + 1) []) := aa (by rw [← hW, ← hb0]; exact NY.new _)
 have HT : Hid (bB .u8 41 W w.heap.size h) := aa (by rw [← hW]; exact (bB.new w h).old _)
 have HW := aa hW
 clear hW hb0
 go_in
 go_upto_region 2 with (fail)
 rw [HW.out]
 go_wp2_with ((with_reducible show wpList _ _ _ (⟨some 6, _, _, _, _, _⟩ :: _) _ _); refine wpList_load_row rfl 41 _ rfl w.heap.size rfl _ _ _ _ HT.out Tryz.underlying41 rfl (ax hl.out) ?_)
 clear HW HT
 go_loopw [7] (fun i u => ∃ k : Nat, k ≤ 32 ∧ i = .int .i64 k ∧ Hid (NY u (w.heap.size + 1) (jr (h.take k))) ∧ Hid (Below w.heap.size w u)) (fun i _ => 32 - (intOf i).toNat)
 case atStart => exact ⟨0, by omega, by simp, HBb, HB0⟩
 case round =>
  obtain ⟨k, hk, rfl, zR, YM⟩ := hrel
  by_cases hlt : k < 32
  ·
   have d1 : decide ((k : Int) < 32) = true := by simp; omega
   obtain ⟨x, hx⟩ : ∃ x, h.getD k 0 = x := ⟨_, rfl⟩
   have hxb : 0 ≤ x ∧ x < 256 := by
    rw [← hx, List.getD_eq_getElem?_getD, List.getElem?_eq_getElem (by have := hl.out; omega)]
    exact hb.out _ (List.getElem_mem _)
   have hix := Ju hl.out hlt
   rw [hx] at hix
   have hb1 := WQ hxb.1 hxb.2
   have hd1 := pJ (q := x / 16) (by omega) (by omega)
   have hd2 := pJ (q := x % 16) (by omega) (by omega)
   have EX : Hid ((jr (h.take k)).length ≤ 100000) := aa (by rw [mJ, List.length_take]; omega)
   have Ka : Hid ((jr (h.take k) ++ [oz (x / 16)]).length ≤ 100000) := aa (by rw [List.length_append, mJ, List.length_take]; simp; omega)
   have xu : Hid ((jr (h.take k) ++ [oz (x / 16)]) ++ [oz (x % 16)] = jr (h.take (k + 1))) := aa (by
    rw [take_one (show k < h.length by have := hl.out; omega), DZ, hx]
    simp [jr])
   clear hx
   go_wp2_with fail
   refine (z8 (w.heap.size + 1) _ _ EX.out _ zR).mono ?_
   rintro e w1 ⟨⟨ua, rfl⟩, Wm, Wl⟩
   have Ya := aa Wm
   have Qf := aa (YM.out.trans (Wl.mono (Nat.le_succ _)))
   clear Wm Wl zR YM
   go_wp2_with fail
   refine (z8 (w.heap.size + 1) _ _ Ka.out _ Ya).mono ?_
   rintro e w2 ⟨⟨ub, rfl⟩, Tk, Wj⟩
   rw [xu.out] at Tk
   have zu := aa Tk
   have aaT := aa (Qf.out.trans (Wj.mono (Nat.le_succ _)))
   clear Tk Wj Ya Qf
   go_wp2
   go_roundw
   case rel => exact ⟨k + 1, by omega, by go_num, zu, aaT⟩
   case measure => simp [intOf]; omega
  ·
   obtain rfl : k = 32 := by omega
   have zu : Hid (NY wr (w.heap.size + 1) (jr h)) := aa (by
    have h2 := zR.out
    rwa [List.take_of_length_le (by rw [hl.out]; exact Nat.le_refl _)] at h2)
   have HNe : Hid ((jr h).map (fun x => UInt8.ofNat x.toNat) ≠ []) := aa (by
    intro e
    have := congrArg List.length e
    rw [List.length_map, mJ, hl.out] at this
    simp at this)
   clear zR
   go_wp2_with fail
   refine (Tryz.Builder_String (w.heap.size + 1) (w.heap.size + 1) _ _ (zu.out.is (Mr hb.out)) HNe.out).mono ?_
   rintro e w1 ⟨rfl, hb1⟩
   have Qf := aa (YM.out.trans (hb1.mono (Nat.le_succ _)))
   clear hb1 YM
   go_wp2
   go_ret
   exact ⟨rfl, Qf.out⟩
theorem Ng {w : World} {B : Nat} {v : Value} {l : List Int} {n : Nat} (h : aQ .u8 5 w B v l) (hb : NN l) (h0 : 0 < l.length) : (convert 114 9 v).run Tryz.prog w = .ok (.string (txt l)) w := by
 obtain ⟨g, cap, rfl, hg, hn, hc2, hc⟩ := h.cells h0
 have e := run_convert_bytes_back (P := Tryz.prog) w 114 9 5 ⟨g, 0, none⟩ cap (l.map fun x => UInt8.ofNat x.toNat) Tryz.underlying114 Tryz.underlying5 Tryz.underlying9 (fun j hj => by
  have hj2 : j < l.length := by simpa using hj
  obtain ⟨b, o, e1, e2⟩ := hc j hj2
  injection e1 with e1
  injection e1 with e1 e1b
  subst e1
  subst e1b
  have hx := hb (l.getD j 0) (by rw [List.getD_eq_getElem?_getD, List.getElem?_eq_getElem hj2]; exact List.getElem_mem _)
  have e3 : (((l.map fun x => UInt8.ofNat x.toNat)[j]'hj).toNat : Int) = l.getD j 0 := by
   rw [List.getElem_map, UInt8.toNat_ofNat']
   rw [List.getD_eq_getElem?_getD, List.getElem?_eq_getElem hj2] at hx ⊢
   simp only [Option.getD_some] at hx ⊢
   omega
  rw [e3, ← e2]
  simp [Addr.add]
  split <;> simp_all)
 rw [List.length_map] at e
 exact e
theorem K9 (h : List Int) (hl : Hid (h.length = 32)) (hb : Hid (NN h)) (w : World) :
  Calls Tryz.prog 175 #[.agg (arr .u8 h)] w (Rt w (.string (txt (jr h)))) := by
 obtain ⟨i0, hi, hz0, hz1, hz2⟩ := info_parts dO
 obtain ⟨W, hW⟩ : ∃ W, w.alloc (.cells (arr .u8 h) 41) = W := ⟨_, rfl⟩
 have hWs : W.heap.size = w.heap.size + 1 := by rw [← hW]; simp
 have HB0 : Hid (Below w.heap.size w W) := aa (by rw [← hW]; exact af w _)
 have HT : Hid (bB .u8 41 W w.heap.size h) := aa (by rw [← hW]; exact bB.new w h)
 have HW := aa hW
 clear hW
 go_in
 go_upto_region 3 with (fail)
 rw [HW.out]
 clear HW
 go_wp2
 go_loopw [4, 5] (fun v i u => ∃ k : Nat, k ≤ 32 ∧ i = .int .i64 k ∧ Hid (aQ .u8 5 u (w.heap.size + 1) v (jr (h.take k))) ∧ Hid (Below (w.heap.size + 1) W u)) (fun _ i _ => 32 - (intOf i).toNat)
 case atStart => exact ⟨0, by omega, by simp, aa ⟨rfl, Or.inl ⟨rfl, rfl⟩⟩, aa (Below.refl _ _)⟩
 case round =>
  obtain ⟨k, hk, rfl, HO, au⟩ := hrel
  by_cases hlt : k < 32
  ·
   have d1 : decide ((k : Int) < 32) = true := by simp; omega
   obtain ⟨x, hx⟩ : ∃ x, h.getD k 0 = x := ⟨_, rfl⟩
   have hxb : 0 ≤ x ∧ x < 256 := by
    rw [← hx, List.getD_eq_getElem?_getD, List.getElem?_eq_getElem (by have := hl.out; omega)]
    exact hb.out _ (List.getElem_mem _)
   have d3 : (k : Int) < 32 := by omega
   have hd1 := pJ (q := x / 16) (by omega) (by omega)
   have hd2 := pJ (q := x % 16) (by omega) (by omega)
   have e1 : x.tdiv 16 = x / 16 := Int.tdiv_eq_ediv_of_nonneg hxb.1
   have e2 : x.tmod 16 = x % 16 := Int.tmod_eq_emod_of_nonneg hxb.1
   have e3 : IntKind.u8.wrap (x / 16) = x / 16 := by simp [IntKind.wrap, IntKind.bits, IntKind.signed]; omega
   have e4 : IntKind.u8.wrap (x % 16) = x % 16 := by simp [IntKind.wrap, IntKind.bits, IntKind.signed]; omega
   obtain ⟨n, hn⟩ : ∃ n, (jr (h.take k)).length = n := ⟨_, rfl⟩
   have hn2 : n ≤ 64 := by rw [← hn, mJ, List.length_take]; omega
   have qB := aa hn
   have HOWN := aa (HO.out.row hn)
   have xu : Hid (jr (h.take k) ++ [oz (x / 16), oz (x % 16)] = jr (h.take (k + 1))) := aa (by
    rw [take_one (show k < h.length by have := hl.out; omega), DZ, hx]
    simp [jr])
   have hc : wr.cell? ⟨w.heap.size, k, none⟩ = some (.int .u8 x) := by
    rw [← hx]
    exact (HT.out.keepB (Nat.lt_succ_self _) au.out).cell (by have := hl.out; omega)
   have hsz := au.out.size
   have hS := aa (show ∀ u1 : World, Hid (Below wr.drew.heap.size wr.drew u1) → (u1.cell? ⟨w.heap.size, k, none⟩ = some (.int .u8 x) ∧ Hid (Below wr.drew.heap.size wr.drew u1)) from fun u1 h1 => ⟨cell_below (w := wr.drew) hc h1.out, h1⟩)
   clear hx hn hc HT
   go_wp2
   refine bD (S := fun w' => w'.cell? ⟨w.heap.size, k, none⟩ = some (.int .u8 x) ∧ Hid (Below wr.drew.heap.size wr.drew w')) (E := [14, 15]) (by kernel_rfl) (hS.out _ (aa (Below.refl _ _))) (fun hHeld => ?_)
   refine bN 0 ?_
   refine bN 1 ?_
   refine bN 2 ?_
   refine bN 3 ?_
   refine bN 4 ?_
   refine bN 5 ?_
   refine bN 6 ?_
   refine bN 7 ?_
   refine bN 8 ?_
   refine bN 9 ?_
   refine bN 10 ?_
   refine bN 11 ?_
   refine bN 12 ?_
   refine bW 13 fun K hK => ?_
   go_simp
   refine hK.out _ _ ?_ (fun hHeld => ?_)
   · exact hS.out _ (aa (af _ _))
   clear hK K
   try simp only [qq]
   refine mR 14 fun K hK => ?_
   refine step_append_lies _ (by rfl) _ _ _ (by rfl) (w.heap.size + 1) 5 i0 _ 1 1 Tryz.underlying114 hi hz0 hz1 hz2 rfl (by omega) u4 n ((jr (h.take k)).map (Value.int .u8)) (by rfl) ((HOWN.out.alloc _).drew)
    ⟨wr.heap.size, 0, none⟩ 2 2 [.int .u8 (oz (x / 16)), .int .u8 (oz (x % 16))] (by rfl) (by rfl) (World.news_of_block (cs := #[.int .u8 (oz (x / 16)), .int .u8 (oz (x % 16))]) (t := 5) (fr := (0, 0)) (heap_alloc_new wr _)) (by simp [Value.oneCell'])
    (by omega) (by unfold maxLen; omega) (by omega) (by simp; omega) (wr.heap.size + 1) (by simp) ?_; intro gg cap wz hown1 hgrow hat hlt2
   refine hK.out _ _ ?_
   clear hK K
   try simp only [qq]
   refine mR 15 fun K hK => ?_
   go_simp
   refine hK.out _ _ ?_
   clear hK K
   try simp only [qq]
   refine gz ?_
   have HB2 : Hid (Below (w.heap.size + 1) W wz) := aa (((au.out.alloc (by omega) (.cells #[.int .u8 (oz (x / 16)), .int .u8 (oz (x % 16))] 5)).drew).grown hgrow (by simp; omega) (fun j hj => by have := (World.ownsRow.lt HOWN.out j hj).1; omega))
   have qA : Hid (aQ .u8 5 wz (w.heap.size + 1) (.slice (some ⟨gg, 0, none⟩) (n + 2) cap) (jr (h.take (k + 1)))) := aa (by
    rw [← xu.out]
    exact aQ.app (ys := [oz (x / 16), oz (x % 16)]) qB.out.symm rfl hown1)
   clear hown1 hgrow hat HO au
   go_wp2
   go_roundw
   case rel => exact ⟨k + 1, by omega, by go_num, qA, HB2⟩
   case measure => simp [intOf]; omega
  ·
   obtain rfl : k = 32 := by omega
   have HF : Hid (aQ .u8 5 wr (w.heap.size + 1) u4 (jr h)) := aa (by
    have h2 := HO.out
    rwa [List.take_of_length_le (by rw [hl.out]; exact Nat.le_refl _)] at h2)
   have hcv := Ng (n := 0) HF.out (Mr hb.out) (by rw [mJ, hl.out]; decide)
   have HE : Hid (Below w.heap.size w wr) := aa (HB0.out.trans (au.out.mono (Nat.le_succ _)))
   clear HO au
   go_wp2
   go_ret
   exact ⟨rfl, HE.out⟩
def uo : ByteArray := ⟨#[115, 112, 101, 99, 105, 101, 47, 111, 114, 100, 101, 114]⟩
def ow (h : List Int) (o : aJ) : It := .lst [.byt h, .int o.num, .byt (aU o.rs), J4 o.E1 o.E2 o.al o.C o.zs]
def lbH (h : List Int) (o : aJ) : List Int := tagged (aU uo) (enc (ow h o))
def J2 (h : List Int) (o : aJ) : ByteArray := (⟨#[116, 114, 97, 99, 101, 58]⟩ : ByteArray) ++ (txt (jr (lbH h o))).extract 0 16
theorem LX {l : List Int} (h : az l = true) : NN l := fun x hx => by
 simp only [az, List.all_eq_true, Bool.and_eq_true, decide_eq_true_eq] at h
 exact h x hx
theorem CU (l : List Int) : (txt l).size = l.length := by simp [txt, ByteArray.size]
theorem DI (h : List Int) (o : aJ) : (J2 h o).size ≤ 1000 := by
 rw [J2, ByteArray.size_append, ByteArray.size_extract]
 show 6 + _ ≤ 1000
 omega
theorem H8 {h : List Int} {o : aJ} (hl : h.length = 32) (hb : az h = true) (hi : gP o) (hs : lD o) : fits 8 (ow h o) := by
 have ho := MH hi hs
 refine ⟨by simp, fun x hx => ?_⟩
 simp only [List.mem_cons, List.not_mem_nil, or_false] at hx
 rcases hx with rfl | rfl | rfl | rfl
 · exact ⟨⟨by omega, by omega⟩, hb⟩
 · exact oF (ho.2 _ (by simp [JZ])) (by decide)
 · exact oF (ho.2 _ (by simp [JZ])) (by decide)
 · exact oF (ho.2 _ (by simp [JZ])) (by decide)
theorem MM {h : List Int} {o : aJ} (hl : h.length = 32) (hs : lD o) : (enc (ow h o)).length ≤ 16384 := by
 have h1 := QJ hs
 rw [JZ, eH] at h1
 rw [ow, eH]
 simp only [List.length_cons, List.length_append, dV, oI, h_, List.length_nil, show (eZ []).length = 0 from rfl, hl] at h1 ⊢
 omega
theorem Jr (bO fO : Nat) (os : List aJ) (n c : Nat) (K : Option Addr) (hs : List (List Int)) (m d i : Nat) (hn : Hid (os.length = n)) (hm : Hid (hs.length = m)) (hi : i < n) (him : i ≤ m) (hb1 : n ≤ 1000000) (hb2 : m ≤ 1000000) (h : List Int) (hh : Hid (lC hs i = h)) (hl : Hid (h.length = 32)) (hb : Hid (az h = true)) (o : aJ) (ho : Hid (iT os i = o)) (hI : Hid (gP o)) (hS : lD o) (w : World) (hv : Hid (bF w)) (hO : Hid (Os w (some ⟨bO, fO, none⟩) os)) (hK : Hid (Hs w K hs)) :
  Calls Tryz.prog 127 #[kN (some ⟨bO, fO, none⟩) n c K m d, .int .i64 (i : Int)] w (Rt w (.string (J2 h o))) := by
 obtain ⟨RR, hRR⟩ : ∃ R, tagged (aU uo) (enc (ow h o)) = R := ⟨_, rfl⟩
 rw [show J2 h o = (⟨#[116, 114, 97, 99, 101, 58]⟩ : ByteArray) ++ (txt (jr (tagged (aU uo) (enc (ow h o))))).extract 0 16 from rfl, hRR]
 have HRR : Kp (tagged (aU uo) (enc (ow h o)) = RR) := ⟨hRR⟩
 have fo : Hid (RR.length = 32) := aa (by rw [← hRR]; exact dF _ _)
 have Ip : Hid (NN RR) := aa (by rw [← hRR]; exact LX (iJ _))
 have jC : Hid (fits 8 (ow h o)) := aa (H8 hl.out hb.out hI.out hS)
 have HLEN : Hid ((enc (ow h o)).length ≤ 16384) := aa (MM hl.out hS)
 clear hRR
 have hxs : (txt (jr RR)).size = 64 := by rw [CU, mJ, fo.out]
 obtain ⟨w0, HW, ai, kC⟩ := st1 (qj (some ⟨bO, fO, none⟩) n c K m d) xN w
 have kO := gV (fun u => Os u (some ⟨bO, fO, none⟩) os) ai hO (·.below)
 have kK := gV (fun u => Hs u K hs) ai hK (·.below)
 have kD := r_ ai hv
 have ah := bS w0
 clear hO hK hv
 obtain ⟨bX, fX, hX, d_, hok⟩ := ((kO.out _ ah)).out i (by rw [hn.out]; exact hi)
 cases hX
 rw [show os.getD i iF = o from ho.out] at d_ hok
 obtain ⟨j0, j1, j2, j3, j4, j5, j6, j7, j8⟩ := d_
 have nV := aa hok
 clear hok
 go_in
 go_upto_region 1 with (fail)
 rw [HW.out]
 have zc := kC.out _ ah
 obtain ⟨w1, hw, Xy, aaB, -, kE⟩ := sI (vo o) xM w0
 have aD := pY ah Xy
 have jW := bS w1
 clear Xy
 have oQ := kC.out _ aD
 have EZ := kE.out _ jW
 go_upto_region 2 with (fail)
 clear zc oQ EZ hw
 have zc := kC.out _ aD
 have zU := kE.out _ jW
 clear j0 j1 j2 j3 j4 j5 j6 j7 j8
 have zc := kC.out _ aD
 have zU := kE.out _ jW
 go_wp2_with fail
 clear zc zU
 refine MU aD jW (Gr (some ⟨bO, fO, none⟩) n c K hs m d i hm him hb2 _ (kK.out _ aD)) fun w2 aN Qp => ?_
 rw [hh.out]
 have IG : Hid (bB .u8 41 (w2.alloc (.cells z32 41)) w2.heap.size (dD 32)) := aa (by rw [iP]; exact bB.new _ _)
 go_upto_region 3 with ((with_reducible show wpList _ _ _ (⟨none, Op.store _ (Operand.tmp 6) _, _, _, _, _⟩ :: _) _ _); refine wpList_store_row rfl 41 _ _ rfl w2.heap.size (arr .u8 h) rfl rfl _ _ IG.out (ax hl.out) (dY (l := dD 32) rfl hl.out) (cu _) ?_)
 obtain ⟨w3, hw⟩ : ∃ x, (w2.alloc (.cells z32 41)).setRow w2.heap.size (arr .u8 h) = x := ⟨_, rfl⟩
 have nH : Hid (bB .u8 41 w3 w2.heap.size h) := aa (by rw [← hw]; exact IG.out.setRow)
 have hq : Below w2.heap.size w2 w3 := by rw [← hw]; exact aj (af _ _) (Nat.le_refl _)
 have bu := bY aN hq
 have IB := bY Qp hq
 rw [hw]
 clear hw hq IG
 have eO := bS w3
 obtain ⟨b3, hb3⟩ : ∃ x, w2.heap.size = x := ⟨_, rfl⟩
 rw [hb3] at nH ⊢
 have EU := aa hb3
 clear hb3
 have VP := wh (w := w3) (fun u => bB .u8 41 u b3 h) nH.out (·.below)
 obtain ⟨q1, q2⟩ : Hid (o.al.length = o.na) ∧ Hid (o.zs.length = o.nz) := ⟨aa nV.out.1, aa nV.out.2.1⟩
 have QU : o.na ≤ 20 := by rw [← q1.out]; exact hS.a
 have QT : o.nz ≤ 20 := by rw [← q2.out]; exact hS.z
 have kA := wh (w := w0) (fun u => Sl u o.A o.al) nV.out.2.2.2.1 (·.below)
 have kZ := wh (w := w0) (fun u => Sl u o.Z o.zs) nV.out.2.2.2.2.1 (·.below)
 have hcv := fun w => run_bytes_of_string (P := Tryz.prog) w 9 114 5 o.rs Tryz.underlying9 Tryz.underlying114 Tryz.underlying5
 have zc := kC.out _ bu
 have zU := kE.out _ IB
 try simp only [Act.put]
 clear zc zU
 have hO := aa (fun (u : World) (h : Hid (Below w0.heap.size w0 u ∧ Below w1.heap.size w1 u ∧ Below w3.heap.size w3 u)) => And.intro (kC.out u (aa h.out.1)) (kE.out u (aa h.out.2.1)))
 have mP := bb3 (aa ⟨bu.out, IB.out, eO.out⟩) (Below.refl _ _).drew
 refine t_ (fun u => Below w0.heap.size w0 u ∧ Below w1.heap.size w1 u ∧ Below w3.heap.size w3 u) [16] mP (fun hHeld => ?_)
 obtain ⟨wD, mI⟩ : ∃ u, w3.drew = u := ⟨_, rfl⟩
 rw [mI] at mP hHeld ⊢
 have zk : Hid (w3.heap.size ≤ wD.heap.size) := aa (by rw [← mI]; exact Nat.le_refl _)
 clear mI
 refine aT 0 2 3 5 ?_
 refine aH 6 ?_
 refine aH 9 ?_
 refine aH 10 ?_
 refine Yf fun a0 ha0 => ?_
 clear hHeld
 refine Oo [1, 4, 7, 8, 11, 12, 13, 14, 15] [[], [0], [], [0, 1, 2], [0, 1, 2, 3], [0, 1, 2, 3, 4], [0, 1, 2, 3, 4, 5], [0, 1, 2, 3, 4, 5, 6], []] [[1, 3, 4, 5, 6, 7], [3, 4, 5, 6, 7], [3, 4, 5, 6, 7], [4, 5, 6, 7], [5, 6, 7], [6, 7], [7], [], []] 1 #[true, true, true, true, true, true, true, true, true, true, true, true, true, true, true, true, false] (fun bs a u => ∃ (xD FD Cv Hg tq iQ fD fC eu : Bool) (gC : Nat) (cC : Nat) (cE : Ic) (gL : Nat) (gT : Nat), bs = [xD, FD, Cv, Hg, tq, iQ, fD, fC, eu] ∧ a = (((((((((a0.put (some 17) (cond xD (.agg #[.int .i64 2, .int .i64 (0), .slice (some ⟨b3, 0, none⟩) 32 32, .slice none 0 0]) undef)).put (some 20) (cond FD (.agg #[.int .i64 1, .int .i64 (o.num), .slice none 0 0, .slice none 0 0]) undef)).put (some 23) (cond Cv (.slice (some ⟨gC, 0, none⟩) o.rs.size cC) undef)).put (some 24) (cond Hg (.agg #[.int .i64 2, .int .i64 (0), .slice (some ⟨gC, 0, none⟩) o.rs.size cC, .slice none 0 0]) undef)).put (some 27) (cond tq (.agg #[.int .i64 cE.kind, .int .i64 cE.n, .slice cE.B cE.nb cE.cb, .slice cE.L cE.nl cE.cl]) undef)).put (some 28) (cond iQ (.slice (some ⟨gL, 0, none⟩) 4 4) undef)).put (some 29) (cond fD (.agg #[.int .i64 3, .int .i64 (0), .slice none 0 0, .slice (some ⟨gL, 0, none⟩) 4 4]) undef)).put (some 30) (cond fC (.agg (arr .u8 RR)) undef)).put (some 7) (cond eu (.pointer (some ⟨gT, 0, none⟩)) undef)) ∧ Hid (Below w0.heap.size w0 u ∧ Below w1.heap.size w1 u ∧ Below w3.heap.size w3 u) ∧ (Cv = true → Hid (Sk .u8 u (some ⟨gC, 0, none⟩) (aU o.rs))) ∧ (Cv = true → Hid (w0.heap.size ≤ gC)) ∧ (tq = true → Hid (qa w0.heap.size u (J4 o.E1 o.E2 o.al o.C o.zs) cE)) ∧ (iQ = true → Hid (u.heap[gL]? = some (.cells #[.int .i64 2, .int .i64 0, .slice (some ⟨b3, 0, none⟩) 32 32, .slice none 0 0, .int .i64 1, .int .i64 o.num, .slice none 0 0, .slice none 0 0, .int .i64 2, .int .i64 0, .slice (some ⟨gC, 0, none⟩) o.rs.size cC, .slice none 0 0, .int .i64 cE.kind, .int .i64 cE.n, .slice cE.B cE.nb cE.cb, .slice cE.L cE.nl cE.cl] 117))) ∧ (iQ = true → Hid (w0.heap.size ≤ gL)) ∧ (eu = true → Hid (bB .u8 41 u gT (dD 32))) ∧ (eu = true → Hid (w0.heap.size ≤ gT))) ⟨false, false, false, false, false, false, false, false, false, 0, 0, (Ic.mk 0 0 none 0 0 none 0 0), 0, 0, rfl, by rw [ha0]; simp only [qq], mP, nofun, nofun, nofun, nofun, nofun, nofun, nofun⟩ ?_ ⟨?_, ?_, ?_, ?_, ?_, ?_, ?_, ?_, ?_, trivial⟩
 ·
  rintro bs a u hbs ⟨xD, FD, Cv, Hg, tq, iQ, fD, fC, eu, gC, cC, cE, gL, gT, rfl, rfl, FB, qD, iC, mQ, nT, fV, lI, eF⟩
  obtain ⟨rfl, rfl, rfl, rfl, rfl, rfl, rfl, rfl, rfl⟩ : xD = true ∧ FD = true ∧ Cv = true ∧ Hg = true ∧ tq = true ∧ iQ = true ∧ fD = true ∧ fC = true ∧ eu = true := by simpa using hbs
  have FC := qD rfl
  have zA := iC rfl
  have HE := mQ rfl
  have FL := nT rfl
  have kQ := fV rfl
  have FT := lI rfl
  have Q7 := eF rfl
  clear qD iC mQ nT fV lI eF
  have hHeld := FB
  have hT := trivial
  rw [ha0]
  simp only [qq]
  have sK := aa FB.out.1
  have X4 := aa FB.out.2.1
  have X3 := aa FB.out.2.2
  refine mR 16 fun K hK => ?_
  rw [show (if Region.wanted _ _ = true then _ else _ : Prop) = _ from if_pos rfl]
  refine wp_store_row 41 _ _ rfl gT (arr .u8 RR) rfl rfl 41 _ FT.out (ax fo.out) (dY (l := dD 32) rfl fo.out) (cu _) ?_
  refine hK.out _ _ ?_
  clear hK K
  try simp only [qq]
  refine gz ?_
  clear hHeld hT ha0
  obtain ⟨wq, hwq⟩ : ∃ x, u.setRow gT (arr .u8 RR) = x := ⟨_, rfl⟩
  have P_ : Hid (bB .u8 41 wq gT RR) := aa (by rw [← hwq]; exact FT.out.setRow)
  have Iq : Hid (Below w0.heap.size w0 wq) := aa (by rw [← hwq]; exact aj FB.out.1 Q7.out)
  rw [hwq]
  clear hwq
  go_wp2_with ((with_reducible show wpList _ _ _ (⟨some 31, _, _, _, _, _⟩ :: _) _ _); refine wpList_load_row rfl 41 _ rfl gT rfl _ _ _ _ P_.out Tryz.underlying41 rfl (ax fo.out) ?_)
  refine (Pq RR fo Ip _).mono ?_
  rintro e w9 ⟨rfl, D8⟩
  have bV := ag ai.out (ag Iq.out D8)
  go_wp2
  go_ret
  exact ⟨rfl, bV⟩
 ·
  rintro bs a u ⟨xD, FD, Cv, Hg, tq, iQ, fD, fC, eu, gC, cC, cE, gL, gT, rfl, rfl, FB, qD, iC, mQ, nT, fV, lI, eF⟩ hr
  simp [jb, and_assoc] at hr
  obtain ⟨rfl, rfl, rfl, rfl, rfl, rfl, rfl⟩ := hr
  refine ⟨_, rfl, fun K hK => ?_⟩
  rw [ha0]
  simp only [qq]
  go_simp
  refine (xz (some ⟨b3, 0, none⟩) 32 32 _).mono ?_
  rintro e wB ⟨rfl, hq⟩
  have aR := bb3 FB hq
  refine hK.out _ _ aR ⟨true, false, Cv, false, false, false, false, false, eu, gC, cC, cE, gL, gT, rfl, ?_, aR, fun e => aa ((qD e).out.below hq), fun e => (iC e), nofun, nofun, nofun, fun e => aa ((lI e).out.below hq), fun e => (eF e)⟩
  rw [ha0]
  simp only [qq]
  try rfl
 ·
  rintro bs a u ⟨xD, FD, Cv, Hg, tq, iQ, fD, fC, eu, gC, cC, cE, gL, gT, rfl, rfl, FB, qD, iC, mQ, nT, fV, lI, eF⟩ hr
  simp [jb, and_assoc] at hr
  obtain ⟨rfl, rfl, rfl, rfl, rfl, rfl, rfl⟩ := hr
  refine ⟨_, rfl, fun K hK => ?_⟩
  rw [ha0]
  simp only [qq]
  go_simp
  refine (rE o.num _).mono ?_
  rintro e wB ⟨rfl, hq⟩
  have aR := bb3 FB hq
  refine hK.out _ _ aR ⟨true, true, Cv, false, false, false, false, false, eu, gC, cC, cE, gL, gT, rfl, ?_, aR, fun e => aa ((qD e).out.below hq), fun e => (iC e), nofun, nofun, nofun, fun e => aa ((lI e).out.below hq), fun e => (eF e)⟩
  rw [ha0]
  simp only [qq]
  try rfl
 ·
  rintro bs a u ⟨xD, FD, Cv, Hg, tq, iQ, fD, fC, eu, gC, cC, cE, gL, gT, rfl, rfl, FB, qD, iC, mQ, nT, fV, lI, eF⟩ hr
  simp [jb, and_assoc] at hr
  obtain ⟨rfl, rfl, rfl, rfl, rfl, rfl⟩ := hr
  refine ⟨_, rfl, fun K hK => ?_⟩
  rw [ha0]
  simp only [qq]
  go_simp
  have aR := bb3 FB ((af u (.cells (bytesRow o.rs (grownCap u o.rs.size 0 5)) 5 ((bytesRow o.rs (grownCap u o.rs.size 0 5)).size, (bytesRow o.rs (grownCap u o.rs.size 0 5)).size + 1))).drew)
  refine hK.out _ _ aR ⟨xD, FD, true, false, false, false, false, false, eu, u.heap.size, (grownCap u o.rs.size 0 5), cE, gL, gT, rfl, ?_, aR, fun _ => (aa ((lu (heap_alloc_new u _)).below ((Below.refl _ _).drew))), fun _ => (aa (by have := FB.out.1.size; omega)), nofun, nofun, nofun, fun e => aa ((lI e).out.below ((af u (.cells (bytesRow o.rs (grownCap u o.rs.size 0 5)) 5 ((bytesRow o.rs (grownCap u o.rs.size 0 5)).size, (bytesRow o.rs (grownCap u o.rs.size 0 5)).size + 1))).drew)), fun e => (eF e)⟩
  rw [ha0]
  simp only [qq]
  try rfl
 ·
  rintro bs a u ⟨xD, FD, Cv, Hg, tq, iQ, fD, fC, eu, gC, cC, cE, gL, gT, rfl, rfl, FB, qD, iC, mQ, nT, fV, lI, eF⟩ hr
  simp [jb, and_assoc] at hr
  obtain ⟨rfl, rfl, rfl, rfl, rfl, rfl, rfl, rfl⟩ := hr
  have FC := qD rfl
  have zA := iC rfl
  refine ⟨_, rfl, fun K hK => ?_⟩
  rw [ha0]
  simp only [qq]
  go_simp
  refine (xz (some ⟨gC, 0, none⟩) o.rs.size cC _).mono ?_
  rintro e wB ⟨rfl, hq⟩
  have aR := bb3 FB hq
  refine hK.out _ _ aR ⟨true, true, true, true, false, false, false, false, eu, gC, cC, cE, gL, gT, rfl, ?_, aR, fun _ => aa (FC.out.below hq), fun _ => zA, nofun, nofun, nofun, fun e => aa ((lI e).out.below hq), fun e => (eF e)⟩
  rw [ha0]
  simp only [qq]
  try rfl
 ·
  rintro bs a u ⟨xD, FD, Cv, Hg, tq, iQ, fD, fC, eu, gC, cC, cE, gL, gT, rfl, rfl, FB, qD, iC, mQ, nT, fV, lI, eF⟩ hr
  simp [jb, and_assoc] at hr
  obtain ⟨rfl, rfl, rfl, rfl, rfl, rfl, rfl, rfl⟩ := hr
  have FC := qD rfl
  have zA := iC rfl
  refine ⟨_, rfl, fun K hK => ?_⟩
  rw [ha0]
  simp only [qq]
  go_simp
  refine (AB o.E1 o.E2 o.A o.na o.ca o.al o.C o.Z o.nz o.cz o.zs q1 q2 (by omega) (by omega) _ (kA.out _ (aa FB.out.1)) (kZ.out _ (aa FB.out.1))).mono ?_
  rintro e wB ⟨cB, rfl, hit, hq⟩
  have aR := bb3 FB hq
  refine hK.out _ _ aR ⟨true, true, true, true, true, false, false, false, eu, gC, cC, cB, gL, gT, rfl, ?_, aR, fun _ => aa (FC.out.below hq), fun _ => zA, fun _ => (aa (hit.mono (by have := FB.out.1.size; omega))), nofun, nofun, fun e => aa ((lI e).out.below hq), fun e => (eF e)⟩
  rw [ha0]
  simp only [qq]
  try rfl
 ·
  rintro bs a u ⟨xD, FD, Cv, Hg, tq, iQ, fD, fC, eu, gC, cC, cE, gL, gT, rfl, rfl, FB, qD, iC, mQ, nT, fV, lI, eF⟩ hr
  simp [jb, and_assoc] at hr
  obtain ⟨rfl, rfl, rfl, rfl, rfl, rfl, rfl, rfl⟩ := hr
  have FC := qD rfl
  have zA := iC rfl
  have HE := mQ rfl
  refine ⟨_, rfl, fun K hK => ?_⟩
  rw [ha0]
  simp only [qq]
  go_simp
  have aR := bb3 FB (af u (.cells #[.int .i64 2, .int .i64 0, .slice (some ⟨b3, 0, none⟩) 32 32, .slice none 0 0, .int .i64 1, .int .i64 o.num, .slice none 0 0, .slice none 0 0, .int .i64 2, .int .i64 0, .slice (some ⟨gC, 0, none⟩) o.rs.size cC, .slice none 0 0, .int .i64 cE.kind, .int .i64 cE.n, .slice cE.B cE.nb cE.cb, .slice cE.L cE.nl cE.cl] 117))
  refine hK.out _ _ aR ⟨true, true, true, true, true, true, false, false, eu, gC, cC, cE, u.heap.size, gT, rfl, ?_, aR, fun _ => aa (FC.out.below (af u (.cells #[.int .i64 2, .int .i64 0, .slice (some ⟨b3, 0, none⟩) 32 32, .slice none 0 0, .int .i64 1, .int .i64 o.num, .slice none 0 0, .slice none 0 0, .int .i64 2, .int .i64 0, .slice (some ⟨gC, 0, none⟩) o.rs.size cC, .slice none 0 0, .int .i64 cE.kind, .int .i64 cE.n, .slice cE.B cE.nb cE.cb, .slice cE.L cE.nl cE.cl] 117))), fun _ => zA, fun _ => aa (HE.out.kept (af u (.cells #[.int .i64 2, .int .i64 0, .slice (some ⟨b3, 0, none⟩) 32 32, .slice none 0 0, .int .i64 1, .int .i64 o.num, .slice none 0 0, .slice none 0 0, .int .i64 2, .int .i64 0, .slice (some ⟨gC, 0, none⟩) o.rs.size cC, .slice none 0 0, .int .i64 cE.kind, .int .i64 cE.n, .slice cE.B cE.nb cE.cb, .slice cE.L cE.nl cE.cl] 117))), fun _ => (aa (heap_alloc_new u _)), fun _ => (aa (by have := FB.out.1.size; omega)), fun e => aa ((lI e).out.below (af u (.cells #[.int .i64 2, .int .i64 0, .slice (some ⟨b3, 0, none⟩) 32 32, .slice none 0 0, .int .i64 1, .int .i64 o.num, .slice none 0 0, .slice none 0 0, .int .i64 2, .int .i64 0, .slice (some ⟨gC, 0, none⟩) o.rs.size cC, .slice none 0 0, .int .i64 cE.kind, .int .i64 cE.n, .slice cE.B cE.nb cE.cb, .slice cE.L cE.nl cE.cl] 117))), fun e => (eF e)⟩
  rw [ha0]
  simp only [qq]
  try rfl
 ·
  rintro bs a u ⟨xD, FD, Cv, Hg, tq, iQ, fD, fC, eu, gC, cC, cE, gL, gT, rfl, rfl, FB, qD, iC, mQ, nT, fV, lI, eF⟩ hr
  simp [jb, and_assoc] at hr
  obtain ⟨rfl, rfl, rfl, rfl, rfl, rfl, rfl, rfl⟩ := hr
  have FC := qD rfl
  have zA := iC rfl
  have HE := mQ rfl
  have FL := nT rfl
  have kQ := fV rfl
  refine ⟨_, rfl, fun K hK => ?_⟩
  rw [ha0]
  simp only [qq]
  go_simp
  refine (uJ (some ⟨gL, 0, none⟩) 4 4 _).mono ?_
  rintro e wB ⟨rfl, hq⟩
  have aR := bb3 FB hq
  refine hK.out _ _ aR ⟨true, true, true, true, true, true, true, false, eu, gC, cC, cE, gL, gT, rfl, ?_, aR, fun _ => aa (FC.out.below hq), fun _ => zA, fun _ => aa (HE.out.kept hq), fun _ => aa (bE FL.out hq), fun _ => kQ, fun e => aa ((lI e).out.below hq), fun e => (eF e)⟩
  rw [ha0]
  simp only [qq]
  try rfl
 ·
  rintro bs a u ⟨xD, FD, Cv, Hg, tq, iQ, fD, fC, eu, gC, cC, cE, gL, gT, rfl, rfl, FB, qD, iC, mQ, nT, fV, lI, eF⟩ hr
  simp [jb, and_assoc] at hr
  obtain ⟨rfl, rfl, rfl, rfl, rfl, rfl, rfl, rfl⟩ := hr
  have FC := qD rfl
  have zA := iC rfl
  have HE := mQ rfl
  have FL := nT rfl
  have kQ := fV rfl
  refine ⟨_, rfl, fun K hK => ?_⟩
  rw [ha0]
  simp only [qq]
  go_simp
  have hit : nO u (ow h o) (Ic.mk 3 0 none 0 0 (some ⟨gL, 0, none⟩) 4 4) := uK (fun k => match k with | 0 => aL (some ⟨b3, 0, none⟩) 32 32 | 1 => aM o.num | 2 => aL (some ⟨gC, 0, none⟩) o.rs.size cC | _ => cE) FL.out rfl (fun k hk => by
    rcases (show k = 0 ∨ k = 1 ∨ k = 2 ∨ k = 3 by omega) with rfl | rfl | rfl | rfl <;> exact ⟨rfl, rfl, rfl, rfl⟩) (fun k hk => by
    rcases (show k = 0 ∨ k = 1 ∨ k = 2 ∨ k = 3 by omega) with rfl | rfl | rfl | rfl
    · exact iY (VP.out _ (aa FB.out.2.2)).out.sk hl.out
    · exact .int _ _ rfl rfl rfl rfl
    · exact iY FC.out (bz o.rs)
    · exact HE.out.it)
  refine (CY uo (by decide) (by decide) (ow h o) (Ic.mk 3 0 none 0 0 (some ⟨gL, 0, none⟩) 4 4) jC HLEN _ (kD.out _ (aa FB.out.1)) (aa hit)).mono ?_
  rintro e wB ⟨rfl, hq⟩
  clear hit
  rw [HRR.1]
  have aR := bb3 FB hq
  refine hK.out _ _ aR ⟨true, true, true, true, true, true, true, true, eu, gC, cC, cE, gL, gT, rfl, ?_, aR, fun _ => aa (FC.out.below hq), fun _ => zA, fun _ => aa (HE.out.kept hq), fun _ => aa (bE FL.out hq), fun _ => kQ, fun e => aa ((lI e).out.below hq), fun e => (eF e)⟩
  rw [ha0]
  simp only [qq]
  try rfl
 ·
  rintro bs a u ⟨xD, FD, Cv, Hg, tq, iQ, fD, fC, eu, gC, cC, cE, gL, gT, rfl, rfl, FB, qD, iC, mQ, nT, fV, lI, eF⟩ hr
  simp [jb, and_assoc] at hr
  obtain rfl := hr
  refine ⟨_, rfl, fun K hK => ?_⟩
  rw [ha0]
  simp only [qq]
  go_simp
  have aR := bb3 FB (af u (.cells z32 41))
  refine hK.out _ _ aR ⟨xD, FD, Cv, Hg, tq, iQ, fD, fC, true, gC, cC, cE, gL, u.heap.size, rfl, ?_, aR, fun e => aa ((qD e).out.below (af u (.cells z32 41))), fun e => (iC e), fun e => aa ((mQ e).out.kept (af u (.cells z32 41))), fun e => aa (bE (nT e).out (af u (.cells z32 41))), fun e => (fV e), fun _ => (aa (show bB .u8 41 (u.alloc (.cells z32 41)) u.heap.size (dD 32) by rw [iP]; exact bB.new _ _)), fun _ => (aa FB.out.1.size)⟩
  rw [ha0]
  simp only [qq]
  try rfl
theorem Bi (bO fO : Nat) (os : List aJ) (n c : Nat) (K : Option Addr) (hs : List (List Int)) (m d i : Nat) (hn : Hid (os.length = n)) (hm : Hid (hs.length = m)) (hi : i < n) (him : i ≤ m) (hb1 : n ≤ 1000000) (hb2 : m ≤ 1000000) (h : List Int) (hh : Hid (lC hs i = h)) (hl : Hid (h.length = 32)) (hb : Hid (az h = true)) (o : aJ) (ho : Hid (iT os i = o)) (hI : Hid (gP o)) (hS : lD o) (w : World) (hv : Hid (bF w)) (hO : Hid (Os w (some ⟨bO, fO, none⟩) os)) (hK : Hid (Hs w K hs)) :
  Calls Tryz.prog 131 #[kN (some ⟨bO, fO, none⟩) n c K m d, .int .i64 (i : Int)] w (Rt w (.string (J2 h o))) := by
 obtain ⟨RR, hRR⟩ : ∃ R, tagged (aU uo) (enc (ow h o)) = R := ⟨_, rfl⟩
 rw [show J2 h o = (⟨#[116, 114, 97, 99, 101, 58]⟩ : ByteArray) ++ (txt (jr (tagged (aU uo) (enc (ow h o))))).extract 0 16 from rfl, hRR]
 have HRR : Kp (tagged (aU uo) (enc (ow h o)) = RR) := ⟨hRR⟩
 have fo : Hid (RR.length = 32) := aa (by rw [← hRR]; exact dF _ _)
 have Ip : Hid (NN RR) := aa (by rw [← hRR]; exact LX (iJ _))
 have jC : Hid (fits 8 (ow h o)) := aa (H8 hl.out hb.out hI.out hS)
 have HLEN : Hid ((enc (ow h o)).length ≤ 16384) := aa (MM hl.out hS)
 clear hRR
 have hxs : (txt (jr RR)).size = 64 := by rw [CU, mJ, fo.out]
 obtain ⟨E, hE⟩ : ∃ E, enc (ow h o) = E := ⟨_, rfl⟩
 have JR : Hid (az E = true) := aa (by rw [← hE]; exact jO jC.out)
 have vC : Hid (0 < E.length ∧ E.length ≤ 16384) := aa (by rw [← hE]; exact ⟨nD _, HLEN.out⟩)
 have GG : Kp (enc (ow h o) = E) := ⟨hE⟩
 obtain ⟨nE, Pp⟩ : ∃ n, E.length = n := ⟨_, rfl⟩
 have X5 := aa Pp
 rw [Pp] at vC
 obtain ⟨he0, he1⟩ := vC.out
 rw [← Pp] at vC
 clear hE Pp
 obtain ⟨w0, HW, ai, kC⟩ := st1 (qj (some ⟨bO, fO, none⟩) n c K m d) xN w
 have kO := gV (fun u => Os u (some ⟨bO, fO, none⟩) os) ai hO (·.below)
 have kK := gV (fun u => Hs u K hs) ai hK (·.below)
 have kD := r_ ai hv
 have ah := bS w0
 clear hO hK hv
 obtain ⟨bX, fX, hX, d_, hok⟩ := ((kO.out _ ah)).out i (by rw [hn.out]; exact hi)
 cases hX
 rw [show os.getD i iF = o from ho.out] at d_ hok
 obtain ⟨j0, j1, j2, j3, j4, j5, j6, j7, j8⟩ := d_
 have nV := aa hok
 clear hok
 go_in
 go_upto_region 1 with (fail)
 rw [HW.out]
 have zc := kC.out _ ah
 obtain ⟨w1, hw, Xy, aaB, -, kE⟩ := sI (vo o) xM w0
 have aD := pY ah Xy
 have jW := bS w1
 clear Xy
 have oQ := kC.out _ aD
 have EZ := kE.out _ jW
 go_upto_region 2 with (fail)
 clear zc oQ EZ hw
 have zc := kC.out _ aD
 have zU := kE.out _ jW
 clear j0 j1 j2 j3 j4 j5 j6 j7 j8
 have zc := kC.out _ aD
 have zU := kE.out _ jW
 obtain ⟨q1, q2⟩ : Hid (o.al.length = o.na) ∧ Hid (o.zs.length = o.nz) := ⟨aa nV.out.1, aa nV.out.2.1⟩
 have QU : o.na ≤ 20 := by rw [← q1.out]; exact hS.a
 have QT : o.nz ≤ 20 := by rw [← q2.out]; exact hS.z
 have kA := wh (w := w0) (fun u => Sl u o.A o.al) nV.out.2.2.2.1 (·.below)
 have kZ := wh (w := w0) (fun u => Sl u o.Z o.zs) nV.out.2.2.2.2.1 (·.below)
 have Zq : 1 ≤ o.rs.size := hS.r0
 have Zp : o.rs.size ≤ 1000 := by have := hS.r1; omega
 have zc := kC.out _ aD
 have zU := kE.out _ jW
 try simp only [Act.put]
 clear zc zU
 have hO := aa (fun (u : World) (h : Hid (Below w0.heap.size w0 u ∧ Below w1.heap.size w1 u)) => And.intro (kC.out u (aa h.out.1)) (kE.out u (aa h.out.2)))
 have mP := bb2 (aa ⟨aD.out, jW.out⟩) (Below.refl _ _).drew
 refine t_ (fun u => Below w0.heap.size w0 u ∧ Below w1.heap.size w1 u) [18] mP (fun hHeld => ?_)
 obtain ⟨wD, mI⟩ : ∃ u, w1.drew = u := ⟨_, rfl⟩
 rw [mI] at mP hHeld ⊢
 have zk : Hid (w1.heap.size ≤ wD.heap.size) := aa (by rw [← mI]; exact Nat.le_refl _)
 clear mI
 refine aT 0 1 4 5 ?_
 refine aT 7 8 10 11 ?_
 refine Yf fun a0 ha0 => ?_
 clear hHeld
 refine Oo [2, 3, 6, 9, 12, 13, 14, 15, 16, 17] [[], [0], [0, 1], [0, 1, 2], [0, 1, 2, 3], [0, 1, 2, 3, 4], [0, 1, 2, 3, 4, 5], [0, 1, 2, 3, 4, 5, 6], [0, 1, 2, 3, 4, 5, 6, 7], []] [[1, 2, 3, 4, 5, 6, 7, 8], [2, 3, 4, 5, 6, 7, 8], [3, 4, 5, 6, 7, 8], [4, 5, 6, 7, 8], [5, 6, 7, 8], [6, 7, 8], [7, 8], [8], [], []] 1 #[true, true, true, true, true, true, true, true, true, true, true, true, true, true, true, true, true, true, false] (fun bs a u => ∃ (vv EO rD uH iQ fD fC eu sZ kU : Bool) (eP : Ic) (cR : Ic) (cE : Ic) (gL : Nat) (gE : Nat) (eE : Nat) (gT : Nat), bs = [vv, EO, rD, uH, iQ, fD, fC, eu, sZ, kU] ∧ a = ((((((((((a0.put (some 14) (cond vv (.agg (arr .u8 h)) undef)).put (some 15) (cond EO (.agg #[.int .i64 eP.kind, .int .i64 eP.n, .slice eP.B eP.nb eP.cb, .slice eP.L eP.nl eP.cl]) undef)).put (some 18) (cond rD (.agg #[.int .i64 1, .int .i64 (o.num), .slice none 0 0, .slice none 0 0]) undef)).put (some 21) (cond uH (.agg #[.int .i64 cR.kind, .int .i64 cR.n, .slice cR.B cR.nb cR.cb, .slice cR.L cR.nl cR.cl]) undef)).put (some 24) (cond iQ (.agg #[.int .i64 cE.kind, .int .i64 cE.n, .slice cE.B cE.nb cE.cb, .slice cE.L cE.nl cE.cl]) undef)).put (some 25) (cond fD (.slice (some ⟨gL, 0, none⟩) 4 4) undef)).put (some 26) (cond fC (.agg #[.int .i64 3, .int .i64 (0), .slice none 0 0, .slice (some ⟨gL, 0, none⟩) 4 4]) undef)).put (some 27) (cond eu (.slice (some ⟨gE, 0, none⟩) nE eE) undef)).put (some 28) (cond sZ (.agg (arr .u8 RR)) undef)).put (some 6) (cond kU (.pointer (some ⟨gT, 0, none⟩)) undef)) ∧ Hid (Below w0.heap.size w0 u ∧ Below w1.heap.size w1 u) ∧ (EO = true → Hid (qa w0.heap.size u (.byt h) eP)) ∧ (uH = true → Hid (qa w0.heap.size u (.byt (aU o.rs)) cR)) ∧ (iQ = true → Hid (qa w0.heap.size u (J4 o.E1 o.E2 o.al o.C o.zs) cE)) ∧ (fD = true → Hid (u.heap[gL]? = some (.cells #[.int .i64 eP.kind, .int .i64 eP.n, .slice eP.B eP.nb eP.cb, .slice eP.L eP.nl eP.cl, .int .i64 1, .int .i64 o.num, .slice none 0 0, .slice none 0 0, .int .i64 cR.kind, .int .i64 cR.n, .slice cR.B cR.nb cR.cb, .slice cR.L cR.nl cR.cl, .int .i64 cE.kind, .int .i64 cE.n, .slice cE.B cE.nb cE.cb, .slice cE.L cE.nl cE.cl] 117))) ∧ (fD = true → Hid (w0.heap.size ≤ gL)) ∧ (eu = true → Hid (Sk .u8 u (some ⟨gE, 0, none⟩) E)) ∧ (kU = true → Hid (bB .u8 41 u gT (dD 32))) ∧ (kU = true → Hid (w0.heap.size ≤ gT))) ⟨false, false, false, false, false, false, false, false, false, false, (Ic.mk 0 0 none 0 0 none 0 0), (Ic.mk 0 0 none 0 0 none 0 0), (Ic.mk 0 0 none 0 0 none 0 0), 0, 0, 0, 0, rfl, by rw [ha0]; simp only [qq], mP, nofun, nofun, nofun, nofun, nofun, nofun, nofun, nofun⟩ ?_ ⟨?_, ?_, ?_, ?_, ?_, ?_, ?_, ?_, ?_, ?_, trivial⟩
 ·
  rintro bs a u hbs ⟨vv, EO, rD, uH, iQ, fD, fC, eu, sZ, kU, eP, cR, cE, gL, gE, eE, gT, rfl, rfl, FB, zX, Cr, mQ, nT, fV, GM, lI, eF⟩
  obtain ⟨rfl, rfl, rfl, rfl, rfl, rfl, rfl, rfl, rfl, rfl⟩ : vv = true ∧ EO = true ∧ rD = true ∧ uH = true ∧ iQ = true ∧ fD = true ∧ fC = true ∧ eu = true ∧ sZ = true ∧ kU = true := by simpa using hbs
  have HB := zX rfl
  have HR := Cr rfl
  have HE := mQ rfl
  have FL := nT rfl
  have kQ := fV rfl
  have FE := GM rfl
  have FT := lI rfl
  have Q7 := eF rfl
  clear zX Cr mQ nT fV GM lI eF
  have hHeld := FB
  have hT := trivial
  rw [ha0]
  simp only [qq]
  have sK := aa FB.out.1
  have X4 := aa FB.out.2
  refine mR 18 fun K hK => ?_
  rw [show (if Region.wanted _ _ = true then _ else _ : Prop) = _ from if_pos rfl]
  refine wp_store_row 41 _ _ rfl gT (arr .u8 RR) rfl rfl 41 _ FT.out (ax fo.out) (dY (l := dD 32) rfl fo.out) (cu _) ?_
  refine hK.out _ _ ?_
  clear hK K
  try simp only [qq]
  refine gz ?_
  clear hHeld hT ha0
  obtain ⟨wq, hwq⟩ : ∃ x, u.setRow gT (arr .u8 RR) = x := ⟨_, rfl⟩
  have P_ : Hid (bB .u8 41 wq gT RR) := aa (by rw [← hwq]; exact FT.out.setRow)
  have Iq : Hid (Below w0.heap.size w0 wq) := aa (by rw [← hwq]; exact aj FB.out.1 Q7.out)
  rw [hwq]
  clear hwq
  go_wp2_with ((with_reducible show wpList _ _ _ (⟨some 29, _, _, _, _, _⟩ :: _) _ _); refine wpList_load_row rfl 41 _ rfl gT rfl _ _ _ _ P_.out Tryz.underlying41 rfl (ax fo.out) ?_)
  refine (K9 RR fo Ip _).mono ?_
  rintro e w9 ⟨rfl, D8⟩
  have bV := ag ai.out (ag Iq.out D8)
  go_wp2
  go_ret
  exact ⟨rfl, bV⟩
 ·
  rintro bs a u ⟨vv, EO, rD, uH, iQ, fD, fC, eu, sZ, kU, eP, cR, cE, gL, gE, eE, gT, rfl, rfl, FB, zX, Cr, mQ, nT, fV, GM, lI, eF⟩ hr
  simp [jb, and_assoc] at hr
  obtain ⟨rfl, rfl, rfl, rfl, rfl, rfl, rfl, rfl, rfl⟩ := hr
  refine ⟨_, rfl, fun K hK => ?_⟩
  rw [ha0]
  simp only [qq]
  go_simp
  refine (Dn (some ⟨bO, fO, none⟩) n c _ hs m d i hm him hb2 _ (kK.out _ (aa FB.out.1))).mono ?_
  rintro e wB ⟨rfl, hq⟩
  rw [hh.out]
  have aR := bb2 FB hq
  refine hK.out _ _ aR ⟨true, false, false, false, false, false, false, false, false, kU, eP, cR, cE, gL, gE, eE, gT, rfl, ?_, aR, nofun, nofun, nofun, nofun, nofun, nofun, fun e => aa ((lI e).out.below hq), fun e => (eF e)⟩
  rw [ha0]
  simp only [qq]
  try rfl
 ·
  rintro bs a u ⟨vv, EO, rD, uH, iQ, fD, fC, eu, sZ, kU, eP, cR, cE, gL, gE, eE, gT, rfl, rfl, FB, zX, Cr, mQ, nT, fV, GM, lI, eF⟩ hr
  simp [jb, and_assoc] at hr
  obtain ⟨rfl, rfl, rfl, rfl, rfl, rfl, rfl, rfl, rfl⟩ := hr
  refine ⟨_, rfl, fun K hK => ?_⟩
  rw [ha0]
  simp only [qq]
  go_simp
  refine (uA h hl _).mono ?_
  rintro e wB ⟨cB, rfl, hit, hq⟩
  have aR := bb2 FB hq
  refine hK.out _ _ aR ⟨true, true, false, false, false, false, false, false, false, kU, cB, cR, cE, gL, gE, eE, gT, rfl, ?_, aR, fun _ => (aa (hit.mono (by have := FB.out.1.size; omega))), nofun, nofun, nofun, nofun, nofun, fun e => aa ((lI e).out.below hq), fun e => (eF e)⟩
  rw [ha0]
  simp only [qq]
  try rfl
 ·
  rintro bs a u ⟨vv, EO, rD, uH, iQ, fD, fC, eu, sZ, kU, eP, cR, cE, gL, gE, eE, gT, rfl, rfl, FB, zX, Cr, mQ, nT, fV, GM, lI, eF⟩ hr
  simp [jb, and_assoc] at hr
  obtain ⟨rfl, rfl, rfl, rfl, rfl, rfl, rfl, rfl, rfl⟩ := hr
  have HB := zX rfl
  refine ⟨_, rfl, fun K hK => ?_⟩
  rw [ha0]
  simp only [qq]
  go_simp
  refine (mZ o.num _).mono ?_
  rintro e wB ⟨rfl, hq⟩
  have aR := bb2 FB hq
  refine hK.out _ _ aR ⟨true, true, true, false, false, false, false, false, false, kU, eP, cR, cE, gL, gE, eE, gT, rfl, ?_, aR, fun _ => aa (HB.out.kept hq), nofun, nofun, nofun, nofun, nofun, fun e => aa ((lI e).out.below hq), fun e => (eF e)⟩
  rw [ha0]
  simp only [qq]
  try rfl
 ·
  rintro bs a u ⟨vv, EO, rD, uH, iQ, fD, fC, eu, sZ, kU, eP, cR, cE, gL, gE, eE, gT, rfl, rfl, FB, zX, Cr, mQ, nT, fV, GM, lI, eF⟩ hr
  simp [jb, and_assoc] at hr
  obtain ⟨rfl, rfl, rfl, rfl, rfl, rfl, rfl, rfl, rfl⟩ := hr
  have HB := zX rfl
  refine ⟨_, rfl, fun K hK => ?_⟩
  rw [ha0]
  simp only [qq]
  go_simp
  refine (Df o.rs Zq Zp _).mono ?_
  rintro e wB ⟨cB, rfl, hit, hq⟩
  have aR := bb2 FB hq
  refine hK.out _ _ aR ⟨true, true, true, true, false, false, false, false, false, kU, eP, cB, cE, gL, gE, eE, gT, rfl, ?_, aR, fun _ => aa (HB.out.kept hq), fun _ => (aa (hit.mono (by have := FB.out.1.size; omega))), nofun, nofun, nofun, nofun, fun e => aa ((lI e).out.below hq), fun e => (eF e)⟩
  rw [ha0]
  simp only [qq]
  try rfl
 ·
  rintro bs a u ⟨vv, EO, rD, uH, iQ, fD, fC, eu, sZ, kU, eP, cR, cE, gL, gE, eE, gT, rfl, rfl, FB, zX, Cr, mQ, nT, fV, GM, lI, eF⟩ hr
  simp [jb, and_assoc] at hr
  obtain ⟨rfl, rfl, rfl, rfl, rfl, rfl, rfl, rfl, rfl⟩ := hr
  have HB := zX rfl
  have HR := Cr rfl
  refine ⟨_, rfl, fun K hK => ?_⟩
  rw [ha0]
  simp only [qq]
  go_simp
  refine (yH o.E1 o.E2 o.A o.na o.ca o.al o.C o.Z o.nz o.cz o.zs q1 q2 (by omega) (by omega) _ (kA.out _ (aa FB.out.1)) (kZ.out _ (aa FB.out.1))).mono ?_
  rintro e wB ⟨cB, rfl, hit, hq⟩
  have aR := bb2 FB hq
  refine hK.out _ _ aR ⟨true, true, true, true, true, false, false, false, false, kU, eP, cR, cB, gL, gE, eE, gT, rfl, ?_, aR, fun _ => aa (HB.out.kept hq), fun _ => aa (HR.out.kept hq), fun _ => (aa (hit.mono (by have := FB.out.1.size; omega))), nofun, nofun, nofun, fun e => aa ((lI e).out.below hq), fun e => (eF e)⟩
  rw [ha0]
  simp only [qq]
  try rfl
 ·
  rintro bs a u ⟨vv, EO, rD, uH, iQ, fD, fC, eu, sZ, kU, eP, cR, cE, gL, gE, eE, gT, rfl, rfl, FB, zX, Cr, mQ, nT, fV, GM, lI, eF⟩ hr
  simp [jb, and_assoc] at hr
  obtain ⟨rfl, rfl, rfl, rfl, rfl, rfl, rfl, rfl, rfl⟩ := hr
  have HB := zX rfl
  have HR := Cr rfl
  have HE := mQ rfl
  refine ⟨_, rfl, fun K hK => ?_⟩
  rw [ha0]
  simp only [qq]
  go_simp
  have aR := bb2 FB (af u (.cells #[.int .i64 eP.kind, .int .i64 eP.n, .slice eP.B eP.nb eP.cb, .slice eP.L eP.nl eP.cl, .int .i64 1, .int .i64 o.num, .slice none 0 0, .slice none 0 0, .int .i64 cR.kind, .int .i64 cR.n, .slice cR.B cR.nb cR.cb, .slice cR.L cR.nl cR.cl, .int .i64 cE.kind, .int .i64 cE.n, .slice cE.B cE.nb cE.cb, .slice cE.L cE.nl cE.cl] 117))
  refine hK.out _ _ aR ⟨true, true, true, true, true, true, false, false, false, kU, eP, cR, cE, u.heap.size, gE, eE, gT, rfl, ?_, aR, fun _ => aa (HB.out.kept (af u (.cells #[.int .i64 eP.kind, .int .i64 eP.n, .slice eP.B eP.nb eP.cb, .slice eP.L eP.nl eP.cl, .int .i64 1, .int .i64 o.num, .slice none 0 0, .slice none 0 0, .int .i64 cR.kind, .int .i64 cR.n, .slice cR.B cR.nb cR.cb, .slice cR.L cR.nl cR.cl, .int .i64 cE.kind, .int .i64 cE.n, .slice cE.B cE.nb cE.cb, .slice cE.L cE.nl cE.cl] 117))), fun _ => aa (HR.out.kept (af u (.cells #[.int .i64 eP.kind, .int .i64 eP.n, .slice eP.B eP.nb eP.cb, .slice eP.L eP.nl eP.cl, .int .i64 1, .int .i64 o.num, .slice none 0 0, .slice none 0 0, .int .i64 cR.kind, .int .i64 cR.n, .slice cR.B cR.nb cR.cb, .slice cR.L cR.nl cR.cl, .int .i64 cE.kind, .int .i64 cE.n, .slice cE.B cE.nb cE.cb, .slice cE.L cE.nl cE.cl] 117))), fun _ => aa (HE.out.kept (af u (.cells #[.int .i64 eP.kind, .int .i64 eP.n, .slice eP.B eP.nb eP.cb, .slice eP.L eP.nl eP.cl, .int .i64 1, .int .i64 o.num, .slice none 0 0, .slice none 0 0, .int .i64 cR.kind, .int .i64 cR.n, .slice cR.B cR.nb cR.cb, .slice cR.L cR.nl cR.cl, .int .i64 cE.kind, .int .i64 cE.n, .slice cE.B cE.nb cE.cb, .slice cE.L cE.nl cE.cl] 117))), fun _ => (aa (heap_alloc_new u _)), fun _ => (aa (by have := FB.out.1.size; omega)), nofun, fun e => aa ((lI e).out.below (af u (.cells #[.int .i64 eP.kind, .int .i64 eP.n, .slice eP.B eP.nb eP.cb, .slice eP.L eP.nl eP.cl, .int .i64 1, .int .i64 o.num, .slice none 0 0, .slice none 0 0, .int .i64 cR.kind, .int .i64 cR.n, .slice cR.B cR.nb cR.cb, .slice cR.L cR.nl cR.cl, .int .i64 cE.kind, .int .i64 cE.n, .slice cE.B cE.nb cE.cb, .slice cE.L cE.nl cE.cl] 117))), fun e => (eF e)⟩
  rw [ha0]
  simp only [qq]
  try rfl
 ·
  rintro bs a u ⟨vv, EO, rD, uH, iQ, fD, fC, eu, sZ, kU, eP, cR, cE, gL, gE, eE, gT, rfl, rfl, FB, zX, Cr, mQ, nT, fV, GM, lI, eF⟩ hr
  simp [jb, and_assoc] at hr
  obtain ⟨rfl, rfl, rfl, rfl, rfl, rfl, rfl, rfl, rfl⟩ := hr
  have HB := zX rfl
  have HR := Cr rfl
  have HE := mQ rfl
  have FL := nT rfl
  have kQ := fV rfl
  refine ⟨_, rfl, fun K hK => ?_⟩
  rw [ha0]
  simp only [qq]
  go_simp
  refine (qH (some ⟨gL, 0, none⟩) 4 4 _).mono ?_
  rintro e wB ⟨rfl, hq⟩
  have aR := bb2 FB hq
  refine hK.out _ _ aR ⟨true, true, true, true, true, true, true, false, false, kU, eP, cR, cE, gL, gE, eE, gT, rfl, ?_, aR, fun _ => aa (HB.out.kept hq), fun _ => aa (HR.out.kept hq), fun _ => aa (HE.out.kept hq), fun _ => aa (bE FL.out hq), fun _ => kQ, nofun, fun e => aa ((lI e).out.below hq), fun e => (eF e)⟩
  rw [ha0]
  simp only [qq]
  try rfl
 ·
  rintro bs a u ⟨vv, EO, rD, uH, iQ, fD, fC, eu, sZ, kU, eP, cR, cE, gL, gE, eE, gT, rfl, rfl, FB, zX, Cr, mQ, nT, fV, GM, lI, eF⟩ hr
  simp [jb, and_assoc] at hr
  obtain ⟨rfl, rfl, rfl, rfl, rfl, rfl, rfl, rfl, rfl⟩ := hr
  have HB := zX rfl
  have HR := Cr rfl
  have HE := mQ rfl
  have FL := nT rfl
  have kQ := fV rfl
  refine ⟨_, rfl, fun K hK => ?_⟩
  rw [ha0]
  simp only [qq]
  go_simp
  have hit : nO u (ow h o) (Ic.mk 3 0 none 0 0 (some ⟨gL, 0, none⟩) 4 4) := uK (fun k => match k with | 0 => eP | 1 => aM o.num | 2 => cR | _ => cE) FL.out rfl (fun k hk => by
    rcases (show k = 0 ∨ k = 1 ∨ k = 2 ∨ k = 3 by omega) with rfl | rfl | rfl | rfl <;> exact ⟨rfl, rfl, rfl, rfl⟩) (fun k hk => by
    rcases (show k = 0 ∨ k = 1 ∨ k = 2 ∨ k = 3 by omega) with rfl | rfl | rfl | rfl
    · exact HB.out.it
    · exact .int _ _ rfl rfl rfl rfl
    · exact HR.out.it
    · exact HE.out.it)
  refine (uz 8 (ow h o) (Ic.mk 3 0 none 0 0 (some ⟨gL, 0, none⟩) 4 4) _ jC.out hit HLEN.out).mono ?_
  rintro e wB ⟨v4, rfl, zI, hq⟩
  rw [GG.1] at zI
  obtain ⟨g4, cap4, e4, hg4, -, -, qR⟩ := zI.cells vC.out.1
  rw [X5.out] at e4
  subst e4
  clear hit zI
  have aR := bb2 FB hq
  refine hK.out _ _ aR ⟨true, true, true, true, true, true, true, true, false, kU, eP, cR, cE, gL, g4, cap4, gT, rfl, ?_, aR, fun _ => aa (HB.out.kept hq), fun _ => aa (HR.out.kept hq), fun _ => aa (HE.out.kept hq), fun _ => aa (bE FL.out hq), fun _ => kQ, fun _ => (aa qR), fun e => aa ((lI e).out.below hq), fun e => (eF e)⟩
  rw [ha0]
  simp only [qq]
  try rfl
 ·
  rintro bs a u ⟨vv, EO, rD, uH, iQ, fD, fC, eu, sZ, kU, eP, cR, cE, gL, gE, eE, gT, rfl, rfl, FB, zX, Cr, mQ, nT, fV, GM, lI, eF⟩ hr
  simp [jb, and_assoc] at hr
  obtain ⟨rfl, rfl, rfl, rfl, rfl, rfl, rfl, rfl, rfl⟩ := hr
  have HB := zX rfl
  have HR := Cr rfl
  have HE := mQ rfl
  have FL := nT rfl
  have kQ := fV rfl
  have FE := GM rfl
  refine ⟨_, rfl, fun K hK => ?_⟩
  rw [ha0]
  simp only [qq]
  go_simp
  refine (kg uo (by decide) (by decide) gE 0 eE E nE X5 he0 (by omega) JR _ FE).mono ?_
  rintro e wB ⟨rfl, hq⟩
  rw [← GG.1, HRR.1]
  have aR := bb2 FB hq
  refine hK.out _ _ aR ⟨true, true, true, true, true, true, true, true, true, kU, eP, cR, cE, gL, gE, eE, gT, rfl, ?_, aR, fun _ => aa (HB.out.kept hq), fun _ => aa (HR.out.kept hq), fun _ => aa (HE.out.kept hq), fun _ => aa (bE FL.out hq), fun _ => kQ, fun _ => aa (FE.out.below hq), fun e => aa ((lI e).out.below hq), fun e => (eF e)⟩
  rw [ha0]
  simp only [qq]
  try rfl
 ·
  rintro bs a u ⟨vv, EO, rD, uH, iQ, fD, fC, eu, sZ, kU, eP, cR, cE, gL, gE, eE, gT, rfl, rfl, FB, zX, Cr, mQ, nT, fV, GM, lI, eF⟩ hr
  simp [jb, and_assoc] at hr
  obtain rfl := hr
  refine ⟨_, rfl, fun K hK => ?_⟩
  rw [ha0]
  simp only [qq]
  go_simp
  have aR := bb2 FB (af u (.cells z32 41))
  refine hK.out _ _ aR ⟨vv, EO, rD, uH, iQ, fD, fC, eu, sZ, true, eP, cR, cE, gL, gE, eE, u.heap.size, rfl, ?_, aR, fun e => aa ((zX e).out.kept (af u (.cells z32 41))), fun e => aa ((Cr e).out.kept (af u (.cells z32 41))), fun e => aa ((mQ e).out.kept (af u (.cells z32 41))), fun e => aa (bE (nT e).out (af u (.cells z32 41))), fun e => (fV e), fun e => aa ((GM e).out.below (af u (.cells z32 41))), fun _ => (aa (show bB .u8 41 (u.alloc (.cells z32 41)) u.heap.size (dD 32) by rw [iP]; exact bB.new _ _)), fun _ => (aa FB.out.1.size)⟩
  rw [ha0]
  simp only [qq]
  try rfl
theorem R7 (P Q G : Int) (m : Nat) (Cs : Option Addr) (cn cc : Nat) (Ks : Option Addr) (kn kc : Nat) (iU : Hid (aV P Q G = true)) (n2 : kn ≤ 8) (n3 : (kn : Int) < Q) (n4 : 1 ≤ (m : Int)) (n5 : (m : Int) ≤ kn) (E1 E2 : Int) (A : Option Addr) (na ca : Nat) (C : Int) (Z : Option Addr) (nz cz : Nat) (L : Option Addr) (ps : List a_) (n c : Nat) (hn : Hid (ps.length = n)) (hnb : n ≤ 100) (hlr : Hid (∀ k, k < n → r64 (ps.getD k aF).ix)) (m1 : Hid (aG P Q E1 = false)) (w : World) (hL : Hid (Pa w L ps)) :
  Calls Tryz.prog 87 #[gv P Q G, lM (m : Int) Cs cn cc Ks kn kc, zK E1 E2 A na ca C Z nz cz, .slice L n c] w (Rt w (.tuple #[.int .i64 0, .int .i64 2])) := by
 obtain ⟨i0, hi, hz0, hz1, hz2⟩ := info_parts lQ
 obtain ⟨q1, q2, q3, q4⟩ := bH iU.out
 obtain ⟨w0, HW, ai, kC⟩ := qF (bq P Q G) gq (rR (m : Int) Cs cn cc Ks kn kc) gq (Ed E1 E2 A na ca C Z nz cz) sG w
 have ah := bS w0
 go_in
 go_wp2_with fail
 rw [HW.out]
 have zc := kC.out _ ah
 go_wp2_with fail
 clear zc
 refine eB kC ah (aP P Q G E1 false m1 q2 (by omega) (by omega) _) fun w1 aD zc => ?_
 go_wp2
 go_ret2
 exact ⟨rfl, fe ai aD⟩
theorem R6 (P Q G : Int) (m : Nat) (Cs : Option Addr) (cn cc : Nat) (Ks : Option Addr) (kn kc : Nat) (iU : Hid (aV P Q G = true)) (n2 : kn ≤ 8) (n3 : (kn : Int) < Q) (n4 : 1 ≤ (m : Int)) (n5 : (m : Int) ≤ kn) (E1 E2 : Int) (A : Option Addr) (na ca : Nat) (C : Int) (Z : Option Addr) (nz cz : Nat) (L : Option Addr) (ps : List a_) (n c : Nat) (hn : Hid (ps.length = n)) (hnb : n ≤ 100) (hlr : Hid (∀ k, k < n → r64 (ps.getD k aF).ix)) (m1 : Hid (aG P Q E1 = true)) (m2 : Hid (aG P Q E2 = false)) (w : World) (hL : Hid (Pa w L ps)) :
  Calls Tryz.prog 87 #[gv P Q G, lM (m : Int) Cs cn cc Ks kn kc, zK E1 E2 A na ca C Z nz cz, .slice L n c] w (Rt w (.tuple #[.int .i64 0, .int .i64 2])) := by
 obtain ⟨i0, hi, hz0, hz1, hz2⟩ := info_parts lQ
 obtain ⟨q1, q2, q3, q4⟩ := bH iU.out
 obtain ⟨w0, HW, ai, kC⟩ := qF (bq P Q G) gq (rR (m : Int) Cs cn cc Ks kn kc) gq (Ed E1 E2 A na ca C Z nz cz) sG w
 have ah := bS w0
 go_in
 go_wp2_with fail
 rw [HW.out]
 have zc := kC.out _ ah
 go_wp2_with fail
 clear zc
 refine eB kC ah (aP P Q G E1 true m1 q2 (by omega) (by omega) _) fun w1 aD zc => ?_
 go_wp2_with fail
 clear zc
 refine eB kC aD (aP P Q G E2 false m2 q2 (by omega) (by omega) _) fun w2 aN zc => ?_
 go_wp2
 go_ret2
 exact ⟨rfl, fe ai aN⟩
theorem R5 (P Q G : Int) (m : Nat) (Cs : Option Addr) (cn cc : Nat) (Ks : Option Addr) (kn kc : Nat) (iU : Hid (aV P Q G = true)) (n2 : kn ≤ 8) (n3 : (kn : Int) < Q) (n4 : 1 ≤ (m : Int)) (n5 : (m : Int) ≤ kn) (E1 E2 : Int) (A : Option Addr) (na ca : Nat) (C : Int) (Z : Option Addr) (nz cz : Nat) (L : Option Addr) (ps : List a_) (n c : Nat) (hn : Hid (ps.length = n)) (hnb : n ≤ 100) (hlr : Hid (∀ k, k < n → r64 (ps.getD k aF).ix)) (m1 : Hid (aG P Q E1 = true)) (m2 : Hid (aG P Q E2 = true)) (w : World) (hL : Hid (Pa w L ps)) :
  Calls Tryz.prog 87 #[gv P Q G, lM (m : Int) Cs cn cc Ks kn kc, zK E1 E2 A na ca C Z nz cz, .slice L n c] w (Rt w (.tuple #[.int .i64 (nN P Q (m : Int) kn E1 E2 ps), .int .i64 (jg P Q (m : Int) kn E1 E2 ps)])) := by
 obtain ⟨i0, hi, hz0, hz1, hz2⟩ := info_parts lQ
 obtain ⟨q1, q2, q3, q4⟩ := bH iU.out
 obtain ⟨w0, HW, ai, kC⟩ := qF (bq P Q G) gq (rR (m : Int) Cs cn cc Ks kn kc) gq (Ed E1 E2 A na ca C Z nz cz) sG w
 have kL := gV (fun u => Pa u L ps) ai hL (·.below)
 have ah := bS w0
 clear hL
 go_in
 go_wp2_with fail
 rw [HW.out]
 have zc := kC.out _ ah
 go_wp2_with fail
 clear zc
 refine eB kC ah (aP P Q G E1 true m1 q2 (by omega) (by omega) _) fun w1 aD zc => ?_
 go_wp2_with fail
 clear zc
 refine eB kC aD (aP P Q G E2 true m2 q2 (by omega) (by omega) _) fun w2 aN zc => ?_
 go_wp2
 clear zc
 go_loopw [10, 11] (fun vx i wr => ∃ k : Nat, k ≤ n ∧ i = .int .i64 k ∧ Hid (ps.all (zD P Q kn) = (ps.drop k).all (zD P Q kn)) ∧ Hid (wr.ownsRow w0.heap.size 3 1 vx k ((jR (ps.take k)).map (Value.int .i64))) ∧ Hid (Below w0.heap.size w0 wr)) (fun _ i _ => n - (intOf i).toNat)
 case atStart => exact ⟨0, by omega, rfl, aa rfl, aa (World.ownsRow_nil _ _ _ _), aN⟩
 case round =>
  obtain ⟨k, hk, rfl, HR, Uk, au⟩ := hrel
  by_cases hlt : k < n
  ·
   have hkl : k < ps.length := by rw [hn.out]; exact hlt
   obtain ⟨b, o, hA, j0, j1, j2, j3, j4, hok⟩ := (kL.out _ au).out k hkl
   subst hA
   have tx := CW hkl
   obtain ⟨ix, hix⟩ : ∃ x, (ps.getD k aF).ix = x := ⟨_, rfl⟩
   obtain ⟨v, hvv⟩ : ∃ x, (ps.getD k aF).v = x := ⟨_, rfl⟩
   rw [hix] at j0 tx
   rw [hvv] at j1
   have TX := aa tx
   have kI := aa (show ∀ u : World, Hid (Below wr.heap.size wr u) → u.cell? ⟨b, o + k * 5, none⟩ = some (.int .i64 ix) ∧ u.cell? ⟨b, o + k * 5 + 1, none⟩ = some (.int .i64 v) from fun u h => ⟨cell_below j0 h.out, cell_below j1 h.out⟩)
   clear tx hok j0 j1 j2 j3 j4
   have aY := bS wr
   cases hm : qo kn ix with
   | true =>
    cases hg : aG P Q v with
    | true =>
     have HS : Hid (ps.all (zD P Q kn) = (ps.drop (k + 1)).all (zD P Q kn)) := aa (HR.out.trans (AU hkl (by rw [zD, hix, hvv, hm, hg]; rfl)))
     have HM := aa hm
     have HG := aa hg
     clear hm hg HR hix hvv
     have zc := kC.out _ au
     have rZ := kI.out _ aY
     go_wp2_with fail
     clear zc rZ
     have hO := aa (fun (u : World) (h : Hid (Below w0.heap.size w0 u ∧ Below wr.heap.size wr u)) => And.intro (kC.out u (aa h.out.1)) (kI.out u (aa h.out.2)))
     refine t_ (fun u => Below w0.heap.size w0 u ∧ Below wr.heap.size wr u) [] (bb2 (aa ⟨au.out, aY.out⟩) ((Below.refl _ _).drew)) (fun hHeld => ?_)
     refine aT 0 1 2 3 ?_
     refine aH 4 ?_
     refine aH 5 ?_
     refine bW 6 fun K hK => ?_
     go_simp
     refine (jm (m : Int) Cs cn cc Ks kn kc ix true HM _).mono ?_
     rintro e wA ⟨rfl, bM⟩
     refine hK.out _ _ (bb2 hHeld bM) (fun hHeld => ?_)
     clear hK K
     refine aT 7 8 9 10 ?_
     refine aT 11 12 13 14 ?_
     refine bW 15 fun K hK => ?_
     go_simp
     refine (aP P Q G v true HG q2 (by omega) (by omega) _).mono ?_
     rintro e wA ⟨rfl, bM⟩
     refine hK.out _ _ (bb2 hHeld bM) (fun hHeld => ?_)
     clear hK K
     refine aH 16 ?_
     refine aH 17 ?_
     refine gz ?_
     clear hO
     have dW := (aa hHeld.out.1)
     have lH := (aa hHeld.out.2)
     clear hHeld
     have zc := kC.out _ dW
     have rZ := kI.out _ lH
     obtain ⟨wq, hwq⟩ : ∃ x, wA = x := ⟨_, rfl⟩
     subst hwq
     clear zc rZ
     have zc := kC.out _ dW
     have rZ := kI.out _ lH
     have JO := aa (Uk.out.kept (uP lH.out none) (uC _))
     have hown := JO.out
     have hbs := dW.out.size
     go_wp2_with (at_builtin; refine wpList_append_own _ rfl _ _ 24 rfl w0.heap.size 3 i0 (.int .i64 0) 1 8 Tryz.underlying24 hi hz0 hz1 hz2 rfl (by decide) _ _ _ rfl (hown.alloc _) ⟨wA.heap.size, 0, none⟩ 1 1 [.int .i64 ix] rfl rfl (cell_one_new _ _ _) (ints_oneCell .i64 [ix]) (by unfold maxLen; omega) (by omega) (by simp; omega) ?_; intro v' y3 hown1 hgrow1 _)
     have lU : Hid (y3.ownsRow w0.heap.size 3 1 v' (k + 1) ((jR (ps.take (k + 1))).map (Value.int .i64))) := aa (by rw [TX.out]; simpa using hown1)
     have HB3 : Hid (Below w0.heap.size w0 y3) := aa ((dW.out.alloc hbs _).grown hgrow1 (by simp; omega) (fun j hj => (hown.lt j hj).1))
     clear hown hown1 hgrow1 JO
     go_roundw
     case rel => exact ⟨k + 1, by omega, by go_num, HS, lU, HB3⟩
     case measure => simp [intOf]; omega
    | false =>
     have HF : Hid (jg P Q (m : Int) kn E1 E2 ps = 2) := aa (by rw [jg, m1.out, m2.out, HR.out, uW hkl (by rw [zD, hix, hvv, hm, hg]; rfl)]; rfl)
     have HM := aa hm
     have HG := aa hg
     clear hm hg HR hix hvv
     have zc := kC.out _ au
     have rZ := kI.out _ aY
     go_wp2_with fail
     clear zc rZ
     have hO := aa (fun (u : World) (h : Hid (Below w0.heap.size w0 u ∧ Below wr.heap.size wr u)) => And.intro (kC.out u (aa h.out.1)) (kI.out u (aa h.out.2)))
     refine t_ (fun u => Below w0.heap.size w0 u ∧ Below wr.heap.size wr u) [] (bb2 (aa ⟨au.out, aY.out⟩) ((Below.refl _ _).drew)) (fun hHeld => ?_)
     refine aT 0 1 2 3 ?_
     refine aH 4 ?_
     refine aH 5 ?_
     refine bW 6 fun K hK => ?_
     go_simp
     refine (jm (m : Int) Cs cn cc Ks kn kc ix true HM _).mono ?_
     rintro e wA ⟨rfl, bM⟩
     refine hK.out _ _ (bb2 hHeld bM) (fun hHeld => ?_)
     clear hK K
     refine aT 7 8 9 10 ?_
     refine aT 11 12 13 14 ?_
     refine bW 15 fun K hK => ?_
     go_simp
     refine (aP P Q G v false HG q2 (by omega) (by omega) _).mono ?_
     rintro e wA ⟨rfl, bM⟩
     refine hK.out _ _ (bb2 hHeld bM) (fun hHeld => ?_)
     clear hK K
     refine aH 16 ?_
     refine aH 17 ?_
     refine gz ?_
     clear hO
     have dW := (aa hHeld.out.1)
     have lH := (aa hHeld.out.2)
     clear hHeld
     have zc := kC.out _ dW
     have rZ := kI.out _ lH
     have bV := ag ai.out dW.out
     go_wp2
     go_ret2
     exact ⟨by rw [nN, HF.out]; rfl, bV⟩
   | false =>
    have HF : Hid (jg P Q (m : Int) kn E1 E2 ps = 2) := aa (by rw [jg, m1.out, m2.out, HR.out, uW hkl (by rw [zD, hix, hm]; rfl)]; rfl)
    have HM := aa hm
    clear hm HR hix hvv
    have zc := kC.out _ au
    have rZ := kI.out _ aY
    go_wp2_with fail
    clear zc rZ
    have hO := aa (fun (u : World) (h : Hid (Below w0.heap.size w0 u ∧ Below wr.heap.size wr u)) => And.intro (kC.out u (aa h.out.1)) (kI.out u (aa h.out.2)))
    refine t_ (fun u => Below w0.heap.size w0 u ∧ Below wr.heap.size wr u) [] (bb2 (aa ⟨au.out, aY.out⟩) ((Below.refl _ _).drew)) (fun hHeld => ?_)
    refine aT 0 1 2 3 ?_
    refine aH 4 ?_
    refine aH 5 ?_
    refine bW 6 fun K hK => ?_
    go_simp
    refine (jm (m : Int) Cs cn cc Ks kn kc ix false HM _).mono ?_
    rintro e wA ⟨rfl, bM⟩
    refine hK.out _ _ (bb2 hHeld bM) (fun hHeld => ?_)
    clear hK K
    refine aH 7 ?_
    refine aH 8 ?_
    refine dR 9 10 11 12 ?_
    refine dR 13 14 15 16 ?_
    refine aH 17 ?_
    refine gz ?_
    clear hO
    have dW := (aa hHeld.out.1)
    have lH := (aa hHeld.out.2)
    clear hHeld
    have zc := kC.out _ dW
    have rZ := kI.out _ lH
    have bV := ag ai.out dW.out
    go_wp2
    go_ret2
    exact ⟨by rw [nN, HF.out]; rfl, bV⟩
  ·
   obtain rfl : k = n := by omega
   have hall : ps.all (zD P Q kn) = true := by rw [HR.out, ← hn.out, List.drop_length]; rfl
   have hox := Uk.out
   rw [List.take_of_length_le (by rw [hn.out]; exact Nat.le_refl _)] at hox
   have FX : (jR ps).length = k := by rw [List.length_map]; exact hn.out
   obtain ⟨AX, cX, Zl, sX, hcX⟩ := xB hox FX
   subst Zl
   have Xn := aa sX
   have UA := aa FX
   have oM := aa hall
   clear hall hox FX sX HR Uk
   have aY := bS wr
   have kX := wh (w := wr) (fun u => Sl u AX (jR ps)) Xn.out (·.below)
   have zc := kC.out _ au
   by_cases hnt : jU (jR ps)
   ·
    have xw := aa hnt
    clear hnt
    go_wp2_with fail
    clear zc
    refine MU au aY (yB AX (jR ps) k cX false (aa ⟨fun _ => xw.out, fun _ => rfl⟩) UA (by omega) _ (kX.out _ aY)) fun w3 bu bG => ?_
    have zc := kC.out _ bu
    by_cases hfw : k < m
    ·
     have HF : Hid (jg P Q (m : Int) kn E1 E2 ps = 7) := aa (by rw [jg, m1.out, m2.out, oM.out]; simp [xw.out, hn.out]; omega)
     have df : decide ((k : Int) < (m : Int)) = true := by simp; omega
     have bV := ag ai.out bu.out
     go_wp2
     go_ret2
     exact ⟨by rw [nN, HF.out]; rfl, bV⟩
    ·
     have HF : Hid (jg P Q (m : Int) kn E1 E2 ps = 0) := aa (by rw [jg, m1.out, m2.out, oM.out]; simp [xw.out, hn.out]; omega)
     have HVF : Hid (nN P Q (m : Int) kn E1 E2 ps = Ct P Q E2 (Cu ps) (vk Q ((jR ps).take m) 0) m) := aa (by rw [nN, HF.out]; rfl)
     have df : decide ((k : Int) < (m : Int)) = false := by simp; omega
     have hmc : m ≤ cX := by omega
     have QY : Hid (((jR ps).take m).length = m) := aa (by rw [List.length_take, UA.out]; omega)
     have TV : Hid (((jR ps).take m).all (gW Q) = true) := aa (Lf oM.out n3)
     have HPQ : Hid (nC Q = true) := aa (CR iU.out)
     have Zf := aa (show ∀ u : World, Hid (Below wr.heap.size wr u) → Hid (Sl u AX ((jR ps).take m)) from fun u h => aa ((Be (Xn.out.below h.out) m)))
     go_upto_region 14 with (fail)
     clear zc
     have hO := aa (fun (u : World) (h : Hid (Below w0.heap.size w0 u ∧ Below wr.heap.size wr u)) => kC.out u (aa h.out.1))
     refine t_ (fun u => Below w0.heap.size w0 u ∧ Below wr.heap.size wr u) [] (bb2 (aa ⟨bu.out, bG.out⟩) ((Below.refl _ _).drew)) (fun hHeld => ?_)
     refine aT 0 1 2 3 ?_
     refine aH 4 ?_
     refine aH 5 ?_
     refine bW 6 fun K hK => ?_
     go_simp
     refine (Bf Q AX ((jR ps).take m) m cX 0 (by omega) HPQ QY (by omega) TV (by omega) (by omega) _ (Zf.out _ (aa hHeld.out.2))).mono ?_
     intro e wA hW
     obtain ⟨vw, rfl, Wh, bM⟩ := hW
     have HOW := aa Wh
     clear Wh
     refine hK.out _ _ (bb2 hHeld bM) (fun hHeld => ?_)
     clear hK K
     refine aH 7 ?_
     refine gz ?_
     clear hO
     have Gz := (aa hHeld.out.1)
     have Uw := (aa hHeld.out.2)
     clear hHeld
     have zc := kC.out _ Gz
     have Py := HOW.out
     unfold fT at Py
     rw [fJ] at Py
     obtain ⟨AW, cW, hvw, sW, hcW⟩ := xB Py (fJ _ _ _ _)
     subst hvw
     have EI := aa sW
     clear Py sW HOW
     clear zc
     have YT := bS wA
     have kW := wh (w := wA) (fun u => Sl u AW (CK Q ((jR ps).take m) 0 m)) EI.out (·.below)
     have zc := kC.out _ Gz
     go_wp2
     clear zc
     go_loopw [13, 14] (fun a i wz => ∃ j : Nat, j ≤ m ∧ i = .int .i64 j ∧ a = .int .i64 (Ct P Q E2 (Cu ps) (vk Q ((jR ps).take m) 0) j) ∧ Hid (Below wA.heap.size wA wz)) (fun _ i _ => m - (intOf i).toNat)
     case atStart => exact ⟨0, by omega, rfl, rfl, aa (Below.refl _ _)⟩
     case round =>
      obtain ⟨j, hj, rfl, rfl, qC⟩ := hrel
      have qi := aa (ag Gz.out qC.out)
      have QW := aa (ag Uw.out qC.out)
      obtain ⟨r0, r1⟩ := yF (E := E2) (Q := Q) (vs := Cu ps) (ws := vk Q ((jR ps).take m) 0) q1 (by have := fE m2.out; omega) (fF m2.out) j
      by_cases wY : j < m
      ·
       have hkl : j < ps.length := by have := hn.out; omega
       have hjk : j < k := by omega
       obtain ⟨b1, o1, hA1, i1⟩ := (kW.out _ qC).out j (by rw [fJ]; exact wY)
       subst hA1
       obtain ⟨b2, o2, hA2, j0, j1, j2, j3, j4, hok⟩ := (kL.out _ qi).out j hkl
       subst hA2
       rw [GN _ _ _ _ _ wY] at i1
       have ss : Ct P Q E2 (Cu ps) (vk Q ((jR ps).take m) 0) (j + 1) = Ct P Q E2 (Cu ps) (vk Q ((jR ps).take m) 0) j * pw (Cu ps j) ((0 - vk Q ((jR ps).take m) 0 j) % Q) P % P := rfl
       obtain ⟨x0, x1⟩ := x_ (q := Q) (by omega) ((jR ps).take m) 0 j
       have hyb := xA (uX oM.out hkl)
       obtain ⟨x, hx⟩ : ∃ x, vk Q ((jR ps).take m) 0 j = x := ⟨_, rfl⟩
       obtain ⟨y, hy⟩ : ∃ x, Cu ps j = x := ⟨_, rfl⟩
       obtain ⟨s9, FQ⟩ : ∃ x, Ct P Q E2 (Cu ps) (vk Q ((jR ps).take m) 0) j = x := ⟨_, rfl⟩
       rw [hx] at i1 x0 x1 ss
       rw [show (ps.getD j aF).v = y from hy] at j1
       rw [show (ps.getD j aF).v = y from hy] at hyb
       rw [hy, FQ] at ss
       rw [FQ] at r0 r1 ⊢
       obtain ⟨p, hp⟩ : ∃ z, pw y ((0 - x) % Q) P = z := ⟨_, rfl⟩
       obtain ⟨t9, SF⟩ : ∃ z, s9 * p % P = z := ⟨_, rfl⟩
       rw [hp, SF] at ss
       obtain ⟨p0, p1⟩ : 0 ≤ p ∧ p < P := by rw [← hp]; exact vW _ _ _ (by omega)
       have y0 := fE hyb
       have y1 := fF hyb
       have adF : IntKind.i64.wrap (0 - x) = -x := by rw [Int.zero_sub]; exact IntWalk.i64_in _ (by omega)
       have abZ : IntKind.i64.wrap (-x) = -x := IntWalk.i64_in _ (by omega)
       have abY : wrap64 (0 - x) = -x := by rw [Int.zero_sub]; exact IntWalk.wrap64_in _ (by omega)
       have abX : wrap64 (-x) = -x := IntWalk.wrap64_in _ (by omega)
       have SS := aa ss
       have HP : Hid (pw y ((-x) % Q) P = p) := aa (by rw [← Int.zero_sub]; exact hp)
       have HT9 := aa SF
       have kI := aa (show ∀ u : World, Hid (Below wr.heap.size wr u) → u.cell? ⟨b2, o2 + j * 5 + 1, none⟩ = some (.int .i64 y) ∧ u.cell? ⟨b1, o1 + j, none⟩ = some (.int .i64 x) from fun u h => ⟨cell_below j1 h.out, cell_below i1 h.out⟩)
       clear ss hx hy FQ hp SF hkl hyb j0 j1 j2 j3 j4 hok i1
       have dx := bS wr
       have zc := kC.out _ qi
       have rZ := kI.out _ dx
       go_wp2_with fail
       clear zc rZ
       have hO := aa (fun (u : World) (h : Hid (Below w0.heap.size w0 u ∧ Below wA.heap.size wA u ∧ Below wr.heap.size wr u)) => And.intro (kC.out u (aa h.out.1)) (kI.out u (aa h.out.2.2)))
       refine t_ (fun u => Below w0.heap.size w0 u ∧ Below wA.heap.size wA u ∧ Below wr.heap.size wr u) [] (bb3 (aa ⟨qi.out, qC.out, dx.out⟩) ((Below.refl _ _).drew)) (fun hHeld => ?_)
       refine aT 0 1 2 3 ?_
       refine aT 4 5 6 7 ?_
       refine aT 8 9 10 11 ?_
       refine aH 12 ?_
       refine bW 13 fun K hK => ?_
       go_simp
       refine (yE P Q G y (-x) p HP (by omega) q2 (by omega) (by omega) (by omega) y1 (by omega) (by omega) _).mono ?_
       rintro e wA ⟨rfl, bM⟩
       refine hK.out _ _ (bb3 hHeld bM) (fun hHeld => ?_)
       clear hK K
       try simp only [qq]
       refine bW 14 fun K hK => ?_
       go_simp
       refine (Ag P Q G s9 p t9 HT9 q2 r0 r1 p0 p1 _).mono ?_
       rintro e wA ⟨rfl, bM⟩
       refine hK.out _ _ (bb3 hHeld bM) (fun hHeld => ?_)
       clear hK K
       refine aH 15 ?_
       refine gz ?_
       clear hO
       have fU := (aa hHeld.out.1)
       have Uv := (aa hHeld.out.2.1)
       have Gy := (aa hHeld.out.2.2)
       clear hHeld
       have zc := kC.out _ fU
       have rZ := kI.out _ Gy
       go_wp2
       go_roundw
       case rel => exact ⟨j + 1, by omega, by go_num, by rw [SS.out], Uv⟩
       case measure => simp [intOf]; omega
      ·
       obtain rfl : j = m := by omega
       have zc := kC.out _ qi
       have bV := ag ai.out qi.out
       go_wp2
       go_ret2
       exact ⟨by rw [HVF.out, HF.out]; rfl, bV⟩
   ·
    have HF : Hid (jg P Q (m : Int) kn E1 E2 ps = 8) := aa (by rw [jg, m1.out, m2.out, oM.out]; simp [hnt])
    have xw := aa hnt
    clear hnt
    go_wp2_with fail
    clear zc
    refine MU au aY (yB AX (jR ps) k cX true (aa ⟨fun h => (by cases h), fun h => absurd h xw.out⟩) UA (by omega) _ (kX.out _ aY)) fun w3 bu bG => ?_
    have zc := kC.out _ bu
    have bV := ag ai.out bu.out
    go_wp2
    go_ret2
    exact ⟨by rw [nN, HF.out]; rfl, bV⟩
def CV (P Q G need : Int) (cs ks : List Int) (E1 ix v C : Int) (lb al zs : List Int) : Bool := tY P Q G need cs ks && (qo ks.length ix && AA P Q G G (ks.getD (ix - 1).toNat 0) E1 v C lb al zs)
theorem Ri (P Q G need : Int) (Cs : Option Addr) (cs : List Int) (cn cc : Nat) (Ks : Option Addr) (ks : List Int) (kn kc : Nat) (hcn : Hid (cs.length = cn)) (hkn : Hid (ks.length = kn)) (E1 E2 : Int) (A : Option Addr) (na ca : Nat) (C : Int) (Z : Option Addr) (nz cz : Nat) (ix : Int) (v : Int) (pA : Option Addr) (oq : List Int) (jK qm : Nat) (pC : Int) (pZ : Option Addr) (om : List Int) (jJ ql : Nat) (eX : Hid (oq.length = jK)) (hzn : Hid (om.length = jJ)) (hna : jK < 1000000) (hnz : jJ < 1000000) (s : ByteArray) (hs : s.size ≤ 1000) (ht : Hid (tY P Q G need cs ks = false)) (hQ : Q < 9223372036854775808) (w : World) (hv : Hid (Vars w)) (hd0 : Hid (bF w)) (hC : Hid (Sl w Cs cs)) (hK : Hid (Sl w Ks ks)) (kF : Hid (Sl w pA oq)) (kz : Hid (Sl w pZ om)) :
  Calls Tryz.prog 126 #[gv P Q G, lM need Cs cn cc Ks kn kc, zK E1 E2 A na ca C Z nz cz, .string s, OW ix v pA jK qm pC pZ jJ ql] w (Rt w (.bool false)) := by
 obtain ⟨w0, HW, ai, kC⟩ := JX (bq P Q G) gq (rR need Cs cn cc Ks kn kc) gq (Ed E1 E2 A na ca C Z nz cz) J6 (NL ix v pA jK qm pC pZ jJ ql) sG w
 have kV := mkV ai hv
 have kD := r_ ai hd0
 have nL := mkS ai hC
 have rU := mkS ai hK
 have Jt := mkS ai kF
 have Js := mkS ai kz
 have ah := bS w0
 clear hv hd0 hC hK kF kz
 go_in
 go_wp2_with fail
 rw [HW.out]
 have hO := kC
 refine jq [] ah (fun hHeld => ?_)
 refine aH 0 ?_
 refine aH 1 ?_
 refine bW 2 fun K hK => ?_
 go_simp
 refine (mX P Q G need Cs cs cn cc Ks ks kn kc hcn hkn false ht hQ _ (kV.out _ hHeld) (nL.out _ hHeld) (rU.out _ hHeld)).mono ?_
 rintro e wA ⟨rfl, bM⟩
 refine hK.out _ _ (bY hHeld bM) (fun hHeld => ?_)
 clear hK K
 refine aH 3 ?_
 refine dR 4 5 6 7 ?_
 refine aH 8 ?_
 refine aH 9 ?_
 refine dR 10 11 12 13 ?_
 refine dR 14 15 16 17 ?_
 refine dR 18 19 20 21 ?_
 refine dR 22 23 24 25 ?_
 refine jl 26 ?_
 refine jl 27 ?_
 refine aH 28 ?_
 refine aH 29 ?_
 refine gz ?_
 clear hO
 have bI := hHeld
 clear hHeld
 have zc := kC.out _ bI
 go_wp2
 go_ret
 exact ⟨rfl, fe ai bI⟩
theorem Rh (P Q G need : Int) (Cs : Option Addr) (cs : List Int) (cn cc : Nat) (Ks : Option Addr) (ks : List Int) (kn kc : Nat) (hcn : Hid (cs.length = cn)) (hkn : Hid (ks.length = kn)) (E1 E2 : Int) (A : Option Addr) (na ca : Nat) (C : Int) (Z : Option Addr) (nz cz : Nat) (ix : Int) (v : Int) (pA : Option Addr) (oq : List Int) (jK qm : Nat) (pC : Int) (pZ : Option Addr) (om : List Int) (jJ ql : Nat) (eX : Hid (oq.length = jK)) (hzn : Hid (om.length = jJ)) (hna : jK < 1000000) (hnz : jJ < 1000000) (s : ByteArray) (hs : s.size ≤ 1000) (ht : Hid (tY P Q G need cs ks = true)) (hm : Hid (qo kn ix = false)) (hQ : Q < 9223372036854775808) (w : World) (hv : Hid (Vars w)) (hd0 : Hid (bF w)) (hC : Hid (Sl w Cs cs)) (hK : Hid (Sl w Ks ks)) (kF : Hid (Sl w pA oq)) (kz : Hid (Sl w pZ om)) :
  Calls Tryz.prog 126 #[gv P Q G, lM need Cs cn cc Ks kn kc, zK E1 E2 A na ca C Z nz cz, .string s, OW ix v pA jK qm pC pZ jJ ql] w (Rt w (.bool false)) := by
 obtain ⟨w0, HW, ai, kC⟩ := JX (bq P Q G) gq (rR need Cs cn cc Ks kn kc) gq (Ed E1 E2 A na ca C Z nz cz) J6 (NL ix v pA jK qm pC pZ jJ ql) sG w
 have kV := mkV ai hv
 have kD := r_ ai hd0
 have nL := mkS ai hC
 have rU := mkS ai hK
 have Jt := mkS ai kF
 have Js := mkS ai kz
 have ah := bS w0
 clear hv hd0 hC hK kF kz
 go_in
 go_wp2_with fail
 rw [HW.out]
 have hO := kC
 refine jq [] ah (fun hHeld => ?_)
 refine aH 0 ?_
 refine aH 1 ?_
 refine bW 2 fun K hK => ?_
 go_simp
 refine (mX P Q G need Cs cs cn cc Ks ks kn kc hcn hkn true ht hQ _ (kV.out _ hHeld) (nL.out _ hHeld) (rU.out _ hHeld)).mono ?_
 rintro e wA ⟨rfl, bM⟩
 refine hK.out _ _ (bY hHeld bM) (fun hHeld => ?_)
 clear hK K
 refine aT 3 4 5 6 ?_
 refine bW 7 fun K hK => ?_
 go_simp
 refine (mH need Cs cn cc Ks kn kc ix false hm _).mono ?_
 rintro e wA ⟨rfl, bM⟩
 refine hK.out _ _ (bY hHeld bM) (fun hHeld => ?_)
 clear hK K
 refine aH 8 ?_
 refine aH 9 ?_
 refine dR 10 11 12 13 ?_
 refine dR 14 15 16 17 ?_
 refine dR 18 19 20 21 ?_
 refine dR 22 23 24 25 ?_
 refine jl 26 ?_
 refine jl 27 ?_
 refine aH 28 ?_
 refine aH 29 ?_
 refine gz ?_
 clear hO
 have bI := hHeld
 clear hHeld
 have zc := kC.out _ bI
 go_wp2
 go_ret
 exact ⟨rfl, fe ai bI⟩
theorem Rf (P Q G need : Int) (Cs : Option Addr) (cs : List Int) (cn cc : Nat) (bK oK : Nat) (ks : List Int) (kn kc : Nat) (hcn : Hid (cs.length = cn)) (hkn : Hid (ks.length = kn)) (E1 E2 : Int) (A : Option Addr) (na ca : Nat) (C : Int) (Z : Option Addr) (nz cz : Nat) (j : Nat) (hjk : j < kn) (hkb : kn ≤ 8) (v : Int) (pA : Option Addr) (oq : List Int) (jK qm : Nat) (pC : Int) (pZ : Option Addr) (om : List Int) (jJ ql : Nat) (eX : Hid (oq.length = jK)) (hzn : Hid (om.length = jJ)) (hna : jK < 1000000) (hnz : jJ < 1000000) (s : ByteArray) (hs : s.size ≤ 1000) (ht : Hid (tY P Q G need cs ks = true)) (hm : Hid (qo kn ((j : Int) + 1) = true)) (kj : Int) (Wi : Hid (ks.getD j 0 = kj)) (r : Bool) (HV : Kp (AA P Q G G kj E1 v pC (aU s) oq om = r)) (hQ : Q < 9223372036854775808) (w : World) (hv : Hid (Vars w)) (hd0 : Hid (bF w)) (hC : Hid (Sl w Cs cs)) (hK : Hid (Sl w (some ⟨bK, oK, none⟩) ks)) (kF : Hid (Sl w pA oq)) (kz : Hid (Sl w pZ om)) :
  Calls Tryz.prog 126 #[gv P Q G, lM need Cs cn cc (some ⟨bK, oK, none⟩) kn kc, zK E1 E2 A na ca C Z nz cz, .string s, OW ((j : Int) + 1) v pA jK qm pC pZ jJ ql] w (Rt w (.bool r)) := by
 obtain ⟨dj, dj1, dj2, dj3, Z_⟩ := uR hjk hkb
 have hjl : j < ks.length := by rw [hkn.out]; exact hjk
 obtain ⟨w0, HW, ai, kC⟩ := JX (bq P Q G) gq (rR need Cs cn cc (some ⟨bK, oK, none⟩) kn kc) gq (Ed E1 E2 A na ca C Z nz cz) J6 (NL ((j : Int) + 1) v pA jK qm pC pZ jJ ql) sG w
 have kV := mkV ai hv
 have kD := r_ ai hd0
 have nL := mkS ai hC
 have rU := mkS ai hK
 have Jt := mkS ai kF
 have Js := mkS ai kz
 have ah := bS w0
 clear hv hd0 hC hK kF kz
 have kI := aa (show ∀ u : World, Hid (Below w0.heap.size w0 u) → u.cell? ⟨bK, oK + j, none⟩ = some (.int .i64 kj) from fun u h => by
  obtain ⟨b9, o9, hA, hi⟩ := (rU.out u h).out j hjl
  cases hA
  rwa [Wi.out] at hi)
 go_in
 go_wp2_with fail
 rw [HW.out]
 have hO := aa (fun (u : World) (h : Hid (Below w0.heap.size w0 u)) => And.intro (kC.out u h) (kI.out u h))
 refine jq [] ah (fun hHeld => ?_)
 refine aH 0 ?_
 refine aH 1 ?_
 refine bW 2 fun K hK => ?_
 go_simp
 refine (mX P Q G need Cs cs cn cc (some ⟨bK, oK, none⟩) ks kn kc hcn hkn true ht hQ _ (kV.out _ hHeld) (nL.out _ hHeld) (rU.out _ hHeld)).mono ?_
 rintro e wA ⟨rfl, bM⟩
 refine hK.out _ _ (bY hHeld bM) (fun hHeld => ?_)
 clear hK K
 refine aT 3 4 5 6 ?_
 refine bW 7 fun K hK => ?_
 go_simp
 refine (mH need Cs cn cc (some ⟨bK, oK, none⟩) kn kc ((j : Int) + 1) true hm _).mono ?_
 rintro e wA ⟨rfl, bM⟩
 refine hK.out _ _ (bY hHeld bM) (fun hHeld => ?_)
 clear hK K
 refine aT 8 9 10 11 ?_
 refine aT 12 13 14 15 ?_
 refine aT 16 17 18 19 ?_
 refine aT 20 21 22 23 ?_
 refine aH 24 ?_
 refine aH 25 ?_
 refine aH 26 ?_
 refine bW 27 fun K hK => ?_
 go_simp
 refine (ML P Q G G kj E1 v pA oq jK qm pC pZ om jJ ql eX hzn hna hnz hQ s hs r HV _ (kV.out _ hHeld) (kD.out _ hHeld) (Jt.out _ hHeld) (Js.out _ hHeld)).mono ?_
 rintro e wA ⟨rfl, bM⟩
 refine hK.out _ _ (bY hHeld bM) (fun hHeld => ?_)
 clear hK K
 refine aH 28 ?_
 refine aH 29 ?_
 refine gz ?_
 clear hO
 have bI := hHeld
 clear hHeld
 have zc := kC.out _ bI
 have rZ := kI.out _ bI
 go_wp2
 go_ret
 exact ⟨rfl, fe ai bI⟩
theorem Km (P Q G need : Int) (Cs : Option Addr) (cs : List Int) (cn cc : Nat) (Ks : Option Addr) (ks : List Int) (kn kc : Nat) (hcn : Hid (cs.length = cn)) (hkn : Hid (ks.length = kn)) (E1 E2 : Int) (A : Option Addr) (na ca : Nat) (C : Int) (Z : Option Addr) (nz cz : Nat) (ix : Int) (v : Int) (pA : Option Addr) (oq : List Int) (jK qm : Nat) (pC : Int) (pZ : Option Addr) (om : List Int) (jJ ql : Nat) (eX : Hid (oq.length = jK)) (hzn : Hid (om.length = jJ)) (hna : jK < 1000000) (hnz : jJ < 1000000) (s : ByteArray) (hs : s.size ≤ 1000) (r : Bool) (hr : Kp (CV P Q G need cs ks E1 ix v pC (aU s) oq om = r)) (hQ : Q < 9223372036854775808) (w : World) (hv : Hid (Vars w)) (hd0 : Hid (bF w)) (hC : Hid (Sl w Cs cs)) (hK : Hid (Sl w Ks ks)) (kF : Hid (Sl w pA oq)) (kz : Hid (Sl w pZ om)) :
  Calls Tryz.prog 126 #[gv P Q G, lM need Cs cn cc Ks kn kc, zK E1 E2 A na ca C Z nz cz, .string s, OW ix v pA jK qm pC pZ jJ ql] w (Rt w (.bool r)) := by
 have hr1 := hr.1
 unfold CV at hr1
 rw [hkn.out] at hr1
 cases h1 : tY P Q G need cs ks with
 | false =>
  obtain rfl : r = false := by rw [← hr1, h1]; rfl
  exact Ri P Q G need Cs cs cn cc Ks ks kn kc hcn hkn E1 E2 A na ca C Z nz cz ix v pA oq jK qm pC pZ om jJ ql eX hzn hna hnz s hs (aa h1) hQ w hv hd0 hC hK kF kz
 | true =>
  cases h2 : qo kn ix with
  | false =>
   obtain rfl : r = false := by rw [← hr1, h1, h2]; rfl
   exact Rh P Q G need Cs cs cn cc Ks ks kn kc hcn hkn E1 E2 A na ca C Z nz cz ix v pA oq jK qm pC pZ om jJ ql eX hzn hna hnz s hs (aa h1) (aa h2) hQ w hv hd0 hC hK kF kz
  | true =>
   obtain ⟨iU, n1, n2, n3, n4, n5, n6⟩ := jk h1 hcn.out hkn.out
   obtain ⟨j, hjk, rfl⟩ := yR h2
   obtain ⟨bK, oK, rfl⟩ := rC hK.out (by rw [hkn.out]; omega)
   rw [h1, h2, show ((j : Int) + 1 - 1).toNat = j by omega] at hr1
   exact Rf P Q G need Cs cs cn cc bK oK ks kn kc hcn hkn E1 E2 A na ca C Z nz cz j hjk n2 v pA oq jK qm pC pZ om jJ ql eX hzn hna hnz s hs (aa h1) (aa h2) _ (aa rfl) r ⟨by rw [← hr1]; rfl⟩ hQ w hv hd0 hC hK kF kz
theorem Oy (P Q G need : Int) (Cs : Option Addr) (cs : List Int) (cn cc : Nat) (Ks : Option Addr) (ks : List Int) (kn kc : Nat) (hcn : Hid (cs.length = cn)) (hkn : Hid (ks.length = kn)) (E1 E2 : Int) (A : Option Addr) (na ca : Nat) (C : Int) (Z : Option Addr) (nz cz : Nat) (ix : Int) (v : Int) (pA : Option Addr) (oq : List Int) (jK qm : Nat) (pC : Int) (pZ : Option Addr) (om : List Int) (jJ ql : Nat) (eX : Hid (oq.length = jK)) (hzn : Hid (om.length = jJ)) (hna : jK < 1000000) (hnz : jJ < 1000000) (s : ByteArray) (hs : s.size ≤ 1000) (ht : Hid (tY P Q G need cs ks = false)) (hQ : Q < 9223372036854775808) (w : World) (hC : Hid (Sl w Cs cs)) (hK : Hid (Sl w Ks ks)) (kF : Hid (Sl w pA oq)) (kz : Hid (Sl w pZ om)) :
  Calls Tryz.prog 130 #[gv P Q G, lM need Cs cn cc Ks kn kc, zK E1 E2 A na ca C Z nz cz, .string s, OW ix v pA jK qm pC pZ jJ ql] w (Rt w (.bool false)) := by
 obtain ⟨w0, HW, ai, kC⟩ := JX (bq P Q G) gq (rR need Cs cn cc Ks kn kc) gq (Ed E1 E2 A na ca C Z nz cz) J6 (NL ix v pA jK qm pC pZ jJ ql) sG w
 have nL := mkS ai hC
 have rU := mkS ai hK
 have Jt := mkS ai kF
 have Js := mkS ai kz
 have ah := bS w0
 clear hC hK kF kz
 go_in
 go_wp2_with fail
 rw [HW.out]
 have hO := kC
 refine jq [] ah (fun hHeld => ?_)
 refine aH 0 ?_
 refine aH 1 ?_
 refine bW 2 fun K hK => ?_
 go_simp
 refine (mh P Q G need Cs cs cn cc Ks ks kn kc hcn hkn false ht hQ _ (nL.out _ hHeld) (rU.out _ hHeld)).mono ?_
 rintro e wA ⟨rfl, bM⟩
 refine hK.out _ _ (bY hHeld bM) (fun hHeld => ?_)
 clear hK K
 refine aH 3 ?_
 refine aH 4 ?_
 refine dR 5 6 7 8 ?_
 refine jl 9 ?_
 refine aH 10 ?_
 refine aH 11 ?_
 refine dR 12 13 14 15 ?_
 refine dR 16 17 18 19 ?_
 refine dR 20 21 22 23 ?_
 refine dR 24 25 26 27 ?_
 refine aH 28 ?_
 refine gz ?_
 clear hO
 have bI := hHeld
 clear hHeld
 have zc := kC.out _ bI
 go_wp2
 go_ret
 exact ⟨rfl, fe ai bI⟩
theorem Ox (P Q G need : Int) (Cs : Option Addr) (cs : List Int) (cn cc : Nat) (Ks : Option Addr) (ks : List Int) (kn kc : Nat) (hcn : Hid (cs.length = cn)) (hkn : Hid (ks.length = kn)) (E1 E2 : Int) (A : Option Addr) (na ca : Nat) (C : Int) (Z : Option Addr) (nz cz : Nat) (ix : Int) (v : Int) (pA : Option Addr) (oq : List Int) (jK qm : Nat) (pC : Int) (pZ : Option Addr) (om : List Int) (jJ ql : Nat) (eX : Hid (oq.length = jK)) (hzn : Hid (om.length = jJ)) (hna : jK < 1000000) (hnz : jJ < 1000000) (s : ByteArray) (hs : s.size ≤ 1000) (ht : Hid (tY P Q G need cs ks = true)) (hm : Hid (qo kn ix = false)) (hQ : Q < 9223372036854775808) (w : World) (hC : Hid (Sl w Cs cs)) (hK : Hid (Sl w Ks ks)) (kF : Hid (Sl w pA oq)) (kz : Hid (Sl w pZ om)) :
  Calls Tryz.prog 130 #[gv P Q G, lM need Cs cn cc Ks kn kc, zK E1 E2 A na ca C Z nz cz, .string s, OW ix v pA jK qm pC pZ jJ ql] w (Rt w (.bool false)) := by
 obtain ⟨w0, HW, ai, kC⟩ := JX (bq P Q G) gq (rR need Cs cn cc Ks kn kc) gq (Ed E1 E2 A na ca C Z nz cz) J6 (NL ix v pA jK qm pC pZ jJ ql) sG w
 have nL := mkS ai hC
 have rU := mkS ai hK
 have Jt := mkS ai kF
 have Js := mkS ai kz
 have ah := bS w0
 clear hC hK kF kz
 go_in
 go_wp2_with fail
 rw [HW.out]
 have hO := kC
 refine jq [] ah (fun hHeld => ?_)
 refine aH 0 ?_
 refine aH 1 ?_
 refine bW 2 fun K hK => ?_
 go_simp
 refine (mh P Q G need Cs cs cn cc Ks ks kn kc hcn hkn true ht hQ _ (nL.out _ hHeld) (rU.out _ hHeld)).mono ?_
 rintro e wA ⟨rfl, bM⟩
 refine hK.out _ _ (bY hHeld bM) (fun hHeld => ?_)
 clear hK K
 refine aT 3 4 5 6 ?_
 refine aH 7 ?_
 refine bW 8 fun K hK => ?_
 go_simp
 refine (jm need Cs cn cc Ks kn kc ix false hm _).mono ?_
 rintro e wA ⟨rfl, bM⟩
 refine hK.out _ _ (bY hHeld bM) (fun hHeld => ?_)
 clear hK K
 refine aH 9 ?_
 refine aH 10 ?_
 refine aH 11 ?_
 refine dR 12 13 14 15 ?_
 refine dR 16 17 18 19 ?_
 refine dR 20 21 22 23 ?_
 refine dR 24 25 26 27 ?_
 refine aH 28 ?_
 refine gz ?_
 clear hO
 have bI := hHeld
 clear hHeld
 have zc := kC.out _ bI
 go_wp2
 go_ret
 exact ⟨rfl, fe ai bI⟩
theorem Ow (P Q G need : Int) (Cs : Option Addr) (cs : List Int) (cn cc : Nat) (bK oK : Nat) (ks : List Int) (kn kc : Nat) (hcn : Hid (cs.length = cn)) (hkn : Hid (ks.length = kn)) (E1 E2 : Int) (A : Option Addr) (na ca : Nat) (C : Int) (Z : Option Addr) (nz cz : Nat) (j : Nat) (hjk : j < kn) (hkb : kn ≤ 8) (v : Int) (pA : Option Addr) (oq : List Int) (jK qm : Nat) (pC : Int) (pZ : Option Addr) (om : List Int) (jJ ql : Nat) (eX : Hid (oq.length = jK)) (hzn : Hid (om.length = jJ)) (hna : jK < 1000000) (hnz : jJ < 1000000) (s : ByteArray) (hs : s.size ≤ 1000) (ht : Hid (tY P Q G need cs ks = true)) (hm : Hid (qo kn ((j : Int) + 1) = true)) (kj : Int) (Wi : Hid (ks.getD j 0 = kj)) (r : Int) (hr : Hid (jE P Q G [G, kj, E1, v] = r)) (hne : (r != 0) = true) (hQ : Q < 9223372036854775808) (w : World) (hC : Hid (Sl w Cs cs)) (hK : Hid (Sl w (some ⟨bK, oK, none⟩) ks)) (kF : Hid (Sl w pA oq)) (kz : Hid (Sl w pZ om)) :
  Calls Tryz.prog 130 #[gv P Q G, lM need Cs cn cc (some ⟨bK, oK, none⟩) kn kc, zK E1 E2 A na ca C Z nz cz, .string s, OW ((j : Int) + 1) v pA jK qm pC pZ jJ ql] w (Rt w (.bool false)) := by
 obtain ⟨dj, dj1, dj2, dj3, Z_⟩ := uR hjk hkb
 have hjl : j < ks.length := by rw [hkn.out]; exact hjk
 obtain ⟨w0, HW, ai, kC⟩ := JX (bq P Q G) gq (rR need Cs cn cc (some ⟨bK, oK, none⟩) kn kc) gq (Ed E1 E2 A na ca C Z nz cz) J6 (NL ((j : Int) + 1) v pA jK qm pC pZ jJ ql) sG w
 have nL := mkS ai hC
 have rU := mkS ai hK
 have Jt := mkS ai kF
 have Js := mkS ai kz
 have ah := bS w0
 clear hC hK kF kz
 have kI := aa (show ∀ u : World, Hid (Below w0.heap.size w0 u) → u.cell? ⟨bK, oK + j, none⟩ = some (.int .i64 kj) from fun u h => by
  obtain ⟨b9, o9, hA, hi⟩ := (rU.out u h).out j hjl
  cases hA
  rwa [Wi.out] at hi)
 go_in
 go_wp2_with fail
 rw [HW.out]
 have hO := aa (fun (u : World) (h : Hid (Below w0.heap.size w0 u)) => And.intro (kC.out u h) (kI.out u h))
 refine jq [] ah (fun hHeld => ?_)
 refine aH 0 ?_
 refine aH 1 ?_
 refine bW 2 fun K hK => ?_
 go_simp
 refine (mh P Q G need Cs cs cn cc (some ⟨bK, oK, none⟩) ks kn kc hcn hkn true ht hQ _ (nL.out _ hHeld) (rU.out _ hHeld)).mono ?_
 rintro e wA ⟨rfl, bM⟩
 refine hK.out _ _ (bY hHeld bM) (fun hHeld => ?_)
 clear hK K
 refine aT 3 4 5 6 ?_
 refine aH 7 ?_
 refine bW 8 fun K hK => ?_
 go_simp
 refine (jm need Cs cn cc (some ⟨bK, oK, none⟩) kn kc ((j : Int) + 1) true hm _).mono ?_
 rintro e wA ⟨rfl, bM⟩
 refine hK.out _ _ (bY hHeld bM) (fun hHeld => ?_)
 clear hK K
 refine aT 9 10 11 12 ?_
 refine aT 13 14 15 16 ?_
 refine aT 17 18 19 20 ?_
 refine aT 21 22 23 24 ?_
 refine aH 25 ?_
 refine bW 26 fun K hK => ?_
 go_simp
 refine (uw P Q G G kj E1 v r hr hQ _).mono ?_
 rintro e wA ⟨rfl, bM⟩
 refine hK.out _ _ (bY hHeld bM) (fun hHeld => ?_)
 clear hK K
 refine aH 27 ?_
 refine aH 28 ?_
 refine gz ?_
 clear hO
 have bI := hHeld
 clear hHeld
 have zc := kC.out _ bI
 have rZ := kI.out _ bI
 go_wp2
 go_ret
 exact ⟨rfl, fe ai bI⟩
theorem Ov (P Q G need : Int) (Cs : Option Addr) (cs : List Int) (cn cc : Nat) (bK oK : Nat) (ks : List Int) (kn kc : Nat) (hcn : Hid (cs.length = cn)) (hkn : Hid (ks.length = kn)) (E1 E2 : Int) (A : Option Addr) (na ca : Nat) (C : Int) (Z : Option Addr) (nz cz : Nat) (j : Nat) (hjk : j < kn) (hkb : kn ≤ 8) (v : Int) (pA : Option Addr) (oq : List Int) (jK qm : Nat) (pC : Int) (pZ : Option Addr) (om : List Int) (jJ ql : Nat) (eX : Hid (oq.length = jK)) (hzn : Hid (om.length = jJ)) (hna : jK < 1000000) (hnz : jJ < 1000000) (s : ByteArray) (hs : s.size ≤ 1000) (ht : Hid (tY P Q G need cs ks = true)) (hm : Hid (qo kn ((j : Int) + 1) = true)) (kj : Int) (Wi : Hid (ks.getD j 0 = kj)) (hr : Hid (jE P Q G [G, kj, E1, v] = 0)) (r : Bool) (HV : Kp (vD P Q G pC (aU s) [kj, v] (nM none none G E1) oq om = r)) (hQ : Q < 9223372036854775808) (w : World) (hC : Hid (Sl w Cs cs)) (hK : Hid (Sl w (some ⟨bK, oK, none⟩) ks)) (kF : Hid (Sl w pA oq)) (kz : Hid (Sl w pZ om)) :
  Calls Tryz.prog 130 #[gv P Q G, lM need Cs cn cc (some ⟨bK, oK, none⟩) kn kc, zK E1 E2 A na ca C Z nz cz, .string s, OW ((j : Int) + 1) v pA jK qm pC pZ jJ ql] w (Rt w (.bool r)) := by
 obtain ⟨dj, dj1, dj2, dj3, Z_⟩ := uR hjk hkb
 have hjl : j < ks.length := by rw [hkn.out]; exact hjk
 obtain ⟨w0, HW, ai, kC⟩ := JX (bq P Q G) gq (rR need Cs cn cc (some ⟨bK, oK, none⟩) kn kc) gq (Ed E1 E2 A na ca C Z nz cz) J6 (NL ((j : Int) + 1) v pA jK qm pC pZ jJ ql) sG w
 have nL := mkS ai hC
 have rU := mkS ai hK
 have Jt := mkS ai kF
 have Js := mkS ai kz
 have ah := bS w0
 clear hC hK kF kz
 have kI := aa (show ∀ u : World, Hid (Below w0.heap.size w0 u) → u.cell? ⟨bK, oK + j, none⟩ = some (.int .i64 kj) from fun u h => by
  obtain ⟨b9, o9, hA, hi⟩ := (rU.out u h).out j hjl
  cases hA
  rwa [Wi.out] at hi)
 go_in
 go_wp2_with fail
 rw [HW.out]
 have hO := aa (fun (u : World) (h : Hid (Below w0.heap.size w0 u)) => And.intro (kC.out u h) (kI.out u h))
 refine jq [] ah (fun hHeld => ?_)
 refine aH 0 ?_
 refine aH 1 ?_
 refine bW 2 fun K hK => ?_
 go_simp
 refine (mh P Q G need Cs cs cn cc (some ⟨bK, oK, none⟩) ks kn kc hcn hkn true ht hQ _ (nL.out _ hHeld) (rU.out _ hHeld)).mono ?_
 rintro e wA ⟨rfl, bM⟩
 refine hK.out _ _ (bY hHeld bM) (fun hHeld => ?_)
 clear hK K
 refine aT 3 4 5 6 ?_
 refine aH 7 ?_
 refine bW 8 fun K hK => ?_
 go_simp
 refine (jm need Cs cn cc (some ⟨bK, oK, none⟩) kn kc ((j : Int) + 1) true hm _).mono ?_
 rintro e wA ⟨rfl, bM⟩
 refine hK.out _ _ (bY hHeld bM) (fun hHeld => ?_)
 clear hK K
 refine aT 9 10 11 12 ?_
 refine aT 13 14 15 16 ?_
 refine aT 17 18 19 20 ?_
 refine aT 21 22 23 24 ?_
 refine aH 25 ?_
 refine bW 26 fun K hK => ?_
 go_simp
 refine (uw P Q G G kj E1 v 0 hr hQ _).mono ?_
 rintro e wA ⟨rfl, bM⟩
 refine hK.out _ _ (bY hHeld bM) (fun hHeld => ?_)
 clear hK K
 refine aH 27 ?_
 refine aH 28 ?_
 refine gz ?_
 clear hO
 have bI := hHeld
 clear hHeld
 have zc := kC.out _ bI
 have rZ := kI.out _ bI
 go_upto_region 3 with (fail)
 clear zc rZ
 have hO := aa (fun (u : World) (h : Hid (Below w0.heap.size w0 u)) => And.intro (kC.out u h) (kI.out u h))
 refine jq [] bI (fun hHeld => ?_)
 refine aT 0 1 2 3 ?_
 refine aT 4 5 6 7 ?_
 refine aT 8 9 10 11 ?_
 refine aT 12 13 15 16 ?_
 refine aH 17 ?_
 refine bW 14 fun K hK => ?_
 go_simp
 refine (yG G kj E1 v _).mono ?_
 intro e wB hR
 obtain ⟨Y, B, A1, B1, rfl, hY, hB, bM⟩ := hR
 refine hK.out _ _ (bY hHeld bM) (fun hHeld => ?_)
 clear hK K
 try simp only [qq]
 refine bW 18 fun K hK => ?_
 go_simp
 refine (KJ P Q G Y [kj, v] 2 2 B (nM A1 B1 G E1) 2 2 pA oq jK qm pC pZ om jJ ql (aa rfl) (aa rfl) eX hzn hna hnz hQ s hs r ⟨(z_ A1 B1).trans HV.1⟩ _ (aa hY) (aa hB) (Jt.out _ hHeld) (Js.out _ hHeld)).mono ?_
 rintro e wA ⟨rfl, bM⟩
 refine hK.out _ _ (bY hHeld bM) (fun hHeld => ?_)
 clear hK K
 refine aH 19 ?_
 refine gz ?_
 clear hO
 have GA := hHeld
 clear hHeld
 have zc := kC.out _ GA
 have rZ := kI.out _ GA
 go_wp2
 go_ret
 exact ⟨rfl, fe ai GA⟩
theorem IX (P Q G need : Int) (Cs : Option Addr) (cs : List Int) (cn cc : Nat) (Ks : Option Addr) (ks : List Int) (kn kc : Nat) (hcn : Hid (cs.length = cn)) (hkn : Hid (ks.length = kn)) (E1 E2 : Int) (A : Option Addr) (na ca : Nat) (C : Int) (Z : Option Addr) (nz cz : Nat) (ix : Int) (v : Int) (pA : Option Addr) (oq : List Int) (jK qm : Nat) (pC : Int) (pZ : Option Addr) (om : List Int) (jJ ql : Nat) (eX : Hid (oq.length = jK)) (hzn : Hid (om.length = jJ)) (hna : jK < 1000000) (hnz : jJ < 1000000) (s : ByteArray) (hs : s.size ≤ 1000) (r : Bool) (hr : Kp (CV P Q G need cs ks E1 ix v pC (aU s) oq om = r)) (hQ : Q < 9223372036854775808) (w : World) (hC : Hid (Sl w Cs cs)) (hK : Hid (Sl w Ks ks)) (kF : Hid (Sl w pA oq)) (kz : Hid (Sl w pZ om)) :
  Calls Tryz.prog 130 #[gv P Q G, lM need Cs cn cc Ks kn kc, zK E1 E2 A na ca C Z nz cz, .string s, OW ix v pA jK qm pC pZ jJ ql] w (Rt w (.bool r)) := by
 have hr1 := hr.1
 unfold CV at hr1
 rw [hkn.out] at hr1
 cases h1 : tY P Q G need cs ks with
 | false =>
  obtain rfl : r = false := by rw [← hr1, h1]; rfl
  exact Oy P Q G need Cs cs cn cc Ks ks kn kc hcn hkn E1 E2 A na ca C Z nz cz ix v pA oq jK qm pC pZ om jJ ql eX hzn hna hnz s hs (aa h1) hQ w hC hK kF kz
 | true =>
  cases h2 : qo kn ix with
  | false =>
   obtain rfl : r = false := by rw [← hr1, h1, h2]; rfl
   exact Ox P Q G need Cs cs cn cc Ks ks kn kc hcn hkn E1 E2 A na ca C Z nz cz ix v pA oq jK qm pC pZ om jJ ql eX hzn hna hnz s hs (aa h1) (aa h2) hQ w hC hK kF kz
  | true =>
   obtain ⟨iU, n1, n2, n3, n4, n5, n6⟩ := jk h1 hcn.out hkn.out
   obtain ⟨j, hjk, rfl⟩ := yR h2
   obtain ⟨bK, oK, rfl⟩ := rC hK.out (by rw [hkn.out]; omega)
   rw [h1, h2, show ((j : Int) + 1 - 1).toNat = j by omega] at hr1
   have hr2 : AA P Q G G (ks.getD j 0) E1 v pC (aU s) oq om = r := by rw [← hr1]; rfl
   obtain ⟨k, hk⟩ : ∃ k, jE P Q G [G, ks.getD j 0, E1, v] = k := ⟨_, rfl⟩
   rw [AA, hk] at hr2
   cases h0 : (k == 0) with
   | false =>
    obtain rfl : r = false := by rw [← hr2, h0]; rfl
    exact Ow P Q G need Cs cs cn cc bK oK ks kn kc hcn hkn E1 E2 A na ca C Z nz cz j hjk n2 v pA oq jK qm pC pZ om jJ ql eX hzn hna hnz s hs (aa h1) (aa h2) _ (aa rfl) k (aa hk) (by simpa using h0) hQ w hC hK kF kz
   | true =>
    obtain rfl : k = 0 := by simpa using h0
    exact Ov P Q G need Cs cs cn cc bK oK ks kn kc hcn hkn E1 E2 A na ca C Z nz cz j hjk n2 v pA oq jK qm pC pZ om jJ ql eX hzn hna hnz s hs (aa h1) (aa h2) _ (aa rfl) (aa hk) r ⟨by rw [← hr2]; simp⟩ hQ w hC hK kF kz
def Fh (P Q G need : Int) (cs ks : List Int) (h : List Int) (o : aJ) (p : a_) : Bool := tZ p.na p.nz && CV P Q G need cs ks o.E1 p.ix p.v p.C (aU (J2 h o)) p.al p.zs
theorem Ko (P Q G need : Int) (Cs : Option Addr) (cs : List Int) (cn cc : Nat) (Ks : Option Addr) (ks : List Int) (kn kc : Nat) (hcn : Hid (cs.length = cn)) (hkn : Hid (ks.length = kn)) (hQ : Q < 9223372036854775808) (bO fO : Nat) (os : List aJ) (n c : Nat) (K : Option Addr) (hs : List (List Int)) (m d i : Nat) (hn : Hid (os.length = n)) (hm : Hid (hs.length = m)) (hi : i < n) (him : i ≤ m) (hb1 : n ≤ 1000000) (hb2 : m ≤ 1000000) (h : List Int) (hh : Hid (lC hs i = h)) (hl : Hid (h.length = 32)) (hb : Hid (az h = true)) (o : aJ) (ho : Hid (iT os i = o)) (hI : Hid (gP o)) (hSo : lD o) (p : a_) (eX : Hid (p.al.length = p.na)) (hzn : Hid (p.zs.length = p.nz)) (hna : p.na < 1000000) (hnz : p.nz < 1000000) (hsh : Hid (tZ p.na p.nz = false)) (w : World) (hv : Hid (Vars w)) (hd0 : Hid (bF w)) (hC : Hid (Sl w Cs cs)) (hK : Hid (Sl w Ks ks)) (hO : Hid (Os w (some ⟨bO, fO, none⟩) os)) (hH : Hid (Hs w K hs)) (kF : Hid (Sl w p.A p.al)) (kz : Hid (Sl w p.Z p.zs)) :
  Calls Tryz.prog 74 #[gv P Q G, lM need Cs cn cc Ks kn kc, kN (some ⟨bO, fO, none⟩) n c K m d, .int .i64 (i : Int), G7 p] w (Rt w (.bool false)) := by
 obtain ⟨w0, HW, ai, kC⟩ := JX (bq P Q G) gq (.cells #[.int .i64 need, .slice Cs cn cc, .slice Ks kn kc] 26) gq (qj (some ⟨bO, fO, none⟩) n c K m d) wI (uf p) sG w
 have kO := gV (fun u => Os u (some ⟨bO, fO, none⟩) os) ai hO (·.below)
 have kH := gV (fun u => Hs u K hs) ai hH (·.below)
 have kD := r_ ai hd0
 have tF := mkS ai hC
 have tC := mkS ai hK
 have kA1 := mkS ai kF
 have O9 := mkS ai kz
 have kV := mkV ai hv
 have ah := bS w0
 clear hO hH hd0 hC hK kF kz hv
 obtain ⟨bX, fX, hX, d_, hok⟩ := ((kO.out _ ah)).out i (by rw [hn.out]; exact hi)
 cases hX
 rw [show os.getD i iF = o from ho.out] at d_
 have Ur := aa d_
 clear d_ hok
 have LV := aa (show ∀ u : World, Hid (Below w0.heap.size w0 u) → u.cell? ⟨bO, fO + i * 9 + 2, none⟩ = some (.int .i64 o.E1) ∧ u.cell? ⟨bO, fO + i * 9 + 3, none⟩ = some (.int .i64 o.E2) ∧ u.cell? ⟨bO, fO + i * 9 + 4, none⟩ = some (.slice o.A o.na o.ca) ∧ u.cell? ⟨bO, fO + i * 9 + 5, none⟩ = some (.int .i64 o.C) ∧ u.cell? ⟨bO, fO + i * 9 + 6, none⟩ = some (.slice o.Z o.nz o.cz) from fun u h9 => by have h8 := Ur.out.below h9.out; exact ⟨h8.2.2.1, h8.2.2.2.1, h8.2.2.2.2.1, h8.2.2.2.2.2.1, h8.2.2.2.2.2.2.1⟩)
 go_in
 go_upto_region 1 with (fail)
 rw [HW.out]
 have hO := aa (fun (u : World) (h : Hid (Below w0.heap.size w0 u)) => And.intro (kC.out u h) (LV.out u h))
 refine jq [] ah (fun hHeld => ?_)
 refine aH 0 ?_
 refine aH 1 ?_
 refine bW 2 fun K hK => ?_
 go_simp
 refine (fK p.A p.na p.ca p.C p.Z p.nz p.cz false hsh _).mono ?_
 rintro e wA ⟨rfl, bM⟩
 refine hK.out _ _ (bY hHeld bM) (fun hHeld => ?_)
 clear hK K
 refine aH 3 ?_
 refine dR 4 5 6 7 ?_
 refine dR 8 9 10 11 ?_
 refine dR 12 13 14 15 ?_
 refine jl 16 ?_
 refine aH 17 ?_
 refine aH 18 ?_
 refine gz ?_
 clear hO
 have bI := hHeld
 clear hHeld
 have zc := kC.out _ bI
 have Ra := LV.out _ bI
 go_wp2
 go_ret
 exact ⟨rfl, fe ai bI⟩
theorem Kn (P Q G need : Int) (Cs : Option Addr) (cs : List Int) (cn cc : Nat) (Ks : Option Addr) (ks : List Int) (kn kc : Nat) (hcn : Hid (cs.length = cn)) (hkn : Hid (ks.length = kn)) (hQ : Q < 9223372036854775808) (bO fO : Nat) (os : List aJ) (n c : Nat) (K : Option Addr) (hs : List (List Int)) (m d i : Nat) (hn : Hid (os.length = n)) (hm : Hid (hs.length = m)) (hi : i < n) (him : i ≤ m) (hb1 : n ≤ 1000000) (hb2 : m ≤ 1000000) (h : List Int) (hh : Hid (lC hs i = h)) (hl : Hid (h.length = 32)) (hb : Hid (az h = true)) (o : aJ) (ho : Hid (iT os i = o)) (hI : Hid (gP o)) (hSo : lD o) (p : a_) (eX : Hid (p.al.length = p.na)) (hzn : Hid (p.zs.length = p.nz)) (hna : p.na < 1000000) (hnz : p.nz < 1000000) (hsh : Hid (tZ p.na p.nz = true)) (r : Bool) (hr : Kp (CV P Q G need cs ks o.E1 p.ix p.v p.C (aU (J2 h o)) p.al p.zs = r)) (w : World) (hv : Hid (Vars w)) (hd0 : Hid (bF w)) (hC : Hid (Sl w Cs cs)) (hK : Hid (Sl w Ks ks)) (hO : Hid (Os w (some ⟨bO, fO, none⟩) os)) (hH : Hid (Hs w K hs)) (kF : Hid (Sl w p.A p.al)) (kz : Hid (Sl w p.Z p.zs)) :
  Calls Tryz.prog 74 #[gv P Q G, lM need Cs cn cc Ks kn kc, kN (some ⟨bO, fO, none⟩) n c K m d, .int .i64 (i : Int), G7 p] w (Rt w (.bool r)) := by
 obtain ⟨w0, HW, ai, kC⟩ := JX (bq P Q G) gq (.cells #[.int .i64 need, .slice Cs cn cc, .slice Ks kn kc] 26) gq (qj (some ⟨bO, fO, none⟩) n c K m d) wI (uf p) sG w
 have kO := gV (fun u => Os u (some ⟨bO, fO, none⟩) os) ai hO (·.below)
 have kH := gV (fun u => Hs u K hs) ai hH (·.below)
 have kD := r_ ai hd0
 have tF := mkS ai hC
 have tC := mkS ai hK
 have kA1 := mkS ai kF
 have O9 := mkS ai kz
 have kV := mkV ai hv
 have ah := bS w0
 clear hO hH hd0 hC hK kF kz hv
 obtain ⟨bX, fX, hX, d_, hok⟩ := ((kO.out _ ah)).out i (by rw [hn.out]; exact hi)
 cases hX
 rw [show os.getD i iF = o from ho.out] at d_
 have Ur := aa d_
 clear d_ hok
 have LV := aa (show ∀ u : World, Hid (Below w0.heap.size w0 u) → u.cell? ⟨bO, fO + i * 9 + 2, none⟩ = some (.int .i64 o.E1) ∧ u.cell? ⟨bO, fO + i * 9 + 3, none⟩ = some (.int .i64 o.E2) ∧ u.cell? ⟨bO, fO + i * 9 + 4, none⟩ = some (.slice o.A o.na o.ca) ∧ u.cell? ⟨bO, fO + i * 9 + 5, none⟩ = some (.int .i64 o.C) ∧ u.cell? ⟨bO, fO + i * 9 + 6, none⟩ = some (.slice o.Z o.nz o.cz) from fun u h9 => by have h8 := Ur.out.below h9.out; exact ⟨h8.2.2.1, h8.2.2.2.1, h8.2.2.2.2.1, h8.2.2.2.2.2.1, h8.2.2.2.2.2.2.1⟩)
 go_in
 go_upto_region 1 with (fail)
 rw [HW.out]
 have hO := aa (fun (u : World) (h : Hid (Below w0.heap.size w0 u)) => And.intro (kC.out u h) (LV.out u h))
 refine jq [] ah (fun hHeld => ?_)
 refine aH 0 ?_
 refine aH 1 ?_
 refine bW 2 fun K hK => ?_
 go_simp
 refine (fK p.A p.na p.ca p.C p.Z p.nz p.cz true hsh _).mono ?_
 rintro e wA ⟨rfl, bM⟩
 refine hK.out _ _ (bY hHeld bM) (fun hHeld => ?_)
 clear hK K
 refine aT 3 4 5 6 ?_
 refine aT 7 8 9 10 ?_
 refine aT 11 12 13 15 ?_
 refine bW 14 fun K hK => ?_
 go_simp
 refine (Jr bO fO os n c _ hs m d i hn hm hi him hb1 hb2 h hh hl hb o ho hI hSo _ (kD.out _ hHeld) (kO.out _ hHeld) (kH.out _ hHeld)).mono ?_
 rintro e wA ⟨rfl, bM⟩
 refine hK.out _ _ (bY hHeld bM) (fun hHeld => ?_)
 clear hK K
 try simp only [qq]
 refine bW 16 fun K hK => ?_
 go_simp
 refine (Km P Q G need Cs cs cn cc Ks ks kn kc hcn hkn o.E1 o.E2 o.A o.na o.ca o.C o.Z o.nz o.cz p.ix p.v p.A p.al p.na p.ca p.C p.Z p.zs p.nz p.cz eX hzn hna hnz (J2 h o) (DI h o) r hr hQ _ (kV.out _ hHeld) (kD.out _ hHeld) (tF.out _ hHeld) (tC.out _ hHeld) (kA1.out _ hHeld) (O9.out _ hHeld)).mono ?_
 rintro e wA ⟨rfl, bM⟩
 refine hK.out _ _ (bY hHeld bM) (fun hHeld => ?_)
 clear hK K
 refine aH 17 ?_
 refine aH 18 ?_
 refine gz ?_
 clear hO
 have bI := hHeld
 clear hHeld
 have zc := kC.out _ bI
 have Ra := LV.out _ bI
 go_wp2
 go_ret
 exact ⟨rfl, fe ai bI⟩
theorem K3 (P Q G need : Int) (Cs : Option Addr) (cs : List Int) (cn cc : Nat) (Ks : Option Addr) (ks : List Int) (kn kc : Nat) (hcn : Hid (cs.length = cn)) (hkn : Hid (ks.length = kn)) (hQ : Q < 9223372036854775808) (bO fO : Nat) (os : List aJ) (n c : Nat) (K : Option Addr) (hs : List (List Int)) (m d i : Nat) (hn : Hid (os.length = n)) (hm : Hid (hs.length = m)) (hi : i < n) (him : i ≤ m) (hb1 : n ≤ 1000000) (hb2 : m ≤ 1000000) (h : List Int) (hh : Hid (lC hs i = h)) (hl : Hid (h.length = 32)) (hb : Hid (az h = true)) (o : aJ) (ho : Hid (iT os i = o)) (hI : Hid (gP o)) (hSo : lD o) (p : a_) (eX : Hid (p.al.length = p.na)) (hzn : Hid (p.zs.length = p.nz)) (hna : p.na < 1000000) (hnz : p.nz < 1000000) (hsh : Hid (tZ p.na p.nz = false)) (w : World) (hv : Hid (Vars w)) (hd0 : Hid (bF w)) (hC : Hid (Sl w Cs cs)) (hK : Hid (Sl w Ks ks)) (hO : Hid (Os w (some ⟨bO, fO, none⟩) os)) (hH : Hid (Hs w K hs)) (kF : Hid (Sl w p.A p.al)) (kz : Hid (Sl w p.Z p.zs)) :
  Calls Tryz.prog 79 #[gv P Q G, lM need Cs cn cc Ks kn kc, kN (some ⟨bO, fO, none⟩) n c K m d, .int .i64 (i : Int), G7 p] w (Rt w (.bool false)) := by
 obtain ⟨w0, HW, ai, kC⟩ := JX (bq P Q G) gq (.cells #[.int .i64 need, .slice Cs cn cc, .slice Ks kn kc] 26) gq (qj (some ⟨bO, fO, none⟩) n c K m d) wI (uf p) sG w
 have kO := gV (fun u => Os u (some ⟨bO, fO, none⟩) os) ai hO (·.below)
 have kH := gV (fun u => Hs u K hs) ai hH (·.below)
 have kD := r_ ai hd0
 have tF := mkS ai hC
 have tC := mkS ai hK
 have kA1 := mkS ai kF
 have O9 := mkS ai kz
 have ah := bS w0
 clear hO hH hd0 hC hK kF kz hv
 obtain ⟨bX, fX, hX, d_, hok⟩ := ((kO.out _ ah)).out i (by rw [hn.out]; exact hi)
 cases hX
 rw [show os.getD i iF = o from ho.out] at d_
 have Ur := aa d_
 clear d_ hok
 have LV := aa (show ∀ u : World, Hid (Below w0.heap.size w0 u) → u.cell? ⟨bO, fO + i * 9 + 2, none⟩ = some (.int .i64 o.E1) ∧ u.cell? ⟨bO, fO + i * 9 + 3, none⟩ = some (.int .i64 o.E2) ∧ u.cell? ⟨bO, fO + i * 9 + 4, none⟩ = some (.slice o.A o.na o.ca) ∧ u.cell? ⟨bO, fO + i * 9 + 5, none⟩ = some (.int .i64 o.C) ∧ u.cell? ⟨bO, fO + i * 9 + 6, none⟩ = some (.slice o.Z o.nz o.cz) from fun u h9 => by have h8 := Ur.out.below h9.out; exact ⟨h8.2.2.1, h8.2.2.2.1, h8.2.2.2.2.1, h8.2.2.2.2.2.1, h8.2.2.2.2.2.2.1⟩)
 go_in
 go_upto_region 1 with (fail)
 rw [HW.out]
 have hO := aa (fun (u : World) (h : Hid (Below w0.heap.size w0 u)) => And.intro (kC.out u h) (LV.out u h))
 refine jq [] ah (fun hHeld => ?_)
 refine aH 0 ?_
 refine aH 1 ?_
 refine bW 2 fun K hK => ?_
 go_simp
 refine (iD p.A p.na p.ca p.C p.Z p.nz p.cz false hsh _).mono ?_
 rintro e wA ⟨rfl, bM⟩
 refine hK.out _ _ (bY hHeld bM) (fun hHeld => ?_)
 clear hK K
 refine aH 3 ?_
 refine dR 4 5 6 7 ?_
 refine dR 8 9 10 11 ?_
 refine dR 12 13 14 15 ?_
 refine jl 16 ?_
 refine aH 17 ?_
 refine aH 18 ?_
 refine gz ?_
 clear hO
 have bI := hHeld
 clear hHeld
 have zc := kC.out _ bI
 have Ra := LV.out _ bI
 go_wp2
 go_ret
 exact ⟨rfl, fe ai bI⟩
theorem KZ (P Q G need : Int) (Cs : Option Addr) (cs : List Int) (cn cc : Nat) (Ks : Option Addr) (ks : List Int) (kn kc : Nat) (hcn : Hid (cs.length = cn)) (hkn : Hid (ks.length = kn)) (hQ : Q < 9223372036854775808) (bO fO : Nat) (os : List aJ) (n c : Nat) (K : Option Addr) (hs : List (List Int)) (m d i : Nat) (hn : Hid (os.length = n)) (hm : Hid (hs.length = m)) (hi : i < n) (him : i ≤ m) (hb1 : n ≤ 1000000) (hb2 : m ≤ 1000000) (h : List Int) (hh : Hid (lC hs i = h)) (hl : Hid (h.length = 32)) (hb : Hid (az h = true)) (o : aJ) (ho : Hid (iT os i = o)) (hI : Hid (gP o)) (hSo : lD o) (p : a_) (eX : Hid (p.al.length = p.na)) (hzn : Hid (p.zs.length = p.nz)) (hna : p.na < 1000000) (hnz : p.nz < 1000000) (hsh : Hid (tZ p.na p.nz = true)) (r : Bool) (hr : Kp (CV P Q G need cs ks o.E1 p.ix p.v p.C (aU (J2 h o)) p.al p.zs = r)) (w : World) (hv : Hid (Vars w)) (hd0 : Hid (bF w)) (hC : Hid (Sl w Cs cs)) (hK : Hid (Sl w Ks ks)) (hO : Hid (Os w (some ⟨bO, fO, none⟩) os)) (hH : Hid (Hs w K hs)) (kF : Hid (Sl w p.A p.al)) (kz : Hid (Sl w p.Z p.zs)) :
  Calls Tryz.prog 79 #[gv P Q G, lM need Cs cn cc Ks kn kc, kN (some ⟨bO, fO, none⟩) n c K m d, .int .i64 (i : Int), G7 p] w (Rt w (.bool r)) := by
 obtain ⟨w0, HW, ai, kC⟩ := JX (bq P Q G) gq (.cells #[.int .i64 need, .slice Cs cn cc, .slice Ks kn kc] 26) gq (qj (some ⟨bO, fO, none⟩) n c K m d) wI (uf p) sG w
 have kO := gV (fun u => Os u (some ⟨bO, fO, none⟩) os) ai hO (·.below)
 have kH := gV (fun u => Hs u K hs) ai hH (·.below)
 have kD := r_ ai hd0
 have tF := mkS ai hC
 have tC := mkS ai hK
 have kA1 := mkS ai kF
 have O9 := mkS ai kz
 have ah := bS w0
 clear hO hH hd0 hC hK kF kz hv
 obtain ⟨bX, fX, hX, d_, hok⟩ := ((kO.out _ ah)).out i (by rw [hn.out]; exact hi)
 cases hX
 rw [show os.getD i iF = o from ho.out] at d_
 have Ur := aa d_
 clear d_ hok
 have LV := aa (show ∀ u : World, Hid (Below w0.heap.size w0 u) → u.cell? ⟨bO, fO + i * 9 + 2, none⟩ = some (.int .i64 o.E1) ∧ u.cell? ⟨bO, fO + i * 9 + 3, none⟩ = some (.int .i64 o.E2) ∧ u.cell? ⟨bO, fO + i * 9 + 4, none⟩ = some (.slice o.A o.na o.ca) ∧ u.cell? ⟨bO, fO + i * 9 + 5, none⟩ = some (.int .i64 o.C) ∧ u.cell? ⟨bO, fO + i * 9 + 6, none⟩ = some (.slice o.Z o.nz o.cz) from fun u h9 => by have h8 := Ur.out.below h9.out; exact ⟨h8.2.2.1, h8.2.2.2.1, h8.2.2.2.2.1, h8.2.2.2.2.2.1, h8.2.2.2.2.2.2.1⟩)
 go_in
 go_upto_region 1 with (fail)
 rw [HW.out]
 have hO := aa (fun (u : World) (h : Hid (Below w0.heap.size w0 u)) => And.intro (kC.out u h) (LV.out u h))
 refine jq [] ah (fun hHeld => ?_)
 refine aH 0 ?_
 refine aH 1 ?_
 refine bW 2 fun K hK => ?_
 go_simp
 refine (iD p.A p.na p.ca p.C p.Z p.nz p.cz true hsh _).mono ?_
 rintro e wA ⟨rfl, bM⟩
 refine hK.out _ _ (bY hHeld bM) (fun hHeld => ?_)
 clear hK K
 refine aT 3 4 5 6 ?_
 refine aT 7 8 9 10 ?_
 refine aT 11 12 13 15 ?_
 refine bW 14 fun K hK => ?_
 go_simp
 refine (Bi bO fO os n c _ hs m d i hn hm hi him hb1 hb2 h hh hl hb o ho hI hSo _ (kD.out _ hHeld) (kO.out _ hHeld) (kH.out _ hHeld)).mono ?_
 rintro e wA ⟨rfl, bM⟩
 refine hK.out _ _ (bY hHeld bM) (fun hHeld => ?_)
 clear hK K
 try simp only [qq]
 refine bW 16 fun K hK => ?_
 go_simp
 refine (IX P Q G need Cs cs cn cc Ks ks kn kc hcn hkn o.E1 o.E2 o.A o.na o.ca o.C o.Z o.nz o.cz p.ix p.v p.A p.al p.na p.ca p.C p.Z p.zs p.nz p.cz eX hzn hna hnz (J2 h o) (DI h o) r hr hQ _ (tF.out _ hHeld) (tC.out _ hHeld) (kA1.out _ hHeld) (O9.out _ hHeld)).mono ?_
 rintro e wA ⟨rfl, bM⟩
 refine hK.out _ _ (bY hHeld bM) (fun hHeld => ?_)
 clear hK K
 refine aH 17 ?_
 refine aH 18 ?_
 refine gz ?_
 clear hO
 have bI := hHeld
 clear hHeld
 have zc := kC.out _ bI
 have Ra := LV.out _ bI
 go_wp2
 go_ret
 exact ⟨rfl, fe ai bI⟩
def mW (g : Nat → Bool) : Nat → Bool
 | 0 => true
 | k + 1 => mW g k && g k
theorem jA {g : Nat → Bool} {k : Nat} (h : g k = false) : ∀ {n : Nat}, k < n → mW g n = false
 | 0, hk => absurd hk (by omega)
 | n + 1, hk => by
  by_cases e : k = n
  · subst e; rw [mW, h, Bool.and_false]
  · rw [mW, jA h (by omega), Bool.false_and]
theorem Pm (a4 a5 a6 a7 : Nat) (L : Option Addr) (ps : List a_) (n c : Nat) (hn : Hid (ps.length = n)) (hbig : n < 1000000) (g : Nat → Bool) (w : World) (hs : Hid (Pa w L ps)) (hf : Hid (∀ k, k < n → ∀ u : World, Hid (Below w.heap.size w u) → Calls Tryz.prog 137 #[G7 (ps.getD k aF), .pointer (some ⟨a4, 0, none⟩), .pointer (some ⟨a5, 0, none⟩), .pointer (some ⟨a6, 0, none⟩), .pointer (some ⟨a7, 0, none⟩)] u fun e w' => e = .returned (.bool (!(g k))) ∧ Below u.heap.size u w')) :
  Calls Tryz.prog 124 #[.slice L n c, .func (.func 137) #[] #[.pointer (some ⟨a4, 0, none⟩), .pointer (some ⟨a5, 0, none⟩), .pointer (some ⟨a6, 0, none⟩), .pointer (some ⟨a7, 0, none⟩)]] w fun e w' => ∃ i : Int, e = .returned (.int .i64 i) ∧ ((i = -1 ∧ mW g n = true) ∨ (0 ≤ i ∧ mW g n = false)) ∧ Below w.heap.size w w' := by
 go_in
 go_wp2
 go_loopw [8] (fun i wr => ∃ k : Nat, k ≤ n ∧ i = .int .i64 k ∧ Hid (mW g k = true) ∧ Hid (Below w.heap.size w wr)) (fun i _ => n - (intOf i).toNat)
 case atStart => exact ⟨0, by omega, rfl, aa rfl, aa (Below.refl _ _)⟩
 case round =>
  obtain ⟨k, hk, rfl, HR, au⟩ := hrel
  by_cases hlt : k < n
  ·
   have hkl : k < ps.length := by rw [hn.out]; exact hlt
   obtain ⟨b, o, hA, i0, i1, i2, i3, i4, i5⟩ := (hs.out.below au.out) k hkl
   subst hA
   clear i5
   have HC := aa (hf.out k hlt wr au)
   obtain ⟨p, hp⟩ : ∃ p, ps.getD k aF = p := ⟨_, rfl⟩
   rw [hp] at i0 i1 i2 i3 i4 HC
   clear hp hkl
   cases hg : g k with
   | true =>
    rw [hg] at HC
    have HN : Hid (mW g (k + 1) = true) := aa (by rw [mW, HR.out, hg]; rfl)
    clear hg
    go_wp2_with fail
    refine HC.out.mono ?_
    rintro e w2 ⟨rfl, hb0⟩
    have HB2 := aa (ag au.out hb0)
    clear hb0 au i0 i1 i2 i3 i4 HC
    go_wp2
    go_roundw
    case rel => exact ⟨k + 1, by omega, by go_num, HN, HB2⟩
    case measure => simp [intOf]; omega
   | false =>
    rw [hg] at HC
    have HN : Hid (mW g n = false) := aa (jA hg hlt)
    clear hg
    go_wp2_with fail
    refine HC.out.mono ?_
    rintro e w2 ⟨rfl, hb0⟩
    have HB2 := aa (ag au.out hb0)
    clear hb0 au i0 i1 i2 i3 i4 HC
    go_wp2
    go_ret
    exact ⟨_, rfl, .inr ⟨by omega, HN.out⟩, HB2.out⟩
  ·
   obtain rfl : k = n := by omega
   go_wp2
   go_ret
   exact ⟨_, rfl, .inl ⟨rfl, HR.out⟩, au.out⟩
theorem TE (a4 a5 a6 a7 : Nat) (L : Option Addr) (ps : List a_) (n c : Nat) (hn : Hid (ps.length = n)) (hbig : n < 1000000) (g : Nat → Bool) (w : World) (hs : Hid (Pa w L ps)) (hf : Hid (∀ k, k < n → ∀ u : World, Hid (Below w.heap.size w u) → Calls Tryz.prog 137 #[G7 (ps.getD k aF), .pointer (some ⟨a4, 0, none⟩), .pointer (some ⟨a5, 0, none⟩), .pointer (some ⟨a6, 0, none⟩), .pointer (some ⟨a7, 0, none⟩)] u fun e w' => e = .returned (.bool (!(g k))) ∧ Below u.heap.size u w')) :
  Calls Tryz.prog 70 #[.slice L n c, .func (.func 137) #[] #[.pointer (some ⟨a4, 0, none⟩), .pointer (some ⟨a5, 0, none⟩), .pointer (some ⟨a6, 0, none⟩), .pointer (some ⟨a7, 0, none⟩)]] w (Rt w (.bool (!(mW g n)))) := by
 go_in
 go_wp2_with fail
 refine (Pm a4 a5 a6 a7 L ps n c hn hbig g _ hs hf).mono ?_
 rintro e w1 ⟨i, rfl, hi, hb1⟩
 rcases hi with ⟨rfl, hq⟩ | ⟨hi, hq⟩
 ·
  go_wp2
  go_ret
  exact ⟨by rw [hq]; rfl, hb1⟩
 ·
  have d0 : decide ((0 : Int) ≤ i) = true := by simp; omega
  go_wp2
  go_ret
  exact ⟨by rw [hq]; rfl, hb1⟩
end Go.Proofs.YtchcllcbknfikaaGreatDoor