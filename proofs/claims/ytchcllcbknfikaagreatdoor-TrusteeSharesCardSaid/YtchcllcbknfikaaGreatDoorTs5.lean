/- Contracts and lemmas: Rpo, Tsh. -/
import Derived.Test.YtchcllcbknfikaaGreatDoorTs4
set_option linter.unusedVariables false
set_option linter.unusedSimpArgs false
set_option maxRecDepth 100000
set_option maxHeartbeats 25600000
namespace Go.Proofs.YtchcllcbknfikaaGreatDoor
open Go.RowKit jK
def nk (D : List (Int × Int)) (ix v : Int) : Bool := match valOf D ix with | some z => z == v | none => true
theorem qp (D : List (Int × Int)) (t : Nat) (ht : t < D.length) (a : Int) : valOf (D.take (t + 1)) a = (match valOf (D.take t) a with | some v => some v | none => if (gz D t).1 = a then some (gz D t).2 else none) := by
 rw [List.take_add_one, List.getElem?_eq_getElem ht, Option.toList_some, mh, gz, List.getD_eq_getElem?_getD, List.getElem?_eq_getElem ht]; rfl
theorem tK {l : List (Int × Int)} {k : Nat} {ix v : Int} (h : gz l k = (ix, v)) : bP l (k + 1) = (bP l k && nk (pts l k) ix v) := by
 rw [bP, h]; rfl
theorem si (Q : Int) (D : List (Int × Int)) (m : Nat) : ∀ j, j ≤ m → gq Q D m j = true
 | 0, _ => rfl
 | j + 1, h => by rw [gq, si Q D m j (by omega), decide_eq_true (show j < m by omega)]; rfl
theorem jO {l : List (Int × Int)} {k t : Nat} (ht : t < (pts l k).length) : valOf ((pts l k).take t) (gz (pts l k) t).1 = none := by
 cases h : valOf ((pts l k).take t) (gz (pts l k) t).1 with
 | none => rfl
 | some z =>
  obtain ⟨j, hj, h1, _⟩ := qw h
  rw [List.length_take] at hj
  have e : gz ((pts l k).take t) j = gz (pts l k) j := by rw [gz, gz, List.getD_eq_getElem?_getD, List.getElem?_take_of_lt (by omega), ← List.getD_eq_getElem?_getD]
  rw [e] at h1
  exact absurd h1.symm (nG l k t j ht (by omega))
theorem sS (P Q G : Int) (m : Nat) (Cs : Option Addr) (cs : List Int) (cn cc : Nat) (Ks : Option Addr) (ks : List Int) (kn kc : Nat) (hcn : Hid (cs.length = cn)) (hkn : Hid (ks.length = kn)) (A : Option Addr) (l : List (Int × Int)) (n c : Nat) (hn : Hid (l.length = n)) (hnb : n ≤ 100) (hr : Hid (ou P Q G (m : Int) cs ks = true)) (hQ : Q < 9223372036854775808) (w : World) (hA : Hid (Sh w A l)) :
  Calls Tryz.prog 17 #[gv P Q G, fA (m : Int) Cs cn cc Ks kn kc, .slice A n c] w (Rt w (.tuple #[.int .i64 (jk Q m kn l), .int .i64 (jl Q m kn l)])) := by
 obtain ⟨i0, hi, hz0, hz1, hz2⟩ := info_parts fJ
 obtain ⟨bf, n1, n2, n3, n4, n5, n6⟩ := bV hr.out hcn.out hkn.out
 obtain ⟨w0, HW, az, kC⟩ := st2 (aG P Q G) gy (fB (m : Int) Cs cn cc Ks kn kc) lW w
 have kA := xV (fun u => Sh u A l) az hA (·.below)
 have ai := bI w0
 obtain ⟨q1, q2, q3, q4⟩ := aB bf.out
 clear hA
 go_in
 go_upto_region 1 with (fail)
 rw [HW.out]
 have zc := kC.out _ ai
 go_wp2
 clear zc
 go_loopw [11] (fun i wr => ∃ k : Nat, k ≤ n ∧ i = .int .i64 k ∧ Hid (l.all (bG Q kn) = (l.drop k).all (bG Q kn)) ∧ Hid (Below w0.heap.size w0 wr)) (fun i _ => n - (intOf i).toNat)
 case atStart => exact ⟨0, by omega, rfl, aa rfl, ai⟩
 case round =>
  obtain ⟨k, hk, rfl, HR, ax⟩ := hrel
  have jd := bI wr
  by_cases hlt : k < n
  ·
   have hkl : k < l.length := by rw [hn.out]; exact hlt
   obtain ⟨b, o, wH, fZ, f_⟩ := (kA.out _ ax).out k hkl
   subst wH
   obtain ⟨px, hpx⟩ : ∃ x, l.getD k (0, 0) = x := ⟨_, rfl⟩
   obtain ⟨ix, v⟩ := px
   rw [hpx] at fZ f_
   dsimp only at fZ f_
   have hO := aa (fun (u : World) (h : Hid (Below w0.heap.size w0 u ∧ Below wr.heap.size wr u)) => And.intro (kC.out u (aa h.out.1)) (And.intro (cell_below fZ h.out.2) (cell_below f_ h.out.2)))
   have zc := kC.out _ ax
   cases hmb : dU kn ix with
   | false =>
    have HF : Hid (l.all (bG Q kn) = false) := aa (HR.out.trans (fo hkl (by rw [hpx]; simp [bG, hmb])))
    have zW := aa hmb
    clear hmb HR hpx
    go_upto_region 6 with (fail)
    clear zc
    refine mG (fun u => Below w0.heap.size w0 u ∧ Below wr.heap.size wr u) [] (bb2 (aa ⟨ax.out, jd.out⟩) ((Below.refl _ _).drew)) (fun hHeld => ?_)
    refine aK 0 1 2 3 ?_
    refine aM 4 ?_
    refine aM 5 ?_
    refine eX 6 fun K hK => ?_
    go_simp
    refine (bF (m : Int) Cs cn cc Ks kn kc ix false zW _).mono ?_
    rintro e wA ⟨rfl, dL⟩
    refine hK.out _ _ (bb2 hHeld dL) (fun hHeld => ?_)
    clear hK K
    try simp only [qq]
    refine aM 7 ?_
    refine aM 8 ?_
    refine ko 9 10 11 12 ?_
    refine ko 13 14 15 16 ?_
    refine aM 17 ?_
    refine jD ?_
    clear hO
    have bT := (aa hHeld.out.1)
    clear hHeld
    have zc := kC.out _ bT
    have dD := af az.out bT.out
    go_wp2
    go_ret2
    obtain ⟨e1, e2⟩ := jY (m := m) HF.out
    exact ⟨by rw [e1, e2]; rfl, dD⟩
   | true =>
    have zW := aa hmb
    cases hsc : aQ Q v with
    | false =>
     have HF : Hid (l.all (bG Q kn) = false) := aa (HR.out.trans (fo hkl (by rw [hpx]; simp [bG, hsc])))
     have B_ := aa hsc
     clear hmb hsc HR hpx
     go_upto_region 6 with (fail)
     clear zc
     refine mG (fun u => Below w0.heap.size w0 u ∧ Below wr.heap.size wr u) [] (bb2 (aa ⟨ax.out, jd.out⟩) ((Below.refl _ _).drew)) (fun hHeld => ?_)
     refine aK 0 1 2 3 ?_
     refine aM 4 ?_
     refine aM 5 ?_
     refine eX 6 fun K hK => ?_
     go_simp
     refine (bF (m : Int) Cs cn cc Ks kn kc ix true zW _).mono ?_
     rintro e wA ⟨rfl, dL⟩
     refine hK.out _ _ (bb2 hHeld dL) (fun hHeld => ?_)
     clear hK K
     try simp only [qq]
     refine aK 7 8 9 10 ?_
     refine aK 11 12 13 14 ?_
     refine eX 15 fun K hK => ?_
     go_simp
     refine (dK P Q G v false B_ _).mono ?_
     rintro e wA ⟨rfl, dL⟩
     refine hK.out _ _ (bb2 hHeld dL) (fun hHeld => ?_)
     clear hK K
     try simp only [qq]
     refine aM 16 ?_
     refine aM 17 ?_
     refine jD ?_
     clear hO
     have bT := (aa hHeld.out.1)
     clear hHeld
     have zc := kC.out _ bT
     have dD := af az.out bT.out
     go_wp2
     go_ret2
     obtain ⟨e1, e2⟩ := jY (m := m) HF.out
     exact ⟨by rw [e1, e2]; rfl, dD⟩
    | true =>
     have HS : Hid (l.all (bG Q kn) = (l.drop (k + 1)).all (bG Q kn)) := aa (HR.out.trans (gV hkl (by rw [hpx]; simp [bG, hsc, hmb])))
     have B_ := aa hsc
     clear hmb hsc HR hpx
     go_upto_region 6 with (fail)
     clear zc
     refine mG (fun u => Below w0.heap.size w0 u ∧ Below wr.heap.size wr u) [] (bb2 (aa ⟨ax.out, jd.out⟩) ((Below.refl _ _).drew)) (fun hHeld => ?_)
     refine aK 0 1 2 3 ?_
     refine aM 4 ?_
     refine aM 5 ?_
     refine eX 6 fun K hK => ?_
     go_simp
     refine (bF (m : Int) Cs cn cc Ks kn kc ix true zW _).mono ?_
     rintro e wA ⟨rfl, dL⟩
     refine hK.out _ _ (bb2 hHeld dL) (fun hHeld => ?_)
     clear hK K
     try simp only [qq]
     refine aK 7 8 9 10 ?_
     refine aK 11 12 13 14 ?_
     refine eX 15 fun K hK => ?_
     go_simp
     refine (dK P Q G v true B_ _).mono ?_
     rintro e wA ⟨rfl, dL⟩
     refine hK.out _ _ (bb2 hHeld dL) (fun hHeld => ?_)
     clear hK K
     try simp only [qq]
     refine aM 16 ?_
     refine aM 17 ?_
     refine jD ?_
     clear hO
     have bT := (aa hHeld.out.1)
     clear hHeld
     have zc := kC.out _ bT
     go_wp2
     go_roundw
     case rel => exact ⟨k + 1, by omega, by go_num, HS, bT⟩
     case measure => simp [intOf]; omega
  ·
   have hke : n = k := by omega
   subst hke
   have bJ : Hid (l.all (bG Q kn) = true) := aa (by rw [HR.out, ← hn.out, List.drop_length]; rfl)
   clear HR jd
   have zc := kC.out _ ax
   go_wp2
   clear zc
   go_loopw [8, 9, 10, 12] (fun vx vy fv i wr => ∃ k kk : Nat, k ≤ n ∧ i = .int .i64 k ∧ fv = .bool (bP l k) ∧ Hid ((pts l k).length = kk) ∧ Hid (wr.ownsRow w0.heap.size 3 1 vx kk ((ixs (pts l k)).map (Value.int .i64))) ∧ Hid (wr.ownsRow w0.heap.size 3 1 vy kk ((aS (pts l k)).map (Value.int .i64))) ∧ Hid (∀ j, vx.ownBlock = some j → vy.ownBlock ≠ some j) ∧ Hid (Below w0.heap.size w0 wr)) (fun _ _ _ i _ => n - (intOf i).toNat)
   case atStart => exact ⟨0, 0, by omega, rfl, rfl, aa rfl, aa (World.ownsRow_nil _ _ _ _), aa (World.ownsRow_nil _ _ _ _), aa (fun j h => by cases h), ax⟩
   case round =>
    clear ax
    obtain ⟨k, kk, hk, rfl, rfl, HKK, oz, sH, jR, ax⟩ := hrel
    have hkk : kk ≤ k := by rw [← HKK.out]; exact nI l k
    obtain ⟨wo, rfl⟩ : ∃ u, u = wr := ⟨_, rfl⟩
    have AQ := bI wo
    have oD : Hid ((ixs (pts l k)).length = kk) := aa (by rw [List.length_map]; exact HKK.out)
    have x_ : Hid ((aS (pts l k)).length = kk) := aa (by rw [List.length_map]; exact HKK.out)
    obtain ⟨AX, cX, BC, sX, Fw⟩ := bM oz.out oD.out
    obtain ⟨AY, cY, Dc, sY, GZ⟩ := bM sH.out x_.out
    subst BC
    subst Dc
    have xA := aa sX
    have zT := aa sY
    clear sX sY
    by_cases hlt : k < n
    ·
     have hkl : k < l.length := by rw [hn.out]; exact hlt
     obtain ⟨b, o, wH, fZ, f_⟩ := (kA.out _ ax).out k hkl
     subst wH
     obtain ⟨px, hpx⟩ : ∃ x, l.getD k (0, 0) = x := ⟨_, rfl⟩
     obtain ⟨ix, v⟩ := px
     rw [hpx] at fZ f_
     dsimp only at fZ f_
     have hsh : gz l k = (ix, v) := hpx
     have Ii := aa (tK hsh)
     obtain ⟨F, hF⟩ : ∃ x, bP l k = x := ⟨_, rfl⟩
     rw [hF] at Ii ⊢
     have EI := aa hF
     clear hF
     go_wp2
     go_loopw [10, 13, 14] (fun fv kv i wz => ∃ t : Nat, t ≤ kk ∧ i = .int .i64 t ∧ kv = .bool (valOf ((pts l k).take t) ix).isSome ∧ fv = .bool (F && nk ((pts l k).take t) ix v) ∧ Hid (Below wo.heap.size wo wz)) (fun _ _ i _ => kk - (intOf i).toNat)
     case atStart => exact ⟨0, by omega, rfl, rfl, by rw [List.take_zero]; simp [nk, valOf], AQ⟩
     case round =>
      obtain ⟨t, ht, rfl, rfl, rfl, dG⟩ := hrel
      obtain ⟨kb, hkb⟩ : ∃ x, (valOf ((pts l k).take t) ix).isSome = x := ⟨_, rfl⟩
      obtain ⟨fb, zg⟩ : ∃ x, (F && nk ((pts l k).take t) ix v) = x := ⟨_, rfl⟩
      rw [hkb, zg]
      by_cases htk : t < kk
      ·
       obtain ⟨bX, oX, IZ, i1⟩ := (xA.out.below dG.out) t (by rw [oD.out]; exact htk)
       obtain ⟨bY, oY, IY, i2⟩ := (zT.out.below dG.out) t (by rw [x_.out]; exact htk)
       subst IZ
       subst IY
       have E5 := cell_below fZ dG.out
       have Eh := cell_below f_ dG.out
       have hsx : (gz (pts l k) t).1 = (ixs (pts l k)).getD t 0 := (gQ (by rw [HKK.out]; exact htk)).symm
       have hsy : (gz (pts l k) t).2 = (aS (pts l k)).getD t 0 := (iI (by rw [HKK.out]; exact htk)).symm
       obtain ⟨xt, hxt⟩ : ∃ x, (ixs (pts l k)).getD t 0 = x := ⟨_, rfl⟩
       obtain ⟨yt, E8⟩ : ∃ x, (aS (pts l k)).getD t 0 = x := ⟨_, rfl⟩
       rw [hxt] at i1 hsx
       rw [E8] at i2 hsy
       have xW := qp (pts l k) t (by rw [HKK.out]; exact htk) ix
       rw [hsx, hsy] at xW
       have hkn : k < n := hlt
       have jd := bI wr
       have hO := aa (fun (u : World) (h : Hid (Below wr.heap.size wr u)) => And.intro (cell_below i1 h.out) (And.intro (cell_below i2 h.out) (And.intro (cell_below E5 h.out) (cell_below Eh h.out))))
       have HD := aa (af jd.out (Below.refl wr.heap.size wr).drew)
       by_cases hxi : xt = ix
       ·
        have hnone : valOf ((pts l k).take t) ix = none := by rw [← hxi, ← hsx]; exact jO (by rw [HKK.out]; exact htk)
        rw [hnone] at xW
        dsimp only at xW
        rw [if_pos hxi] at xW
        have IM : fb = F := by rw [← zg, nk, hnone]; simp
        have xI : Hid ((valOf ((pts l k).take (t + 1)) ix).isSome = true) := aa (by rw [xW]; rfl)
        have DV : Hid (nk ((pts l k).take (t + 1)) ix v = (yt == v)) := aa (by rw [nk, xW])
        have dx : ((xt : Int) == ix) = true := by simpa using hxi
        clear xW hnone hkb zg hxi hsx hsy hxt E8
        subst IM
        cases fb with
        | true =>
         go_upto_region 15 with (fail)
         refine mG (fun u => Below wr.heap.size wr u) [] HD (fun hHeld => ?_)
         refine aK 0 1 2 3 ?_
         refine aK 4 5 6 7 ?_
         refine aM 8 ?_
         refine aM 9 ?_
         refine jD ?_
         have HB1 := hHeld
         clear hHeld
         go_upto_region 17 with (fail)
         have HD1 := aa (af HB1.out (Below.refl _ _).drew)
         refine mG (fun u => Below wr.heap.size wr u) [] HD1 (fun hHeld => ?_)
         refine aK 0 1 2 3 ?_
         refine aK 4 5 6 7 ?_
         refine aK 8 9 10 11 ?_
         refine aM 12 ?_
         refine aM 13 ?_
         refine jD ?_
         have HB2 := aa (af dG.out hHeld.out)
         clear hHeld
         go_wp2
         go_roundw
         case rel => exact ⟨t + 1, by omega, by go_num, by rw [xI.out], by rw [DV.out]; simp, HB2⟩
         case measure => simp [intOf]; omega
        | false =>
         go_upto_region 15 with (fail)
         refine mG (fun u => Below wr.heap.size wr u) [] HD (fun hHeld => ?_)
         refine aK 0 1 2 3 ?_
         refine aK 4 5 6 7 ?_
         refine aM 8 ?_
         refine aM 9 ?_
         refine jD ?_
         have HB1 := hHeld
         clear hHeld
         go_upto_region 17 with (fail)
         have HD1 := aa (af HB1.out (Below.refl _ _).drew)
         refine mG (fun u => Below wr.heap.size wr u) [] HD1 (fun hHeld => ?_)
         refine aM 0 ?_
         refine aM 1 ?_
         refine ko 2 3 4 5 ?_
         refine ko 6 7 8 9 ?_
         refine Cu 10 ?_
         refine Cu 11 ?_
         refine aM 12 ?_
         refine aM 13 ?_
         refine jD ?_
         have HB2 := aa (af dG.out hHeld.out)
         clear hHeld
         go_wp2
         go_roundw
         case rel => exact ⟨t + 1, by omega, by go_num, by rw [xI.out], by rw [Bool.false_and], HB2⟩
         case measure => simp [intOf]; omega
       ·
        rw [if_neg hxi] at xW
        have BH : valOf ((pts l k).take (t + 1)) ix = valOf ((pts l k).take t) ix := by rw [xW]; cases valOf ((pts l k).take t) ix <;> rfl
        have xI : Hid ((valOf ((pts l k).take (t + 1)) ix).isSome = kb) := aa (by rw [BH]; exact hkb)
        have DV : Hid ((F && nk ((pts l k).take (t + 1)) ix v) = fb) := aa (by rw [nk, BH]; exact zg)
        have dx : ((xt : Int) == ix) = false := by simpa using hxi
        clear xW BH hkb zg hxi hsx hsy hxt E8
        go_upto_region 15 with (fail)
        refine mG (fun u => Below wr.heap.size wr u) [] HD (fun hHeld => ?_)
        refine aK 0 1 2 3 ?_
        refine aK 4 5 6 7 ?_
        refine aM 8 ?_
        refine aM 9 ?_
        refine jD ?_
        have HB2 := aa (af dG.out hHeld.out)
        clear hHeld
        go_wp2
        go_roundw
        case rel => exact ⟨t + 1, by omega, by go_num, by rw [xI.out], by rw [DV.out], HB2⟩
        case measure => simp [intOf]; omega
      ·
       have hte : t = kk := by omega
       subst hte
       have hall : (pts l k).take t = pts l k := List.take_of_length_le (by rw [HKK.out]; exact Nat.le_refl _)
       rw [hall] at hkb zg
       have Ij : Hid (bP l (k + 1) = fb) := aa (by rw [Ii.out]; exact zg)
       have a_ := aa (af ax.out dG.out)
       have hox : wr.ownsRow w0.heap.size 3 1 (.slice AX t cX) t ((ixs (pts l k)).map (Value.int .i64)) := oz.out.kept (bn dG.out none) (bg _)
       have hoy : wr.ownsRow w0.heap.size 3 1 (.slice AY t cY) t ((aS (pts l k)).map (Value.int .i64)) := sH.out.kept (bn dG.out none) (bg _)
       cases nS : valOf (pts l k) ix with
       | some z =>
        have hkt : kb = true := by rw [← hkb, nS]; rfl
        have yh : Hid (pts l (k + 1) = pts l k) := aa (by rw [pts, hsh]; dsimp only; rw [nS])
        have og : Hid (wr.ownsRow w0.heap.size 3 1 (.slice AX t cX) t ((ixs (pts l (k + 1))).map (Value.int .i64))) := aa (by rw [yh.out]; exact hox)
        have n_ : Hid (wr.ownsRow w0.heap.size 3 1 (.slice AY t cY) t ((aS (pts l (k + 1))).map (Value.int .i64))) := aa (by rw [yh.out]; exact hoy)
        have Gq : Hid ((pts l (k + 1)).length = t) := aa (by rw [yh.out]; exact HKK.out)
        clear hkb zg nS hall hox hoy hsh hpx
        subst hkt
        go_wp2
        go_roundw
        case rel => exact ⟨k + 1, t, by omega, by go_num, by rw [Ij.out], Gq, og, n_, jR, a_⟩
        case measure => simp [intOf]; omega
       | none =>
        have hkt : kb = false := by rw [← hkb, nS]; rfl
        have AB : Hid (pts l (k + 1) = pts l k ++ [(ix, v)]) := aa (by rw [pts, hsh]; dsimp only; rw [nS])
        have yl : Hid ((pts l (k + 1)).length = t + 1) := aa (by rw [AB.out, List.length_append, HKK.out]; rfl)
        have E5 := cell_below fZ dG.out
        have Eh := cell_below f_ dG.out
        have hbs := a_.out.size
        have hbw0 : b < w0.heap.size := by
         obtain ⟨b8, o8, FK, h8, _⟩ := (kA.out _ ai).out k (by rw [hn.out]; exact hlt)
         injection FK with FK
         injection FK with e8
         rw [e8]
         exact World.block_lt_of_cell? _ _ h8
        have hkn : k < n := hlt
        have GL : t + 1 ≤ 101 := by omega
        clear hkb zg nS hall hsh hpx
        subst hkt
        have GV : ∀ y1 : World, (wr.alloc (.cells #[.int .i64 ix] 3)).grownBy y1 (Value.slice AX t cX).ownBlock → y1.cell? ⟨b, o + k * 2 + 1, none⟩ = some (.int .i64 v) := fun y1 hg => by
         have hb1 : b < w0.heap.size := hbw0
         have hne : (Value.slice AX t cX).ownBlock ≠ some b := fun e => by have := (hox.lt _ e).1; omega
         exact (rX (hg.block b (by rw [World.size_alloc]; omega) (fun e => hne e.symm)) _).trans (cell_below Eh (ag wr _))
        go_upto_region 20 with (at_builtin; refine _root_.Go.wpList_append_lies _ rfl _ _ 24 rfl w0.heap.size 3 i0 (.int .i64 0) 1 8 Tryz.underlying24 hi hz0 hz1 hz2 rfl (by decide) _ _ _ rfl (hox.alloc _) ⟨wr.heap.size, 0, none⟩ 1 1 [.int .i64 ix] rfl rfl (cell_one_new _ _ _) (ints_oneCell .i64 [ix]) (by omega) (by unfold maxLen; omega) (by omega) (by simp; omega) _ rfl ?_; intro gX Hy y1 hx1 hgx Dg Fh)
        have BD := (hoy.alloc (.cells #[.int .i64 ix] 3)).kept hgx (own_ne (g := 0) jR.out)
        have IC := GV y1 hgx
        have BJ : Below w0.heap.size w0 y1 := (a_.out.alloc hbs _).grown hgx (by simp; omega) (fun j hj => (hox.lt j hj).1)
        have Dh := BJ.size
        go_wp2_with (at_builtin; refine _root_.Go.wpList_append_lies _ rfl _ _ 24 rfl w0.heap.size 3 i0 (.int .i64 0) 1 8 Tryz.underlying24 hi hz0 hz1 hz2 rfl (by decide) _ _ _ rfl (BD.alloc _) ⟨y1.heap.size, 0, none⟩ 1 1 [.int .i64 v] rfl rfl (cell_one_new _ _ _) (ints_oneCell .i64 [v]) (by omega) (by unfold maxLen; omega) (by omega) (by simp; omega) _ rfl ?_; intro gY Hw y2 hy2 Fv Df hlty)
        have Fx : (Value.slice AY t cY).ownBlock ≠ some gX := by
         intro e
         rcases Dg with e2 | e2
         · exact jR.out _ e2 e
         ·
          have := (hoy.lt _ e).2
          rw [World.size_alloc] at e2
          omega
        have hx2 := (hx1.alloc (.cells #[.int .i64 v] 3)).kept Fv (own_ne (g := 0) (v := Value.slice AY t cY) (fun j hj e => by
         have e3 : some gX = some j := e
         rw [← e3] at hj
         exact Fx hj))
        have og : Hid (y2.ownsRow w0.heap.size 3 1 (.slice (some ⟨gX, 0, none⟩) (t + 1) Hy) (t + 1) ((ixs (pts l (k + 1))).map (Value.int .i64))) := aa (by rw [AB.out]; simpa using hx2)
        have n_ : Hid (y2.ownsRow w0.heap.size 3 1 (.slice (some ⟨gY, 0, none⟩) (t + 1) Hw) (t + 1) ((aS (pts l (k + 1))).map (Value.int .i64))) := aa (by rw [AB.out]; simpa using hy2)
        have xG : Hid (∀ j, (Value.slice (some ⟨gX, 0, none⟩) (t + 1) Hy).ownBlock = some j → (Value.slice (some ⟨gY, 0, none⟩) (t + 1) Hw).ownBlock ≠ some j) := aa (fun j hj e => by
         have e3 : some gX = some j := hj
         have e4 : some gY = some j := e
         have e5 : gY = gX := by rw [← e3] at e4; injection e4
         rcases Df with e6 | e6
         ·
          have e7 : (Value.slice AY t cY).ownBlock = some gY := e6
          exact Fx (by rw [e7, e5])
         ·
          rw [World.size_alloc] at e6
          omega)
        have HB2 : Hid (Below w0.heap.size w0 y2) := aa ((BJ.alloc Dh _).grown Fv (by simp; omega) (fun j hj => (BD.lt j hj).1))
        clear hox hoy hx1 hgx Dg Fh BD IC BJ Dh hy2 Fv Df hlty Fx hx2 GV E5 Eh hbs
        go_roundw
        case rel => exact ⟨k + 1, t + 1, by omega, by go_num, by rw [Ij.out], yl, og, n_, xG, HB2⟩
        case measure => simp [intOf]; omega
    ·
     have hke : n = k := by omega
     subst hke
     have hln : l.length = n := hn.out
     have yj : Hid (aP (ixs (pts l n))) := aa (vU l n)
     have CE : Hid (∀ j, j < kk → dU kn ((ixs (pts l n)).getD j 0) = true ∧ aQ Q ((aS (pts l n)).getD j 0) = true) := aa (fun j hj => by
      have h9 := rD bJ.out n (by rw [hln]; exact Nat.le_refl _) j (by rw [HKK.out]; exact hj)
      rw [gQ (by rw [HKK.out]; exact hj), iI (by rw [HKK.out]; exact hj)]
      exact h9)
     have q9 : Hid ((pts l l.length).length = kk) := aa (by rw [hln]; exact HKK.out)
     clear oz sH jR hln
     have zc := kC.out _ ax
     cases hfit : bP l n with
     | false =>
      have EI : Hid (bP l l.length = false) := aa (by rw [hn.out]; exact hfit)
      have dD := af az.out ax.out
      clear hfit
      go_wp2
      go_ret2
      obtain ⟨e1, e2⟩ := mK (m := m) bJ.out EI.out
      exact ⟨by rw [e1, e2]; rfl, dD⟩
     | true =>
      have zY : Hid (bP l l.length = true) := aa (by rw [hn.out]; exact hfit)
      clear hfit
      by_cases hkm : m < kk
      ·
       have dk : decide ((m : Int) < (kk : Int)) = true := by simp; omega
       have hml : m < (pts l l.length).length := by rw [q9.out]; exact hkm
       have zV : Hid (di Q = true) := aa (iJ bf.out)
       have Aw : Hid (((ixs (pts l n)).take m).length = m) := aa (by rw [List.length_take, oD.out]; omega)
       have CJ : Hid (∀ j, j < m → ((ixs (pts l n)).take m).getD j 0 = (ixs (pts l n)).getD j 0) := aa (fun j hj => by rw [List.getD_eq_getElem?_getD, List.getElem?_take_of_lt hj, ← List.getD_eq_getElem?_getD])
       have Cf : Hid (∀ j, j < kk → 1 ≤ (ixs (pts l n)).getD j 0 ∧ (ixs (pts l n)).getD j 0 ≤ 8 ∧ (ixs (pts l n)).getD j 0 < Q) := aa (fun j hj => by
        obtain ⟨h1, _⟩ := CE.out j hj
        obtain ⟨mm, h3, h4⟩ := fH h1
        rw [h4]
        omega)
       have FV : Hid (((ixs (pts l n)).take m).all (aQ Q) = true) := aa (by
        rw [List.all_eq_true]
        intro x hx
        obtain ⟨j, hj, rfl⟩ := List.getElem_of_mem hx
        rw [Aw.out] at hj
        have h9 := Cf.out j (by omega)
        rw [← CJ.out j hj, List.getD_eq_getElem?_getD, List.getElem?_eq_getElem (by rw [Aw.out]; exact hj)] at h9
        obtain ⟨g1, _, g3⟩ := h9
        change 1 ≤ _ at g1
        have g4 : ∀ z : Int, 1 ≤ z → z < Q → aQ Q z = true := fun z z1 z2 => by simp [aQ]; omega
        exact g4 _ g1 g3)
       have GU : m ≤ cX := by omega
       have wE : m ≤ 100 := by omega
       have kX := uj (w := wo) (fun u => Sl u AX (ixs (pts l n))) xA.out (·.below)
       have kY := uj (w := wo) (fun u => Sl u AY (aS (pts l n))) zT.out (·.below)
       go_wp2
       clear zc
       go_loopw [15] (fun i wz => ∃ j : Nat, m ≤ j ∧ j ≤ kk ∧ i = .int .i64 j ∧ Hid (gq Q (pts l n) m j = true) ∧ Hid (Below wo.heap.size wo wz)) (fun i _ => kk - (intOf i).toNat)
       case atStart => exact ⟨m, Nat.le_refl _, by omega, rfl, aa (si Q _ m m (Nat.le_refl _)), AQ⟩
       case round =>
        obtain ⟨j, Ku, hj, rfl, Ed, dG⟩ := hrel
        obtain ⟨wp, rfl⟩ : ∃ u, u = wr := ⟨_, rfl⟩
        have a_ := aa (af ax.out dG.out)
        have zc := kC.out _ a_
        by_cases dZ : j < kk
        ·
         obtain ⟨b1, o1, hA1, i1⟩ := (kX.out _ dG).out j (by rw [oD.out]; exact dZ)
         obtain ⟨b2, o2, hA2, i2⟩ := (kY.out _ dG).out j (by rw [x_.out]; exact dZ)
         subst hA1
         subst hA2
         obtain ⟨x0, x8, x1⟩ := Cf.out j dZ
         obtain ⟨E, hE⟩ : ∃ z, nD Q ((ixs (pts l n)).getD j 0) ((ixs (pts l n)).take m) (aS (pts l n)) m = z := ⟨_, rfl⟩
         have kP : gq Q (pts l n) m (j + 1) = (E == (aS (pts l n)).getD j 0) := by
          rw [gq, Ed.out, Bool.true_and, hE, decide_eq_false (show ¬ j < m by omega), Bool.false_or]
         obtain ⟨x, hx⟩ : ∃ x, (ixs (pts l n)).getD j 0 = x := ⟨_, rfl⟩
         obtain ⟨y, hy⟩ : ∃ x, (aS (pts l n)).getD j 0 = x := ⟨_, rfl⟩
         rw [hx] at i1 x0 x1 x8 hE
         rw [hy] at i2 kP
         have HE := aa hE
         have Ec := aa kP
         clear hx hy hE kP
         have D7 := bI wp
         have hO := aa (fun (u : World) (h : Hid (Below w0.heap.size w0 u ∧ Below wp.heap.size wp u)) => And.intro (kC.out u (aa h.out.1)) (cell_below i1 h.out.2))
         have HST : Hid (Sl wp (some ⟨b1, o1, none⟩) ((ixs (pts l n)).take m)) := aa (fC (kX.out _ dG).out m)
         go_upto_region 27 with (fail)
         clear zc
         refine mG (fun u => Below w0.heap.size w0 u ∧ Below wp.heap.size wp u) [] (bb2 (aa ⟨a_.out, D7.out⟩) ((Below.refl _ _).drew)) (fun hHeld => ?_)
         refine aK 0 1 2 3 ?_
         refine aK 4 5 6 7 ?_
         refine aM 8 ?_
         refine aM 9 ?_
         have Co := aa hHeld.out.2
         refine eX 10 fun K hK => ?_
         go_simp
         refine (iK Q (some ⟨b1, o1, none⟩) ((ixs (pts l n)).take m) m cX x (by omega) zV Aw wE FV (by omega) x1 _ (aa (HST.out.below Co.out))).mono ?_
         rintro e wA ⟨vw, rfl, rP, dL⟩
         unfold aO at rP
         rw [aI] at rP
         obtain ⟨AW, cW, hvw, sW, hcW⟩ := bM rP (aI _ _ _ _)
         subst hvw
         have AA := aa sW
         clear rP sW
         refine hK.out _ _ (bb2 hHeld dL) (fun hHeld => ?_)
         clear hK K
         try simp only [qq]
         refine aM 11 ?_
         refine jD ?_
         clear hO
         have AV := (aa hHeld.out.1)
         have AU := (aa hHeld.out.2)
         clear hHeld
         have kW := uj (w := wA) (fun u => Sl u AW (oq Q ((ixs (pts l n)).take m) x m)) AA.out (·.below)
         have Eb := aa (af dG.out AU.out)
         have zc := kC.out _ AV
         go_wp2
         clear zc
         go_loopw [17, 18] (fun a i wz => ∃ t : Nat, t ≤ m ∧ i = .int .i64 t ∧ a = .int .i64 (nD Q x ((ixs (pts l n)).take m) (aS (pts l n)) t) ∧ Hid (Below wA.heap.size wA wz)) (fun _ i _ => m - (intOf i).toNat)
         case atStart => exact ⟨0, by omega, rfl, rfl, bI wA⟩
         case round =>
          obtain ⟨t, ht, rfl, rfl, D6⟩ := hrel
          have xz := aa (af AV.out D6.out)
          have Ay := aa (af Eb.out D6.out)
          have hsb := ku (q := Q) (by omega) x ((ixs (pts l n)).take m) (aS (pts l n)) t
          have zc := kC.out _ xz
          by_cases Ai : t < m
          ·
           obtain ⟨b3, o3, hA3, i3⟩ := (kW.out _ D6).out t (by rw [aI]; exact Ai)
           obtain ⟨b4, o4, FL, i4⟩ := (kY.out _ Ay).out t (by rw [x_.out]; omega)
           subst hA3
           injection FL with FL
           injection FL with e4 e5
           subst e4
           subst e5
           rw [m_ _ _ _ _ _ Ai] at i3
           have ss : nD Q x ((ixs (pts l n)).take m) (aS (pts l n)) (t + 1) = (nD Q x ((ixs (pts l n)).take m) (aS (pts l n)) t + jT Q ((ixs (pts l n)).take m) x t * (aS (pts l n)).getD t 0 % Q) % Q := rfl
           obtain ⟨z0, z1⟩ := iq (q := Q) (by omega) ((ixs (pts l n)).take m) x t
           have hyb := (CE.out t (by omega)).2
           obtain ⟨z, hz⟩ : ∃ z, jT Q ((ixs (pts l n)).take m) x t = z := ⟨_, rfl⟩
           obtain ⟨y4, hy4⟩ : ∃ z, (aS (pts l n)).getD t 0 = z := ⟨_, rfl⟩
           obtain ⟨s9, wB⟩ : ∃ z, nD Q x ((ixs (pts l n)).take m) (aS (pts l n)) t = z := ⟨_, rfl⟩
           rw [hz] at i3 z0 z1 ss
           rw [hy4] at i4 ss hyb
           rw [wB] at ss hsb ⊢
           obtain ⟨p, hp⟩ : ∃ u, z * y4 % Q = u := ⟨_, rfl⟩
           obtain ⟨t9, wm⟩ : ∃ u, (s9 + p) % Q = u := ⟨_, rfl⟩
           rw [hp, wm] at ss
           have p0 : 0 ≤ p := by rw [← hp]; exact Int.emod_nonneg _ (by omega)
           have p1 : p < Q := by rw [← hp]; exact Int.emod_lt_of_pos _ (by omega)
           obtain ⟨s0, s1⟩ := hsb
           have y0 := dQ hyb
           have y1 := dR hyb
           have SS := aa ss
           have HP := aa hp
           have DD := aa wm
           have d1 : IntKind.i64.wrap (s9 + p) = s9 + p := IntWalk.i64_in _ (by omega)
           have e1 : wrap64 (s9 + p) = s9 + p := IntWalk.wrap64_in _ (by omega)
           have htk : t < kk := by omega
           clear ss hz hy4 wB hp wm hyb
           have xM := bI wr
           have hO := aa (fun (u : World) (h : Hid (Below w0.heap.size w0 u ∧ Below wr.heap.size wr u)) => And.intro (kC.out u (aa h.out.1)) (And.intro (cell_below i3 h.out.2) (cell_below i4 h.out.2)))
           go_upto_region 32 with (fail)
           clear zc
           refine mG (fun u => Below w0.heap.size w0 u ∧ Below wr.heap.size wr u) [] (bb2 (aa ⟨xz.out, xM.out⟩) ((Below.refl _ _).drew)) (fun hHeld => ?_)
           refine aK 0 1 2 3 ?_
           refine aK 4 5 6 7 ?_
           refine aK 8 9 10 13 ?_
           refine aM 14 ?_
           refine eX 11 fun K hK => ?_
           go_simp
           refine (aU z y4 Q p HP (by omega) z0 z1 y0 y1 _).mono ?_
           rintro e u1 ⟨rfl, rfl⟩
           refine hK.out _ _ hHeld (fun hHeld => ?_)
           clear hK K
           try simp only [qq]
           refine aM 12 ?_
           refine eX 15 fun K hK => ?_
           go_simp
           refine (cB (s9 + p) Q t9 DD (by omega) (by omega) (by omega) (by omega) _).mono ?_
           rintro e u2 ⟨rfl, rfl⟩
           refine hK.out _ _ hHeld (fun hHeld => ?_)
           clear hK K
           try simp only [qq]
           refine aM 16 ?_
           refine jD ?_
           clear hO
           have Gy := aa (af D6.out hHeld.out.2)
           clear hHeld
           go_wp2
           go_roundw
           case rel => exact ⟨t + 1, by omega, by go_num, by rw [SS.out], Gy⟩
           case measure => simp [intOf]; omega
          ·
           have hte : m = t := by omega
           subst hte
           rw [HE.out]
           have i5 := cell_below i2 (af AU.out D6.out)
           have htk : j < kk := dZ
           by_cases rQ : E = y
           ·
            have dE : ((E : Int) != y) = false := by simp [rQ]
            have Ck : Hid (gq Q (pts l n) m (j + 1) = true) := aa (by rw [Ec.out, rQ]; simp)
            clear rQ
            go_wp2
            go_roundw
            case rel => exact ⟨j + 1, by omega, by omega, by go_num, Ck, Ay⟩
            case measure => simp [intOf]; omega
           ·
            have dE : ((E : Int) != y) = true := by simpa using rQ
            have Gw : Hid (gq Q (pts l n) m kk = false) := aa (jy (k := j + 1) (by
             rw [Ec.out]
             simpa using rQ) kk (by omega))
            have dD := af az.out xz.out
            clear rQ
            go_wp2
            go_ret2
            obtain ⟨e1, e2⟩ := jZ (m := m) bJ.out zY.out hml false (by rw [q9.out, hn.out]; exact Gw.out)
            exact ⟨by rw [e1, e2]; rfl, dD⟩
        ·
         have Fs : kk = j := by omega
         subst Fs
         have dD := af az.out a_.out
         go_wp2
         go_ret2
         obtain ⟨e1, e2⟩ := jZ (m := m) bJ.out zY.out hml true (by rw [q9.out, hn.out]; exact Ed.out)
         exact ⟨by rw [e1, e2]; rfl, dD⟩
      ·
       have dk : decide ((m : Int) < (kk : Int)) = false := by simp; omega
       obtain ⟨T, hT⟩ : ∃ T, (2305843009213693951 : Int) / Q = T := ⟨_, rfl⟩
       have hT0 : 0 ≤ T := by rw [← hT]; exact Int.ediv_nonneg (by omega) (by omega)
       have hT1 : T ≤ 2305843009213693951 := by rw [← hT]; exact Int.ediv_le_self _ (by omega)
       have IW : (2305843009213693951 : Int).tdiv Q = T := by rw [Int.tdiv_eq_ediv_of_nonneg (by omega)]; exact hT
       have IV : IntKind.i64.wrap T = T := IntWalk.i64_in _ (by omega)
       have FC : wrap64 T = T := IntWalk.wrap64_in _ (by omega)
       have hQn : ¬ (Q = 0) := by omega
       have Am : ((Q : Int) == 0) = false := by simp; omega
       go_wp2
       go_loopw [19, 20] (fun a i wz => ∃ (j : Nat) (nE : Int), kk ≤ j ∧ j ≤ m ∧ i = .int .i64 j ∧ a = .int .i64 nE ∧ Hid (lY Q (j - kk) = some nE) ∧ wz = wo) (fun _ i _ => m - (intOf i).toNat)
       case atStart => exact ⟨kk, 1, Nat.le_refl _, by omega, rfl, rfl, aa (by rw [Nat.sub_self]; rfl), rfl⟩
       case round =>
        obtain ⟨j, nE, hkj, hj, rfl, rfl, yg, rfl⟩ := hrel
        obtain ⟨p0, p1⟩ := dS (by omega) (j - kk) nE yg.out
        by_cases hjm : j < m
        ·
         have dj : decide ((j : Int) < (m : Int)) = true := by simp; omega
         have hjs : j + 1 - kk = (j - kk) + 1 := by omega
         by_cases hbg : T < nE
         ·
          have db : decide (T < nE) = true := by simp; omega
          have t_ : Hid (lY Q (m - kk) = none) := aa (kG (k := (j - kk) + 1) (by rw [lY, yg.out]; dsimp only; rw [if_pos (by rw [hT]; exact hbg)]) _ (by omega))
          have dD := af az.out ax.out
          go_wp2
          go_ret2
          obtain ⟨e1, e2⟩ := rF (m := m) bJ.out zY.out (by rw [q9.out]; omega) (by rw [q9.out]; exact t_.out)
          exact ⟨by rw [e1, e2]; rfl, dD⟩
         ·
          have db : decide (T < nE) = false := by simp; omega
          have h8 : lY Q ((j - kk) + 1) = some (nE * Q) := by rw [lY, yg.out]; dsimp only; rw [if_neg (by rw [hT]; exact hbg)]
          obtain ⟨p2, p3⟩ := dS (by omega) ((j - kk) + 1) _ h8
          rw [← hjs] at h8
          have xE := aa h8
          obtain ⟨pn, hpn⟩ : ∃ x, nE * Q = x := ⟨_, rfl⟩
          rw [hpn] at xE p2 p3
          have e1 : IntKind.i64.wrap pn = pn := IntWalk.i64_in _ (by omega)
          have e2 : wrap64 pn = pn := IntWalk.wrap64_in _ (by omega)
          clear h8 hjs
          go_wp2
          go_roundw
          case rel => exact ⟨j + 1, pn, by omega, by omega, by go_num, rfl, xE, by first | rfl | trivial⟩
          case measure => simp [intOf]; omega
        ·
         have Fs : m = j := by omega
         subst Fs
         have dD := af az.out ax.out
         go_wp2
         go_ret2
         obtain ⟨e1, e2⟩ := rE (m := m) bJ.out zY.out (by rw [q9.out]; omega) (by rw [q9.out]; exact yg.out)
         exact ⟨by rw [e1, e2]; rfl, dD⟩
theorem EO (P Q G need : Int) (Cs : Option Addr) (cs : List Int) (cn cc : Nat) (Ks : Option Addr) (ks : List Int) (kn kc : Nat) (hcn : Hid (cs.length = cn)) (hkn : Hid (ks.length = kn)) (A : Option Addr) (l : List (Int × Int)) (n c : Nat) (hn : Hid (l.length = n)) (hlr : Hid (∀ k, k < n → kF (l.getD k (0, 0)))) (hr : Hid (ou P Q G need cs ks = false)) (hQ : Q < 9223372036854775808) (w : World) (hv : Hid (Vars w)) (hC : Hid (Sl w Cs cs)) (hK : Hid (Sl w Ks ks)) (hA : Hid (Sh w A l)) :
  Calls Tryz.prog 3 #[gv P Q G, fA need Cs cn cc Ks kn kc, .slice A n c] w (Rt w (.bool true)) := by
 obtain ⟨w0, HW, az, kC⟩ := st2 (aG P Q G) gy (fB need Cs cn cc Ks kn kc) lW w
 have kV := mkV az hv
 have dh := mkS az hC
 have dA := mkS az hK
 have kA := xV (fun u => Sh u A l) az hA (·.below)
 have ai := bI w0
 clear hv hC hK hA
 go_in
 go_upto_region 1 with (fail)
 rw [HW.out]
 have zc := kC.out _ ai
 go_wp2_with fail
 clear zc
 refine bH kC ai (rZ _ (kV.out _ ai)) fun w1 aD zc => ?_
 cases hgr : (decide (50 < cn) || decide (50 < kn)) with
 | true =>
  have HG := aa hgr
  clear hgr
  go_wp2_with fail
  clear zc
  refine bH kC aD (eD need Cs cn cc Ks kn kc true HG _) fun w2 ak zc => ?_
  go_wp2
  go_ret
  exact ⟨rfl, gW az ak⟩
 | false =>
  have HG := aa hgr
  clear hgr
  go_wp2_with fail
  clear zc
  refine bH kC aD (eD need Cs cn cc Ks kn kc false HG _) fun w2 ak zc => ?_
  by_cases h50 : 50 < n
  ·
   have d5 : decide ((50 : Int) < (n : Int)) = true := by simp; omega
   go_wp2
   go_ret
   exact ⟨rfl, gW az ak⟩
  ·
   have d5 : decide ((50 : Int) < (n : Int)) = false := by simp; omega
   go_wp2_with fail
   clear zc
   refine bH kC ak (CX P Q G need Cs cs cn cc Ks ks kn kc hcn hkn A l n c hn (by omega) hlr hr hQ _ (kV.out _ ak) (dh.out _ ak) (dA.out _ ak) (kA.out _ ak)) fun w3 aH zc => ?_
   go_wp2_with fail
   clear zc
   refine bH kC aH (Bp P Q G need Cs cs cn cc Ks ks kn kc hcn hkn A l n c hn (by omega) hlr hr hQ _ (kV.out _ aH) (dh.out _ aH) (dA.out _ aH) (kA.out _ aH)) fun w4 eT zc => ?_
   go_wp2_with fail
   clear zc
   refine bH kC eT (oQ P Q G need Cs cs cn cc Ks ks kn kc hcn hkn false hr hQ _ (dh.out _ eT) (dA.out _ eT)) fun w5 oo zc => ?_
   go_wp2_with fail
   clear zc
   refine bH kC oo (dJ P Q G need Cs cs cn cc Ks ks kn kc hcn hkn false hr hQ _ (kV.out _ oo) (dh.out _ oo) (dA.out _ oo)) fun w6 Ci zc => ?_
   go_wp2
   clear zc
   go_loopw [51] (fun i wr => ∃ k : Nat, k ≤ n ∧ i = .int .i64 k ∧ Hid (Below w0.heap.size w0 wr)) (fun i _ => n - (intOf i).toNat)
   case atStart => exact ⟨0, by omega, rfl, Ci⟩
   case round =>
    obtain ⟨k, hk, rfl, ax⟩ := hrel
    have zc := kC.out _ ax
    by_cases hlt : k < n
    ·
     have hkl : k < l.length := by rw [hn.out]; exact hlt
     obtain ⟨b, o, wH, fZ, f_⟩ := (kA.out _ ax).out k hkl
     subst wH
     obtain ⟨px, hpx⟩ : ∃ x, l.getD k (0, 0) = x := ⟨_, rfl⟩
     obtain ⟨ix, v⟩ := px
     rw [hpx] at fZ f_
     dsimp only at fZ f_
     clear hpx
     have aL := bI wr
     obtain ⟨w7, hw, lJ, tZ, AP, kS⟩ := Cy (h_ ix v) rY wr
     have jB := uk ax lJ
     have aJ := uk aL lJ
     have fQ := bI w7
     clear lJ
     have sN := kC.out _ jB
     have je := kS.out _ fQ
     go_wp2_with fail
     clear zc sN je hw fZ f_
     have zc := kC.out _ jB
     have jN := kS.out _ fQ
     go_wp2_with fail
     clear zc jN
     refine l8 jB aJ fQ (A_ P Q G need Cs cs cn cc Ks ks kn kc hcn hkn ix v hr hQ _ (kV.out _ jB) (dh.out _ jB) (dA.out _ jB)) fun w8 xN zZ oh => ?_
     have zc := kC.out _ xN
     have jN := kS.out _ oh
     go_wp2
     go_roundw
     case rel => exact ⟨k + 1, by omega, by go_num, xN⟩
     case measure => simp [intOf]; omega
    ·
     have dD := gW az ax
     go_wp2
     go_ret
     exact ⟨by first | rfl | simp, dD⟩
theorem EN (P Q G : Int) (m : Nat) (Cs : Option Addr) (cs : List Int) (cn cc : Nat) (Ks : Option Addr) (ks : List Int) (kn kc : Nat) (hcn : Hid (cs.length = cn)) (hkn : Hid (ks.length = kn)) (A : Option Addr) (l : List (Int × Int)) (n c : Nat) (hn : Hid (l.length = n)) (hlr : Hid (∀ k, k < n → kF (l.getD k (0, 0)))) (hr : Hid (ou P Q G (m : Int) cs ks = true)) (hQ : Q < 9223372036854775808) (w : World) (hv : Hid (Vars w)) (hC : Hid (Sl w Cs cs)) (hK : Hid (Sl w Ks ks)) (hA : Hid (Sh w A l)) :
  Calls Tryz.prog 3 #[gv P Q G, fA (m : Int) Cs cn cc Ks kn kc, .slice A n c] w (Rt w (.bool true)) := by
 obtain ⟨bf, n1, n2, n3, n4, n5, n6⟩ := bV hr.out hcn.out hkn.out
 obtain ⟨w0, HW, az, kC⟩ := st2 (aG P Q G) gy (fB (m : Int) Cs cn cc Ks kn kc) lW w
 have kV := mkV az hv
 have dh := mkS az hC
 have dA := mkS az hK
 have kA := xV (fun u => Sh u A l) az hA (·.below)
 have ai := bI w0
 clear hv hC hK hA
 go_in
 go_upto_region 1 with (fail)
 rw [HW.out]
 have zc := kC.out _ ai
 go_wp2_with fail
 clear zc
 refine bH kC ai (rZ _ (kV.out _ ai)) fun w1 aD zc => ?_
 cases hgr : (decide (50 < cn) || decide (50 < kn)) with
 | true =>
  have HG := aa hgr
  clear hgr
  go_wp2_with fail
  clear zc
  refine bH kC aD (eD (m : Int) Cs cn cc Ks kn kc true HG _) fun w2 ak zc => ?_
  go_wp2
  go_ret
  exact ⟨rfl, gW az ak⟩
 | false =>
  have HG := aa hgr
  clear hgr
  go_wp2_with fail
  clear zc
  refine bH kC aD (eD (m : Int) Cs cn cc Ks kn kc false HG _) fun w2 ak zc => ?_
  by_cases h50 : 50 < n
  ·
   have d5 : decide ((50 : Int) < (n : Int)) = true := by simp; omega
   go_wp2
   go_ret
   exact ⟨rfl, gW az ak⟩
  ·
   have d5 : decide ((50 : Int) < (n : Int)) = false := by simp; omega
   go_wp2_with fail
   clear zc
   refine bH kC ak (Ac P Q G m Cs cs cn cc Ks ks kn kc hcn hkn A l n c hn (by omega) hlr hr hQ _ (kV.out _ ak) (dh.out _ ak) (dA.out _ ak) (kA.out _ ak)) fun w3 aH zc => ?_
   obtain ⟨VS, Fy⟩ : ∃ x, iA P Q G (m : Int) ks l = x := ⟨_, rfl⟩
   obtain ⟨ES, FH⟩ : ∃ x, dY P Q G (m : Int) ks l = x := ⟨_, rfl⟩
   have Jf := aa Fy
   have JU := aa FH
   rw [Fy, FH]
   clear Fy FH
   go_wp2_with fail
   clear zc
   refine bH kC aH (Bo P Q G m Cs cs cn cc Ks ks kn kc hcn hkn A l n c hn (by omega) hlr hr hQ _ (kV.out _ aH) (dh.out _ aH) (dA.out _ aH) (kA.out _ aH)) fun w4 eT zc => ?_
   obtain ⟨VP, Fz⟩ : ∃ x, jk Q m kn l = x := ⟨_, rfl⟩
   obtain ⟨EP, FI⟩ : ∃ x, jl Q m kn l = x := ⟨_, rfl⟩
   have Jg := aa Fz
   have JV := aa FI
   rw [Fz, FI]
   clear Fz FI
   go_wp2_with fail
   clear zc
   refine bH kC eT (oQ P Q G (m : Int) Cs cs cn cc Ks ks kn kc hcn hkn true hr hQ _ (dh.out _ eT) (dA.out _ eT)) fun w5 oo zc => ?_
   go_wp2_with fail
   clear zc
   refine bH kC oo (dJ P Q G (m : Int) Cs cs cn cc Ks ks kn kc hcn hkn true hr hQ _ (kV.out _ oo) (dh.out _ oo) (dA.out _ oo)) fun w6 Ci zc => ?_
   go_wp2
   clear zc
   go_loopw [51] (fun i wr => ∃ k : Nat, k ≤ n ∧ i = .int .i64 k ∧ Hid (Below w0.heap.size w0 wr)) (fun i _ => n - (intOf i).toNat)
   case atStart => exact ⟨0, by omega, rfl, Ci⟩
   case round =>
    obtain ⟨k, hk, rfl, ax⟩ := hrel
    have zc := kC.out _ ax
    by_cases hlt : k < n
    ·
     have hkl : k < l.length := by rw [hn.out]; exact hlt
     obtain ⟨b, o, wH, fZ, f_⟩ := (kA.out _ ax).out k hkl
     subst wH
     obtain ⟨px, hpx⟩ : ∃ x, l.getD k (0, 0) = x := ⟨_, rfl⟩
     obtain ⟨ix, v⟩ := px
     rw [hpx] at fZ f_
     dsimp only at fZ f_
     clear hpx
     have aL := bI wr
     obtain ⟨w7, hw, lJ, tZ, AP, kS⟩ := Cy (h_ ix v) rY wr
     have jB := uk ax lJ
     have aJ := uk aL lJ
     have fQ := bI w7
     clear lJ
     have sN := kC.out _ jB
     have je := kS.out _ fQ
     go_wp2_with fail
     clear zc sN je hw fZ f_
     have zc := kC.out _ jB
     have jN := kS.out _ fQ
     go_wp2_with fail
     clear zc jN
     obtain ⟨r, hrg⟩ : ∃ r, cK P Q G ks ix v = r := ⟨_, rfl⟩
     have yf := aa hrg
     clear hrg
     refine l8 jB aJ fQ (qy P Q G (m : Int) Cs cs cn cc Ks ks kn kc hcn hkn ix v hr r yf hQ _ (kV.out _ jB) (dh.out _ jB) (dA.out _ jB)) fun w8 Ch z8 sK => ?_
     have zc := kC.out _ Ch
     have jN := kS.out _ sK
     go_wp2_with fail
     clear zc jN
     refine l8 Ch z8 sK (iB P Q G (m : Int) Cs cn cc Ks ks kn kc ix v hkn n2 bf r yf _ (dA.out _ Ch)) fun w9 xN zZ oh => ?_
     have zc := kC.out _ xN
     have jN := kS.out _ oh
     have KQ : (r != r) = false := by simp
     go_wp2
     go_roundw
     case rel => exact ⟨k + 1, by omega, by go_num, xN⟩
     case measure => simp [intOf]; omega
    ·
     go_wp2_with fail
     clear zc
     refine bH kC ax (uW P Q G m Cs cs cn cc Ks ks kn kc hcn hkn A l n c hn (by omega) hlr hr hQ _ (dA.out _ ax) (kA.out _ ax)) fun xS AR zc => ?_
     rw [Jf.out, JU.out]
     go_wp2_with fail
     clear zc
     refine bH kC AR (sS P Q G m Cs cs cn cc Ks ks kn kc hcn hkn A l n c hn (by omega) hr hQ _ (kA.out _ AR)) fun Kb D_ zc => ?_
     rw [Jg.out, JV.out]
     have dD := gW az D_
     go_wp2
     go_ret
     exact ⟨by first | rfl | simp, dD⟩
theorem yJ (P Q G need : Int) (Cs : Option Addr) (cs : List Int) (cn cc : Nat) (Ks : Option Addr) (ks : List Int) (kn kc : Nat) (hcn : Hid (cs.length = cn)) (hkn : Hid (ks.length = kn)) (A : Option Addr) (l : List (Int × Int)) (n c : Nat) (hn : Hid (l.length = n)) (hlr : Hid (∀ k, k < n → kF (l.getD k (0, 0)))) (hQ : Q < 9223372036854775808) (w : World) (hv : Hid (Vars w)) (hC : Hid (Sl w Cs cs)) (hK : Hid (Sl w Ks ks)) (hA : Hid (Sh w A l)) :
  Calls Tryz.prog 3 #[gv P Q G, fA need Cs cn cc Ks kn kc, .slice A n c] w (Rt w (.bool true)) := by
 cases hr : ou P Q G need cs ks with
 | false => exact EO P Q G need Cs cs cn cc Ks ks kn kc hcn hkn A l n c hn hlr (aa hr) hQ w hv hC hK hA
 | true =>
  have h1 : 1 ≤ need := (bV hr hcn.out hkn.out).2.2.2.2.1
  obtain ⟨m, rfl⟩ : ∃ k : Nat, need = (k : Int) := ⟨need.toNat, by omega⟩
  exact EN P Q G m Cs cs cn cc Ks ks kn kc hcn hkn A l n c hn hlr (aa hr) hQ w hv hC hK hA
end Go.Proofs.YtchcllcbknfikaaGreatDoor