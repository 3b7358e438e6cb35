/- Contracts and lemmas: BrJ, BrF, JoinA, JoinB, BrB, JoinC, BrK, Ped, BrG, BitsB, BrL. -/
import Derived.Deep.QuietTactic
import Derived.BigQuiet
import Derived.Deep.RegionHeld3
import Derived.Test.YtgbfhcfhopadaaaGreatDoorBc4
set_option linter.unusedVariables false
set_option linter.unusedSimpArgs false
set_option maxRecDepth 100000
set_option maxHeartbeats 25600000
namespace Go.Proofs.YtgbfhcfhopadaaaGreatDoor
open Go.RowKit ou
def MW (P Q b : Int) (ys : List Int) (n wh : Nat) (h : List Int) (c ch x : Int) (w : World) (e : Ending) (w' : World) : Prop :=
 ∃ (A C Z : Option Addr) (ca cc cz : Nat), e = .returned (.tuple #[yl A n ca C n cc Z n cz, .agg (ak h (iQ h Q c wh n)), .int .i64 0]) ∧ Sl w' A (qE P Q b ys h c wh n) ∧ Sl w' C ((vR h Q c wh n).set wh (mW h Q c wh n ch)) ∧ Sl w' Z ((GG h Q c wh n).set wh (rR h Q c wh n ch x)) ∧ Below w.heap.size w w' ∧ (∀ a, A = some a → w.heap.size ≤ a.block) ∧ (∀ a, C = some a → w.heap.size ≤ a.block) ∧ (∀ a, Z = some a → w.heap.size ≤ a.block)
theorem A8 (P Q G b : Int) (Y : Option Addr) (ys : List Int) (n yc : Nat) (wh : Nat) (x : Int) (s : ByteArray) (hs : s.size ≤ 1000) (hr : Hid (cZ (aO s) = true)) (h : List Int) (hl : Hid (h.length = 32)) (n_ : Hid (au h = true)) (c : Int) (c0 : 0 ≤ c) (c1 : c + 8192 ≤ 1099511627776)
  (hyn : Hid (ys.length = n)) (hgv : Hid (iJ P Q G b ys = 0)) (hwn : wh < n) (hx : Hid (bH Q x = true)) (hyx : Hid (ys.getD wh 0 = pw b x P)) (ch : Int) (hch : Kp (nE P Q G b (aO s) ys (qE P Q b ys h c wh n) = ch)) (hQ : Q < 9223372036854775808) (w : World) (hv : Hid (Vars w)) (hd : Hid (bu w)) (hY : Hid (Sl w Y ys)) :
  Calls Tryz.prog 30 #[gv P Q G, .int .i64 b, .slice Y n yc, .int .i64 (wh : Int), .int .i64 x, .string s, .agg (ak h c)] w (MW P Q b ys n wh h c ch x w) := by
 obtain ⟨GL, hy1, Im, Ld, hym⟩ := xN hgv.out
 obtain ⟨p1, p2, p3, p4⟩ := aJ GL
 rw [hyn.out] at hy1 Im
 have sU := aa GL
 have Kk := aa Ld
 have O8 := aa hym
 obtain ⟨i0, hi, hz0, hz1, hz2⟩ := info_parts jM
 have JG := aa hi
 clear GL Ld hym hi
 obtain ⟨W, hW⟩ : ∃ W, OY w P Q G h c = W := ⟨_, rfl⟩
 have HI0 : Hid (JS w P Q G h c W) := aa (by rw [← hW]; exact JS.start w P Q G h c)
 have HW := aa hW
 clear hW
 go_in
 go_upto_region 1 with (fail)
 rw [show (((w.alloc (bA P Q G)).alloc (.cells (ak h c) 29)).alloc (.cells #[.slice none 0 0, .slice none 0 0, .slice none 0 0] 63)).alloc (.cells #[.int .u8 0, .int .u8 0, .int .u8 0, .int .u8 0, .int .u8 0, .int .u8 0, .int .u8 0, .int .u8 0, .int .u8 0, .int .u8 0, .int .u8 0, .int .u8 0, .int .u8 0, .int .u8 0, .int .u8 0, .int .u8 0, .int .u8 0, .int .u8 0, .int .u8 0, .int .u8 0, .int .u8 0, .int .u8 0, .int .u8 0, .int .u8 0, .int .u8 0, .int .u8 0, .int .u8 0, .int .u8 0, .int .u8 0, .int .u8 0, .int .u8 0, .int .u8 0, .int .i64 0] 29) = W from HW.out]
 clear HW
 obtain ⟨g0, g1, g2⟩ := HI0.out.g
 go_wp2_with fail
 clear g0 g1 g2
 refine (kM P Q G b Y ys n yc 0 hgv hyn (by omega) hQ _ (aa (hv.out.below HI0.out.b)) (aa (hY.out.below HI0.out.b))).mono ?_
 rintro e w1 ⟨rfl, hb1⟩
 have HI1 := aa (HI0.out.below hb1)
 have JP := aa hb1
 clear hb1
 go_wp2_with fail
 refine (zi s hs hr _ (aa (hd.out.below HI1.out.b))).mono ?_
 rintro e w2 ⟨rfl, hb2⟩
 obtain ⟨S0, hS0⟩ : ∃ S, newL (aO s) = S := ⟨_, rfl⟩
 have Kc : Hid (S0.length = 32) := aa (by rw [← hS0]; exact (BQ _).1)
 rw [hS0, show DT S0 0 0 = .tuple #[.agg (ak S0 0), .int .i64 0] from rfl]
 have HI2 := aa (HI1.out.below hb2)
 have Bq := aa (ag JP.out hb2)
 clear hb2 hS0 HI1 JP
 have LJ : Hid (bX (w2.alloc (.cells #[.int .u8 0, .int .u8 0, .int .u8 0, .int .u8 0, .int .u8 0, .int .u8 0, .int .u8 0, .int .u8 0, .int .u8 0, .int .u8 0, .int .u8 0, .int .u8 0, .int .u8 0, .int .u8 0, .int .u8 0, .int .u8 0, .int .u8 0, .int .u8 0, .int .u8 0, .int .u8 0, .int .u8 0, .int .u8 0, .int .u8 0, .int .u8 0, .int .u8 0, .int .u8 0, .int .u8 0, .int .u8 0, .int .u8 0, .int .u8 0, .int .u8 0, .int .u8 0, .int .i64 0] 90)) w2.heap.size (aR 32) 0) := aa (by rw [nO]; exact heap_alloc_new _ _)
 have NN : Hid (Below w2.heap.size w2 ((w2.alloc (.cells #[.int .u8 0, .int .u8 0, .int .u8 0, .int .u8 0, .int .u8 0, .int .u8 0, .int .u8 0, .int .u8 0, .int .u8 0, .int .u8 0, .int .u8 0, .int .u8 0, .int .u8 0, .int .u8 0, .int .u8 0, .int .u8 0, .int .u8 0, .int .u8 0, .int .u8 0, .int .u8 0, .int .u8 0, .int .u8 0, .int .u8 0, .int .u8 0, .int .u8 0, .int .u8 0, .int .u8 0, .int .u8 0, .int .u8 0, .int .u8 0, .int .u8 0, .int .u8 0, .int .i64 0] 90)).setRow w2.heap.size (ak S0 0))) := aa (ah (af _ _) (Nat.le_refl _))
 go_upto_region 3 with ((with_reducible show wpList _ _ _ (⟨none, _, _, _, _, _⟩ :: _) _ _); refine wpList_store_row rfl 90 _ _ rfl w2.heap.size (ak S0 0) rfl rfl _ _ LJ.out (aY Kc.out) (aH (h := aR 32) (c := 0) rfl Kc.out) (ay _ _) ?_)
 obtain ⟨w3, hw3⟩ : ∃ u, (w2.alloc (.cells #[.int .u8 0, .int .u8 0, .int .u8 0, .int .u8 0, .int .u8 0, .int .u8 0, .int .u8 0, .int .u8 0, .int .u8 0, .int .u8 0, .int .u8 0, .int .u8 0, .int .u8 0, .int .u8 0, .int .u8 0, .int .u8 0, .int .u8 0, .int .u8 0, .int .u8 0, .int .u8 0, .int .u8 0, .int .u8 0, .int .u8 0, .int .u8 0, .int .u8 0, .int .u8 0, .int .u8 0, .int .u8 0, .int .u8 0, .int .u8 0, .int .u8 0, .int .u8 0, .int .i64 0] 90)).setRow w2.heap.size (ak S0 0) = u := ⟨_, rfl⟩
 rw [hw3] at NN ⊢
 have HI3 := aa (HI2.out.below NN.out)
 have Gc := aa (ag Bq.out NN.out)
 obtain ⟨tb, htb⟩ : ∃ t, w2.heap.size = t := ⟨_, rfl⟩
 rw [htb]
 clear hw3 LJ NN HI2 Bq htb
 have hdr : Hid (nS c = true) := aa (by simp [nS]; omega)
 go_wp2_with ((with_reducible show wpList _ _ _ (⟨some 46, _, _, _, _, _⟩ :: _) _ _); refine az (by rfl) 29 _ rfl (w.heap.size + 1) rfl _ _ _ _ HI3.out.d Tryz.underlying29 rfl (ai hl.out) ?_)
 refine (eH h hl c true hdr _).mono ?_
 rintro e w4 ⟨rfl, hb4⟩
 have HI4 := aa (HI3.out.below hb4)
 have MO := aa (ag Gc.out hb4)
 clear hb4 HI3 Gc
 obtain ⟨g0, g1, g2⟩ := HI4.out.g
 have e1 : decide (n ≤ wh) = false := by simp; omega
 go_wp2_with fail
 clear g0 g1 g2 e1
 refine (dB P Q G x true hx _).mono ?_
 rintro e w5 ⟨rfl, hb5⟩
 have nN := aa (HI4.out.below hb5)
 have MN := aa (ag MO.out hb5)
 have Pb := aa (hY.out.below nN.out.b)
 clear hb5 HI4 MO
 obtain ⟨yb, yo, IM, N7⟩ := Pb.out wh (by rw [hyn.out]; exact hwn)
 subst IM
 obtain ⟨yw, QF⟩ : ∃ y, ys.getD wh 0 = y := ⟨_, rfl⟩
 rw [QF] at N7 hyx
 have Rz := aa N7
 have hO : Hid (∀ u : World, Hid (Below w5.heap.size w5 u) → (u.cell? ⟨w.heap.size, 0, none⟩ = some (.int .i64 P) ∧ u.cell? ⟨w.heap.size, 1, none⟩ = some (.int .i64 Q) ∧ u.cell? ⟨w.heap.size, 2, none⟩ = some (.int .i64 G) ∧ u.cell? ⟨yb, yo + wh, none⟩ = some (.int .i64 yw))) := aa (fun u hu => by
  obtain ⟨a0, a1, a2⟩ := (nN.out.below hu.out).g
  exact ⟨a0, a1, a2, cell_below Rz.out hu.out⟩)
 have wi : (wh : Int) < (n : Int) := by omega
 go_upto_region 7 with (fail)
 clear N7 QF
 have hBx := aa (show ∀ u u2 : World, Hid (Below w5.heap.size w5 u) → Below u.heap.size u u2 → Hid (Below w5.heap.size w5 u2) from fun u u2 h1 h2 => vT h1 h2)
 have UD : Hid ((dz P 1 [b] [x] == yw) = true) := aa (by
  have e : dz P 1 [b] [x] = yw := by
   show 1 * pw b x P % P = yw
   rw [hyx.out, Int.one_mul, bV, Int.emod_emod_of_dvd _ (Int.dvd_refl P)]
  rw [e]; simp)
 refine uB [] (jQ w5) (fun hHeld => ?_)
 refine dN 0 1 2 3 ?_
 refine dY 4 ?_
 refine dY 5 ?_
 refine dY 7 ?_
 refine Qu fun a0 ha0 => ?_
 clear hHeld
 refine Kr [6, 8] [[], []] [[], []] 3 #[true, true, true, true, true, true, true, true, true, false, false, false] (fun bs a u => ∃ (o6 o8 : Bool) (g6 g8 : Nat), bs = [o6, o8] ∧ a = ((a0.put (some 80) (cond o6 (.slice (some ⟨g6, 0, none⟩) 1 1) undef)).put (some 82) (cond o8 (.slice (some ⟨g8, 0, none⟩) 1 1) undef)) ∧ Hid (Below w5.heap.size w5 u) ∧ (o6 = true → Hid (Sl u (some ⟨g6, 0, none⟩) [b])) ∧ (o8 = true → Hid (Sl u (some ⟨g8, 0, none⟩) [x]))) ?_ ?_ ⟨?_, ?_, trivial⟩
 · exact ⟨false, false, 0, 0, rfl, (by rw [ha0]; simp only [qq]; try rfl), vT (jQ w5) (Below.refl _ _).drew, fun e => (by cases e), fun e => (by cases e)⟩
 ·
  rintro bs a u hbs ⟨o6, o8, g6, g8, rfl, rfl, FB, y6, y8⟩
  obtain ⟨rfl, rfl⟩ : o6 = true ∧ o8 = true := by simpa using hbs
  have LZ := y6 rfl
  have mI := y8 rfl
  clear y6 y8
  have hHeld := FB
  rw [ha0]
  simp only [qq]
  refine dK 9 fun K hK => ?_
  go_simp
  refine (qV P Q G yw (some ⟨g6, 0, none⟩) [b] 1 1 (some ⟨g8, 0, none⟩) [x] 1 true UD (aa rfl) (aa rfl) (by omega) sU (aa (by simp [Kk.out])) (aa (by simp [hx.out])) hQ _ (aa (hv.out.below (nN.out.below hHeld.out).b)) LZ mI).mono ?_
  rintro e w6 ⟨rfl, hb6⟩
  refine hK.out _ _ (hBx.out _ _ hHeld hb6) (fun hHeld => ?_)
  clear hK K
  refine dY 10 ?_
  refine dY 11 ?_
  refine kT ?_
  clear hO hb6 LZ mI FB ha0
  have tu := aa (nN.out.below hHeld.out)
  have JO := aa (ag MN.out hHeld.out)
  have RA := aa (Pb.out.below hHeld.out)
  clear hHeld nN MN Pb Rz
  have HD6 := aa tu.out.d
  obtain ⟨g0, g1, g2⟩ := tu.out.g
  go_upto_region 10 with (first
   | ((with_reducible show wpList _ _ _ (⟨some 87, _, _, _, _, _⟩ :: _) _ _); refine wpList_load_row rfl 29 _ rfl (w.heap.size + 1) rfl _ _ _ _ HD6.out Tryz.underlying29 rfl (ai hl.out) ?_)
   | ((with_reducible show wpList _ _ _ (⟨some 90, _, _, _, _, _⟩ :: _) _ _); refine dX rfl 96 [(0, .tmp 87), (1, .tmp 89)] rfl _ (Jd h hl.out c Q) ?_))
  clear g0 g1 g2 HD6
  obtain ⟨w7, hw7⟩ : ∃ u, w6.alloc (.cells (wN h c Q 0) 96) = u := ⟨_, rfl⟩
  have GY : Hid (m_ w7 w6.heap.size h c Q 0) := aa (by rw [← hw7]; exact heap_alloc_new _ _)
  have rz : Below w6.heap.size w6 w7 := by rw [← hw7]; exact af _ _
  rw [hw7]
  obtain ⟨sb, hsb⟩ : ∃ b, w6.heap.size = b := ⟨_, rfl⟩
  have hWs : W.heap.size ≤ sb := by rw [← hsb]; exact JO.out.size
  have tq := aa (tu.out.below rz)
  have JN := aa (ag JO.out rz)
  have Uk := aa (RA.out.below rz)
  rw [hsb] at GY ⊢
  clear hw7 hsb rz tu JO RA
  have hsl : sb < w7.heap.size := GY.out.lt
  have hmk := fun W => run_make_row' (P := Tryz.prog) 37 3 (.int .i64 0) 8 Tryz.underlying37 jM rfl .i64 .i64 n (by omega) (by omega) W
  have hO : Hid (∀ u : World, Hid (Below w7.heap.size w7 u) → True) := aa (fun _ _ => trivial)
  have hn0 : 0 < n := by omega
  refine uB [] (jQ w7) (fun hHeld => ?_)
  refine dN 0 1 3 4 ?_
  refine Qu fun a0 ha0 => ?_
  clear hHeld
  refine Kr [2, 5, 6, 7] [[], [], [0, 1], []] [[2], [2], [], []] 1 #[true, true, true, true, true, true, true, true, false] (fun bs a u => ∃ (o2 o5 o6 o7 : Bool) (gC gZ gP : Nat), bs = [o2, o5, o6, o7] ∧ a = ((((a0.put (some 94) (cond o2 (.slice (some ⟨gC, 0, none⟩) n n) undef)).put (some 97) (cond o5 (.slice (some ⟨gZ, 0, none⟩) n n) undef)).put (some 98) (cond o6 (.agg #[.slice none 0 0, .slice (some ⟨gC, 0, none⟩) n n, .slice (some ⟨gZ, 0, none⟩) n n]) undef)).put (some 21) (cond o7 (.pointer (some ⟨gP, 0, none⟩)) undef)) ∧ Hid (tH w7 n o2 o5 o7 gC gZ gP u)) ?_ ?_ ⟨?_, ?_, ?_, ?_, trivial⟩
  · exact ⟨false, false, false, false, 0, 0, 0, rfl, (by rw [ha0]; simp only [qq]; try rfl), aa (tH.start w7 n)⟩
  ·
   rintro bs a u hbs ⟨o2, o5, o6, o7, gC, gZ, gP, rfl, rfl, FM⟩
   obtain ⟨rfl, rfl, rfl, rfl⟩ : o2 = true ∧ o5 = true ∧ o6 = true ∧ o7 = true := by simpa using hbs
   rw [ha0]
   simp only [qq]
   obtain ⟨Re, hC2⟩ := FM.out.c rfl
   obtain ⟨hZ1, hZ2⟩ := FM.out.z rfl
   obtain ⟨hP1, hP2⟩ := FM.out.p rfl
   have Rk := FM.out.cz rfl rfl
   have OX := FM.out.cp rfl rfl
   have OW := FM.out.zp rfl rfl
   have HB0 := aa FM.out.b
   have lC := FM.out.ltC hn0 rfl
   have lZ := FM.out.ltZ hn0 rfl
   have lP := FM.out.ltP rfl
   refine dK 8 fun K hK => ?_
   rw [show (if Region.wanted _ _ = true then _ else _ : Prop) = _ from if_pos rfl]
   refine wp_store_row 63 _ _ rfl gP #[.slice none 0 0, .slice (some ⟨gC, 0, none⟩) n n, .slice (some ⟨gZ, 0, none⟩) n n] rfl rfl 63 _ hP1 jN rfl (by simp [Value.oneCell']) ?_
   refine hK.out _ _ (aa (ah HB0.out hP2)) (fun hHeld => ?_)
   clear hK K
   refine kT ?_
   have PD : Hid ((u.setRow gP #[.slice none 0 0, .slice (some ⟨gC, 0, none⟩) n n, .slice (some ⟨gZ, 0, none⟩) n n]).heap[gP]? = some (.cells #[.slice none 0 0, .slice (some ⟨gC, 0, none⟩) n n, .slice (some ⟨gZ, 0, none⟩) n n] 63 (0, 0))) := aa (setRow_heap u gP _ _ _ _ hP1)
   have Qf : Hid (fF (u.setRow gP #[.slice none 0 0, .slice (some ⟨gC, 0, none⟩) n n, .slice (some ⟨gZ, 0, none⟩) n n]) gC n (fun _ => 0)) := aa (aL Re (setRow_other _ _ _ _ OX))
   have O7 : Hid (fF (u.setRow gP #[.slice none 0 0, .slice (some ⟨gC, 0, none⟩) n n, .slice (some ⟨gZ, 0, none⟩) n n]) gZ n (fun _ => 0)) := aa (aL hZ1 (setRow_other _ _ _ _ OW))
   have KS : (u.setRow gP #[.slice none 0 0, .slice (some ⟨gC, 0, none⟩) n n, .slice (some ⟨gZ, 0, none⟩) n n]).heap.size = u.heap.size := setRow_size _ _ _
   obtain ⟨w8, hw8⟩ : ∃ v, u.setRow gP #[.slice none 0 0, .slice (some ⟨gC, 0, none⟩) n n, .slice (some ⟨gZ, 0, none⟩) n n] = v := ⟨_, rfl⟩
   rw [hw8] at PD Qf O7 hHeld KS ⊢
   have TS := JN.out.size
   have HD : Hid (Kl W sb gP gC gZ w8.heap.size) := aa ⟨hWs, by omega, by omega, by omega, by have := hHeld.out.size; omega, by omega, by omega, by omega, by omega, by omega, by omega, Ne.symm OX, Ne.symm OW, Rk⟩
   have PV : Hid (qH W sb gP gC gZ w8.heap.size h Q (iQ h Q c wh 0) n none 0 0 (qE P Q b ys h c wh 0) (fun j => if j < 0 then tO h Q c wh j else 0) (fun j => if j < 0 then tN h Q c wh j else 0) w8) := aa ⟨ag JN.out hHeld.out, GY.out.below hHeld.out, PD.out, World.ownsRow_nil _ _ _ _, di Qf.out (fun j _ => (if_neg (by omega)).symm), di O7.out (fun j _ => (if_neg (by omega)).symm), Nat.le_refl _⟩
   obtain ⟨B, hB⟩ : ∃ B, w8.heap.size = B := ⟨_, rfl⟩
   rw [hB] at HD PV
   have Ry : Hid (Sl W (some ⟨yb, yo, none⟩) ys) := aa (hY.out.below HI0.out.b)
   clear hw8 hHeld KS TS PD Qf O7 HB0 Re hC2 hZ1 hZ2 hP1 hP2 Rk OX OW lC lZ lP FM ha0 hO hmk tq JN Uk GY hsl hWs hB
   go_wp2
   go_loopw [22, 101] (fun vk vi u => ∃ (i : Nat) (A : Option Addr) (ca : Nat) (kv : Int), i ≤ n ∧ vi = .int .i64 i ∧ vk = .int .i64 kv ∧ Hid ((if wh < i then Es h Q c wh else 0) = kv) ∧ Hid (qH W sb gP gC gZ B h Q (iQ h Q c wh i) n A i ca (qE P Q b ys h c wh i) (fun j => if j < i then tO h Q c wh j else 0) (fun j => if j < i then tN h Q c wh j else 0) u)) (fun _ vi _ => n - (intOf vi).toNat)
   case atStart => exact ⟨0, none, 0, 0, by omega, rfl, rfl, aa (if_neg (by omega)), PV⟩
   case round =>
    obtain ⟨i, A, ca, kv, hi, rfl, rfl, PS, HJ⟩ := hrel
    by_cases hlt : i < n
    ·
     obtain ⟨SK, SI, IM, hyi⟩ := (Ry.out.below HJ.out.b) i (by rw [hyn.out]; exact hlt)
     obtain ⟨rfl, rfl⟩ : yb = SK ∧ yo = SI := by injection IM with e1; injection e1 with e1 e2; exact ⟨e1, e2⟩
     have hym : av P Q (ys.getD i 0) = true := by
      have h1 := O8.out
      rw [List.all_eq_true] at h1
      rw [List.getD_eq_getElem?_getD, List.getElem?_eq_getElem (by rw [hyn.out]; exact hlt)]
      exact h1 _ (List.getElem_mem _)
     have O_ := aa hym
     have hcs := pV (h := h) (q := Q) (c := c) (wh := wh) i (by omega)
     have wK : Hid (∀ u : World, Hid (Below W.heap.size W u) → kR u w.heap.size P Q G) := aa (fun u hu => HI0.out.g.below hu.out)
     have ii : (i : Int) < (n : Int) := by omega
     obtain ⟨y, hy⟩ : ∃ y, ys.getD i 0 = y := ⟨_, rfl⟩
     rw [hy] at hyi O_
     have hy0 := aa hy
     clear IM hym hy
     by_cases hwi : i = wh
     ·
      subst hwi
      have t1 : (i == i) = true := by simp
      go_upto_region 15 with (fail)
      go_wp2_with fail
      clear hyi t1
      refine (oL h hl n_ (iQ h Q c i i) Q (by omega) (by omega) (by omega) (by omega) sb _ (aa (hd.out.below (ag HI0.out.b HJ.out.b))) (aa HJ.out.s)).mono ?_
      rintro e u1 ⟨rfl, hs1, hg1⟩
      have NH := aa (HJ.out.next HD.out hs1 hg1)
      have HKK : Hid (tL h Q (iQ h Q c i i) = Es h Q c i) := aa rfl
      have hkr := gN (h := h) (q := Q) (c := iQ h Q c i i) (by omega)
      obtain ⟨kw, QU⟩ : ∃ z, tL h Q (iQ h Q c i i) = z := ⟨_, rfl⟩
      rw [QU] at HKK hkr ⊢
      clear hs1 hg1 QU HJ
      obtain ⟨VV, Lj⟩ : ∃ z, gp P Q b y 0 kw = z := ⟨_, rfl⟩
      have LH := aa Lj
      have SC : Hid (bH Q 0 = true) := aa (by simp [bH]; omega)
      have SZ : Hid (bH Q kw = true) := aa (by simp [bH]; omega)
      have EC : (fun j => if j < i then tO h Q c i j else 0) i = 0 := if_neg (by omega)
      have EZ : (fun j => if j < i then tN h Q c i j else 0) i = 0 := if_neg (by omega)
      have tQ := aa (NH.out.below HD.out ((Below.refl u1.heap.size u1).drew))
      have hO : Hid (∀ u : World, Hid (nV w P Q G gP gC gZ n A i ca i 0 0 u) → (u.cell? ⟨w.heap.size, 0, none⟩ = some (.int .i64 P) ∧ u.cell? ⟨w.heap.size, 1, none⟩ = some (.int .i64 Q) ∧ u.cell? ⟨w.heap.size, 2, none⟩ = some (.int .i64 G) ∧ u.cell? ⟨gP, 0, none⟩ = some (.slice A i ca) ∧ u.cell? ⟨gP, 1, none⟩ = some (.slice (some ⟨gC, 0, none⟩) n n) ∧ u.cell? ⟨gP, 2, none⟩ = some (.slice (some ⟨gZ, 0, none⟩) n n) ∧ u.cell? ⟨gC, i, none⟩ = some (.int .i64 0) ∧ u.cell? ⟨gZ, i, none⟩ = some (.int .i64 0))) := aa (fun u hu => hu.out.cells)
      go_upto_region 17 with (fail)
      clear Lj
      refine Co (fun u => nV w P Q G gP gC gZ n A i ca i 0 0 u) [10] (aa (nV.of tQ.out (wK.out _ (aa tQ.out.b)) hlt EC EZ)) (fun hHeld => ?_)
      refine dN 0 1 2 3 ?_
      refine dY 4 ?_
      refine dY 5 ?_
      refine dK 6 fun K hK => ?_
      go_simp
      refine (pU P Q G b y 0 kw VV LH sU Kk O_ SC SZ _ (aa (hv.out.below (ag HI0.out.b tQ.out.b)))).mono ?_
      rintro e u2 ⟨rfl, hb2⟩
      have HJ2 := aa (tQ.out.below HD.out hb2)
      refine hK.out _ _ (aa (nV.of HJ2.out (wK.out _ (aa HJ2.out.b)) hlt EC EZ)) (fun hHeld => ?_)
      clear hK K hb2
      refine dK 7 fun K hK => ?_
      go_simp
      have sZ := aa (HJ2.out.below HD.out (af u2 (.cells #[.int .i64 VV] 3)))
      have F8 : Hid (∀ j v, [Value.int .i64 VV][j]? = some v → (u2.alloc (.cells #[.int .i64 VV] 3)).cell? ((⟨u2.heap.size, 0, none⟩ : Addr).add j) = some v) := aa (World.news_of_block (cs := #[.int .i64 VV]) (t := 3) (fr := (0, 0)) (heap_alloc_new u2 _))
      refine hK.out _ _ (aa (nV.of sZ.out (wK.out _ (aa sZ.out.b)) hlt EC EZ)) (fun hHeld => ?_)
      clear hK K HJ2
      obtain ⟨u3, hu3⟩ : ∃ v, u2.alloc (.cells #[.int .i64 VV] 3) = v := ⟨_, rfl⟩
      obtain ⟨g8, K7⟩ : ∃ v, u2.heap.size = v := ⟨_, rfl⟩
      rw [hu3] at sZ F8 hHeld ⊢
      rw [K7] at F8 ⊢
      clear hu3 K7
      have IU := sZ.out.z
      have Gt : w.heap.size < B := by have := HI0.out.z; have := HD.out.w1; have := HD.out.l1; omega
      have Ov : i ≤ 16 := by omega
      try simp only [qq]
      refine dK 8 fun K hK => ?_
      refine step_append_lies _ (by rfl) _ _ _ (by rfl) B 3 i0 _ 1 8 Tryz.underlying37 JG.out hz0 hz1 hz2 rfl (by omega) (.slice A i ca) i ((qE P Q b ys h c i i).map (Value.int .i64)) (by rfl) sZ.out.a ⟨g8, 0, none⟩ 1 1 [.int .i64 VV] (by rfl) (by rfl) F8.out (ints_oneCell .i64 [VV]) (by omega) (by unfold maxLen; omega) (by omega) IU u3.heap.size rfl ?_
      intro gX cX uN hown1 hgrow1 hgg hlt1
      have D8 := aa (hHeld.out.grown hgrow1 (fun j e => (World.ownsRow.lt sZ.out.a j e).1) Gt HD.out.l2 HD.out.l3 HD.out.l4 IU)
      have Mm := aa (sZ.out.app HD.out hown1 hgrow1)
      refine hK.out _ _ D8 (fun hHeld => ?_)
      clear hK K hown1 hgrow1 hgg hlt1 IU F8
      try simp only [qq]
      refine dY 9 ?_
      have E8 := aj D8.out.p 0
      have H9 := aP D8.out.p 0
      refine En 10 fun K hK => ?_
      go_simp
      refine hK.out _ _ ?_
      clear hK K E8 H9 D8 hHeld
      try simp only [qq]
      refine kT ?_
      clear hO
      have MS : Jb P Q b ys h c i i = VV := by rw [Jb, if_pos rfl, hy0.out, ← HKK.out, LH.out]
      have Ml := aa (Mm.out.congr (cnt' := iQ h Q c i (i + 1)) (al' := qE P Q b ys h c i (i + 1)) (fC' := fun j => if j < i + 1 then tO h Q c i j else 0) (fZ' := fun j => if j < i + 1 then tN h Q c i j else 0) (by rw [iQ, if_pos rfl]) (by rw [vS, MS]) (fun j hj => by
       by_cases e : j < i
       · rw [if_pos e, if_pos (by omega)]
       ·
        rw [if_neg e]
        by_cases e2 : j < i + 1
        ·
         obtain rfl : j = i := by omega
         rw [if_pos e2, tO, if_pos rfl]
        · rw [if_neg e2]) (fun j hj => by
       by_cases e : j < i
       · rw [if_pos e, if_pos (by omega)]
       ·
        rw [if_neg e]
        by_cases e2 : j < i + 1
        ·
         obtain rfl : j = i := by omega
         rw [if_pos e2, tN, if_pos rfl]
        · rw [if_neg e2]))
      obtain ⟨uZ, KP⟩ : ∃ v, uN.setCell ⟨gP, 0, none⟩ (.slice (some ⟨gX, 0, none⟩) (i + 1) cX) = v := ⟨_, rfl⟩
      rw [KP] at Ml ⊢
      have PR : Hid ((if i < i + 1 then Es h Q c i else 0) = kw) := aa (by rw [if_pos (by omega), ← HKK.out])
      clear KP Mm sZ NH tQ MS
      go_wp2
      go_roundw
      case rel => exact ⟨i + 1, some ⟨gX, 0, none⟩, cX, kw, by omega, by go_num, rfl, PR, Ml⟩
      case measure => simp [intOf]; omega
     ·
      have t1 : (i == wh) = false := by simp; omega
      have LG := aa hwi
      have SH : (fun j => if j < i then tO h Q c wh j else 0) i = 0 := if_neg (by omega)
      have NS : (fun j => if j < i then tN h Q c wh j else 0) i = 0 := if_neg (by omega)
      have d1 := kK (h := h) (q := Q) (c := iQ h Q c wh i) (by omega)
      clear hwi
      go_upto_region 18 with (fail)
      have Bp := aa (HJ.out.below HD.out ((Below.refl wr.heap.size wr).drew))
      have hO : Hid (∀ u : World, Hid (nV w P Q G gP gC gZ n A i ca i 0 0 u) → (u.cell? ⟨w.heap.size, 0, none⟩ = some (.int .i64 P) ∧ u.cell? ⟨w.heap.size, 1, none⟩ = some (.int .i64 Q) ∧ u.cell? ⟨w.heap.size, 2, none⟩ = some (.int .i64 G) ∧ u.cell? ⟨gP, 0, none⟩ = some (.slice A i ca) ∧ u.cell? ⟨gP, 1, none⟩ = some (.slice (some ⟨gC, 0, none⟩) n n) ∧ u.cell? ⟨gP, 2, none⟩ = some (.slice (some ⟨gZ, 0, none⟩) n n) ∧ u.cell? ⟨gC, i, none⟩ = some (.int .i64 0) ∧ u.cell? ⟨gZ, i, none⟩ = some (.int .i64 0))) := aa (fun u hu => hu.out.cells)
      refine Co (fun u => nV w P Q G gP gC gZ n A i ca i 0 0 u) [6] (aa (nV.of Bp.out (wK.out _ (aa Bp.out.b)) hlt SH NS)) (fun hHeld => ?_)
      refine dN 0 1 2 3 ?_
      refine dK 4 fun K hK => ?_
      go_simp
      refine (oL h hl n_ (iQ h Q c wh i) Q (by omega) (by omega) (by omega) (by omega) sb _ (aa (hd.out.below (ag HI0.out.b Bp.out.b))) (aa Bp.out.s)).mono ?_
      rintro e u1 ⟨rfl, hs1, hg1⟩
      have Mj := aa (Bp.out.next HD.out hs1 hg1)
      have KX := gN (h := h) (q := Q) (c := iQ h Q c wh i) (by omega)
      obtain ⟨cv, hcv⟩ : ∃ z, tL h Q (iQ h Q c wh i) = z := ⟨_, rfl⟩
      have Ug := aa hcv
      rw [hcv] at KX ⊢
      have z_ := aa (nV.of Mj.out (wK.out _ (aa Mj.out.b)) hlt SH NS)
      refine hK.out _ _ z_ (fun hHeld => ?_)
      clear hK K hs1 hg1 hcv
      try simp only [qq]
      refine dY 5 ?_
      have E8 := z_.out.c
      have H9 := Mj.out.C.2 i
      refine En 6 fun K hK => ?_
      go_simp
      refine hK.out _ _ ?_
      clear hK K E8 H9 z_ hHeld
      try simp only [qq]
      refine kT ?_
      clear hO
      have PU := aa (Mj.out.setC HD.out hlt cv)
      obtain ⟨Qt, KR⟩ : ∃ v, u1.setCell ⟨gC, i, none⟩ (.int .i64 cv) = v := ⟨_, rfl⟩
      rw [KR] at PU ⊢
      clear KR Mj Bp HJ
      have MV : (fun j => if j = i then cv else (if j < i then tO h Q c wh j else 0)) i = cv := if_pos rfl
      go_upto_region 19 with (fail)
      have rO := aa (PU.out.below HD.out ((Below.refl Qt.heap.size Qt).drew))
      have hO : Hid (∀ u : World, Hid (nV w P Q G gP gC gZ n A i ca i cv 0 u) → (u.cell? ⟨w.heap.size, 0, none⟩ = some (.int .i64 P) ∧ u.cell? ⟨w.heap.size, 1, none⟩ = some (.int .i64 Q) ∧ u.cell? ⟨w.heap.size, 2, none⟩ = some (.int .i64 G) ∧ u.cell? ⟨gP, 0, none⟩ = some (.slice A i ca) ∧ u.cell? ⟨gP, 1, none⟩ = some (.slice (some ⟨gC, 0, none⟩) n n) ∧ u.cell? ⟨gP, 2, none⟩ = some (.slice (some ⟨gZ, 0, none⟩) n n) ∧ u.cell? ⟨gC, i, none⟩ = some (.int .i64 cv) ∧ u.cell? ⟨gZ, i, none⟩ = some (.int .i64 0))) := aa (fun u hu => hu.out.cells)
      refine Co (fun u => nV w P Q G gP gC gZ n A i ca i cv 0 u) [6] (aa (nV.of rO.out (wK.out _ (aa rO.out.b)) hlt MV NS)) (fun hHeld => ?_)
      refine dN 0 1 2 3 ?_
      refine dK 4 fun K hK => ?_
      go_simp
      refine (oL h hl n_ (qB h Q (iQ h Q c wh i)) Q (by omega) (by omega) (by omega) (by omega) sb _ (aa (hd.out.below (ag HI0.out.b rO.out.b))) (aa rO.out.s)).mono ?_
      rintro e u2 ⟨rfl, hs1, hg1⟩
      have Eb := aa (rO.out.next HD.out hs1 hg1)
      have KW := gN (h := h) (q := Q) (c := qB h Q (iQ h Q c wh i)) (by omega)
      obtain ⟨zv, hzv⟩ : ∃ z, tL h Q (qB h Q (iQ h Q c wh i)) = z := ⟨_, rfl⟩
      have Uf := aa hzv
      rw [hzv] at KW ⊢
      have z_ := aa (nV.of Eb.out (wK.out _ (aa Eb.out.b)) hlt MV NS)
      refine hK.out _ _ z_ (fun hHeld => ?_)
      clear hK K hs1 hg1 hzv
      try simp only [qq]
      refine dY 5 ?_
      have E8 := z_.out.z
      have H9 := Eb.out.Z.2 i
      refine En 6 fun K hK => ?_
      go_simp
      refine hK.out _ _ ?_
      clear hK K E8 H9 z_ hHeld
      try simp only [qq]
      refine kT ?_
      clear hO
      have Mi := aa (Eb.out.setZ HD.out hlt zv)
      obtain ⟨Qs, KQ⟩ : ∃ v, u2.setCell ⟨gZ, i, none⟩ (.int .i64 zv) = v := ⟨_, rfl⟩
      rw [KQ] at Mi ⊢
      clear KQ Eb rO PU
      have Qq : (fun j => if j = i then zv else (if j < i then tN h Q c wh j else 0)) i = zv := if_pos rfl
      obtain ⟨VV, Lj⟩ : ∃ z, gp P Q b y cv zv = z := ⟨_, rfl⟩
      have LH := aa Lj
      have SC : Hid (bH Q cv = true) := aa (by simp [bH]; omega)
      have SZ : Hid (bH Q zv = true) := aa (by simp [bH]; omega)
      have tQ := aa (Mi.out.below HD.out ((Below.refl Qs.heap.size Qs).drew))
      have hO : Hid (∀ u : World, Hid (nV w P Q G gP gC gZ n A i ca i cv zv u) → (u.cell? ⟨w.heap.size, 0, none⟩ = some (.int .i64 P) ∧ u.cell? ⟨w.heap.size, 1, none⟩ = some (.int .i64 Q) ∧ u.cell? ⟨w.heap.size, 2, none⟩ = some (.int .i64 G) ∧ u.cell? ⟨gP, 0, none⟩ = some (.slice A i ca) ∧ u.cell? ⟨gP, 1, none⟩ = some (.slice (some ⟨gC, 0, none⟩) n n) ∧ u.cell? ⟨gP, 2, none⟩ = some (.slice (some ⟨gZ, 0, none⟩) n n) ∧ u.cell? ⟨gC, i, none⟩ = some (.int .i64 cv) ∧ u.cell? ⟨gZ, i, none⟩ = some (.int .i64 zv))) := aa (fun u hu => hu.out.cells)
      go_upto_region 20 with (fail)
      clear Lj
      refine Co (fun u => nV w P Q G gP gC gZ n A i ca i cv zv u) [19] (aa (nV.of tQ.out (wK.out _ (aa tQ.out.b)) hlt MV Qq)) (fun hHeld => ?_)
      refine dN 0 1 2 3 ?_
      refine dN 4 5 6 7 ?_
      refine dN 8 9 10 11 ?_
      refine dY 12 ?_
      refine dY 13 ?_
      refine dY 14 ?_
      refine dK 15 fun K hK => ?_
      go_simp
      refine (pU P Q G b y cv zv VV LH sU Kk O_ SC SZ _ (aa (hv.out.below (ag HI0.out.b tQ.out.b)))).mono ?_
      rintro e u2 ⟨rfl, hb2⟩
      have HJ2 := aa (tQ.out.below HD.out hb2)
      refine hK.out _ _ (aa (nV.of HJ2.out (wK.out _ (aa HJ2.out.b)) hlt MV Qq)) (fun hHeld => ?_)
      clear hK K hb2
      refine dK 16 fun K hK => ?_
      go_simp
      have sZ := aa (HJ2.out.below HD.out (af u2 (.cells #[.int .i64 VV] 3)))
      have F8 : Hid (∀ j v, [Value.int .i64 VV][j]? = some v → (u2.alloc (.cells #[.int .i64 VV] 3)).cell? ((⟨u2.heap.size, 0, none⟩ : Addr).add j) = some v) := aa (World.news_of_block (cs := #[.int .i64 VV]) (t := 3) (fr := (0, 0)) (heap_alloc_new u2 _))
      refine hK.out _ _ (aa (nV.of sZ.out (wK.out _ (aa sZ.out.b)) hlt MV Qq)) (fun hHeld => ?_)
      clear hK K HJ2
      obtain ⟨u3, hu3⟩ : ∃ v, u2.alloc (.cells #[.int .i64 VV] 3) = v := ⟨_, rfl⟩
      obtain ⟨g8, K7⟩ : ∃ v, u2.heap.size = v := ⟨_, rfl⟩
      rw [hu3] at sZ F8 hHeld ⊢
      rw [K7] at F8 ⊢
      clear hu3 K7
      have IU := sZ.out.z
      have Gt : w.heap.size < B := by have := HI0.out.z; have := HD.out.w1; have := HD.out.l1; omega
      have Ov : i ≤ 16 := by omega
      try simp only [qq]
      refine dK 17 fun K hK => ?_
      refine step_append_lies _ (by rfl) _ _ _ (by rfl) B 3 i0 _ 1 8 Tryz.underlying37 JG.out hz0 hz1 hz2 rfl (by omega) (.slice A i ca) i ((qE P Q b ys h c wh i).map (Value.int .i64)) (by rfl) sZ.out.a ⟨g8, 0, none⟩ 1 1 [.int .i64 VV] (by rfl) (by rfl) F8.out (ints_oneCell .i64 [VV]) (by omega) (by unfold maxLen; omega) (by omega) IU u3.heap.size rfl ?_
      intro gX cX uN hown1 hgrow1 hgg hlt1
      have D8 := aa (hHeld.out.grown hgrow1 (fun j e => (World.ownsRow.lt sZ.out.a j e).1) Gt HD.out.l2 HD.out.l3 HD.out.l4 IU)
      have Mm := aa (sZ.out.app HD.out hown1 hgrow1)
      refine hK.out _ _ D8 (fun hHeld => ?_)
      clear hK K hown1 hgrow1 hgg hlt1 IU F8
      try simp only [qq]
      refine dY 18 ?_
      have E8 := aj D8.out.p 0
      have H9 := aP D8.out.p 0
      refine En 19 fun K hK => ?_
      go_simp
      refine hK.out _ _ ?_
      clear hK K E8 H9 D8 hHeld
      try simp only [qq]
      refine kT ?_
      clear hO
      have Qd : tO h Q c wh i = cv := by rw [tO, if_neg LG.out, Ug.out]
      have O6 : tN h Q c wh i = zv := by rw [tN, if_neg LG.out, Uf.out]
      have MS : Jb P Q b ys h c wh i = VV := by rw [Jb, if_neg LG.out, hy0.out, Qd, O6, LH.out]
      have Ml := aa (Mm.out.congr (cnt' := iQ h Q c wh (i + 1)) (al' := qE P Q b ys h c wh (i + 1)) (fC' := fun j => if j < i + 1 then tO h Q c wh j else 0) (fZ' := fun j => if j < i + 1 then tN h Q c wh j else 0) (by rw [iQ, if_neg LG.out]) (by rw [vS, MS]) (fun j hj => by
       by_cases e : j = i
       ·
        subst e
        rw [if_pos rfl, if_pos (by omega), Qd]
       ·
        rw [if_neg e]
        by_cases e2 : j < i
        · rw [if_pos e2, if_pos (by omega)]
        · rw [if_neg e2, if_neg (by omega)]) (fun j hj => by
       by_cases e : j = i
       ·
        subst e
        rw [if_pos rfl, if_pos (by omega), O6]
       ·
        rw [if_neg e]
        by_cases e2 : j < i
        · rw [if_pos e2, if_pos (by omega)]
        · rw [if_neg e2, if_neg (by omega)]))
      obtain ⟨uZ, KP⟩ : ∃ v, uN.setCell ⟨gP, 0, none⟩ (.slice (some ⟨gX, 0, none⟩) (i + 1) cX) = v := ⟨_, rfl⟩
      rw [KP] at Ml ⊢
      have PR : Hid ((if wh < i + 1 then Es h Q c wh else 0) = kv) := aa (by
       rw [← PS.out]
       by_cases e : wh < i
       · rw [if_pos e, if_pos (by omega)]
       · rw [if_neg e, if_neg (by have := LG.out; omega)])
      clear KP Mm sZ tQ MS Qd O6
      go_wp2
      go_roundw
      case rel => exact ⟨i + 1, some ⟨gX, 0, none⟩, cX, kv, by omega, by go_num, rfl, PR, Ml⟩
      case measure => simp [intOf]; omega
    ·
     have hke : i = n := by omega
     subst hke
     have HK : Hid (Es h Q c wh = kv) := aa (by rw [← PS.out, if_pos hwn])
     have hcs := pV (h := h) (q := Q) (c := c) (wh := wh) i (by omega)
     have wK : Hid (∀ u : World, Hid (Below W.heap.size W u) → kR u w.heap.size P Q G) := aa (fun u hu => HI0.out.g.below hu.out)
     have hal : (qE P Q b ys h c wh i).length = i := sK _ _ _ _ _ _ _ _
     obtain ⟨e1, e2⟩ := HJ.out.s.ce hl.out
     have E8 := aj HJ.out.p 0
     obtain ⟨g0, g1, g2⟩ := wK.out _ (aa HJ.out.b)
     have ED := aa hal
     have JX := aa (zB sU.out)
     have JW : Hid (xC (b :: ys)) := aa (nX (Q := Q) p2 (by rw [List.length_cons, hyn.out]; omega) (by rw [List.all_cons, Kk.out, O8.out]; rfl))
     have JY : Hid (xC (qE P Q b ys h c wh i)) := aa (nX (Q := Q) p2 (by rw [hal]; omega) (by
      rw [List.all_eq_true]
      intro z hz
      rw [qE, List.mem_map] at hz
      obtain ⟨j, hj, rfl⟩ := hz
      have hjn : j < i := by simpa using hj
      have hym : av P Q (ys.getD j 0) = true := by
       have h1 := O8.out
       rw [List.all_eq_true] at h1
       rw [List.getD_eq_getElem?_getD, List.getElem?_eq_getElem (by rw [hyn.out]; exact hjn)]
       exact h1 _ (List.getElem_mem _)
      rw [Jb]
      by_cases e : j = wh
      · rw [if_pos e]; exact jO p1 (by omega) Kk.out hym (gN (by omega)).1
      · rw [if_neg e]; exact jO p1 (by omega) Kk.out hym (je (Dy (by omega)))))
     clear hal PS hlt hi
     go_wp2_with fail
     clear e1 e2 E8 g0 g1 g2
     refine (vP P Q G b (some ⟨yb, yo, none⟩) ys i yc A (qE P Q b ys h c wh i) i ca s hs hr hyn hy1 (by omega) ED JX JW JY (by omega) (by omega) ch hch _ (aa (hd.out.below (ag HI0.out.b HJ.out.b))) (aa (Ry.out.below HJ.out.b)) (aa (r_ HJ.out.a ED.out))).mono ?_
     rintro e ua ⟨rfl, hba⟩
     have Mk := aa (HJ.out.below HD.out hba)
     clear hba HJ JX JW JY
     go_upto_region 25 with (fail)
     have hcr : 0 ≤ ch ∧ ch < Q := by rw [← hch.1]; exact vK (by omega) _ _ _
     have iY := zk (Q := Q) (by omega) (vR h Q c wh i) 0 (by omega) (by omega)
     obtain ⟨s0, hs0⟩ : ∃ z, gW Q 0 (vR h Q c wh i) = z := ⟨_, rfl⟩
     rw [hs0] at iY
     have F7 := aa hs0
     obtain ⟨F, hF⟩ : ∃ z, (ch - s0 + Q) % Q = z := ⟨_, rfl⟩
     have HF : Hid (mW h Q c wh i ch = F) := aa (by rw [mW, F7.out, ← hF, Int.add_emod_right])
     have Rc : 0 ≤ F ∧ F < Q := by rw [← hF]; exact ⟨Int.emod_nonneg _ (by omega), Int.emod_lt_of_pos _ (by omega)⟩
     have NK := aa hF
     have N8 := hx.out
     have x0 := je N8
     have x1 := oM N8
     obtain ⟨zp, NY⟩ : ∃ z, F * x % Q = z := ⟨_, rfl⟩
     have Rq := aa NY
     have QE : 0 ≤ zp ∧ zp < Q := by rw [← NY]; exact ⟨Int.emod_nonneg _ (by omega), Int.emod_lt_of_pos _ (by omega)⟩
     obtain ⟨zz, hzz⟩ : ∃ z, (kv + zp) % Q = z := ⟨_, rfl⟩
     have Rp := aa hzz
     have hkr : 0 ≤ kv ∧ kv < Q := by rw [← HK.out]; exact gN (by omega)
     have MC : Hid ((vR h Q c wh i).length = i) := aa (l6 _ _ _ _ _)
     have J_ : Hid (Sl ua (some ⟨gC, 0, none⟩) (vR h Q c wh i)) := aa (rW Mk.out.C MC.out (fun j hj => by rw [if_pos hj, vR, rX _ hj]))
     have hO : Hid (∀ u : World, Hid (Below ua.heap.size ua u) → (u.cell? ⟨w.heap.size, 0, none⟩ = some (.int .i64 P) ∧ u.cell? ⟨w.heap.size, 1, none⟩ = some (.int .i64 Q) ∧ u.cell? ⟨w.heap.size, 2, none⟩ = some (.int .i64 G) ∧ u.cell? ⟨gP, 0, none⟩ = some (.slice A i ca) ∧ u.cell? ⟨gP, 1, none⟩ = some (.slice (some ⟨gC, 0, none⟩) i i) ∧ u.cell? ⟨gP, 2, none⟩ = some (.slice (some ⟨gZ, 0, none⟩) i i))) := aa (fun u hu => by
      have hj := Mk.out.below HD.out hu.out
      obtain ⟨a0, a1, a2⟩ := wK.out _ (aa hj.b)
      exact ⟨a0, a1, a2, aj hj.p 0, aj hj.p 1, aj hj.p 2⟩)
     clear hs0 hF NY hzz N8
     refine uB [] (jQ ua) (fun hHeld => ?_)
     refine dN 0 1 2 3 ?_
     refine dY 5 ?_
     refine dY 6 ?_
     refine dK 4 fun K hK => ?_
     go_simp
     refine (zO P Q G (some ⟨gC, 0, none⟩) (vR h Q c wh i) i i s0 F7 MC (by omega) (aa (Ja (by omega) i)) (by omega) (by omega) _ (aa (J_.out.below hHeld.out))).mono ?_
     rintro e ub ⟨rfl, hbb⟩
     refine hK.out _ _ (vT hHeld hbb) (fun hHeld => ?_)
     clear hK K hbb
     try simp only [qq]
     refine dK 7 fun K hK => ?_
     go_simp
     refine (tX ch s0 Q F NK (by omega) hcr.1 hcr.2 iY.1 iY.2 _).mono ?_
     rintro e Vj ⟨rfl, rfl⟩
     refine hK.out _ _ hHeld (fun hHeld => ?_)
     clear hK K
     try simp only [qq]
     refine dN 8 9 10 11 ?_
     refine kT ?_
     have UQ := aa (Mk.out.below HD.out hHeld.out)
     obtain ⟨g0, g1, g2, O3, O1, O0⟩ := hO.out _ hHeld
     go_wp2_with fail
     clear g0 g1 g2 O3 O1 O0
     refine (zh F x Q zp Rq (by omega) Rc.1 Rc.2 x0 x1 _).mono ?_
     rintro e uc ⟨rfl, nq, rfl⟩
     have jw : Hid (Below ua.heap.size ua (ub.drewN nq)) := aa (ax hHeld.out nq)
     obtain ⟨uc, huc⟩ : ∃ v, ub.drewN nq = v := ⟨_, rfl⟩
     rw [huc] at jw ⊢
     clear huc hHeld UQ
     obtain ⟨g0, g1, g2, O3, O1, O0⟩ := hO.out _ jw
     go_wp2_with fail
     clear g0 g1 g2 O3 O1 O0
     refine (BH kv zp Q zz Rp (by omega) hkr.1 hkr.2 QE.1 QE.2 _).mono ?_
     rintro e ud ⟨rfl, rfl⟩
     have Sc := aa (Mk.out.below HD.out jw.out)
     clear jw Mk J_ hO
     go_upto_region 28 with (fail)
     have tQ := aa (Sc.out.below HD.out ((Below.refl uc.heap.size uc).drew))
     have hO : Hid (∀ u : World, Hid (u.heap[gP]? = some (.cells #[.slice A i ca, .slice (some ⟨gC, 0, none⟩) i i, .slice (some ⟨gZ, 0, none⟩) i i] 63 (0, 0))) → (u.cell? ⟨gP, 0, none⟩ = some (.slice A i ca) ∧ u.cell? ⟨gP, 1, none⟩ = some (.slice (some ⟨gC, 0, none⟩) i i) ∧ u.cell? ⟨gP, 2, none⟩ = some (.slice (some ⟨gZ, 0, none⟩) i i))) := aa (fun u hu => ⟨aj hu.out 0, aj hu.out 1, aj hu.out 2⟩)
     have wi : (wh : Int) < (i : Int) := by omega
     refine Co (fun u => u.heap[gP]? = some (.cells #[.slice A i ca, .slice (some ⟨gC, 0, none⟩) i i, .slice (some ⟨gZ, 0, none⟩) i i] 63 (0, 0))) [] (aa tQ.out.p) (fun hHeld => ?_)
     obtain ⟨wD, QI⟩ : ∃ v, uc.drew = v := ⟨_, rfl⟩
     rw [QI] at tQ hHeld ⊢
     clear QI
     refine dN 0 1 2 3 ?_
     refine dN 4 5 6 7 ?_
     refine dY 8 ?_
     obtain ⟨v9, Tk⟩ : ∃ v, wD.cell? ⟨gC, wh, none⟩ = some (.int .i64 v) := ⟨_, tQ.out.C.1 wh hwn⟩
     have Ox := tQ.out.C.2 wh
     have HJe := aa (tQ.out.setC HD.out hwn F)
     refine dK 9 fun K hK => ?_
     go_simp
     refine hK.out _ _ (aa HJe.out.p) (fun hHeld => ?_)
     clear hK K Tk Ox
     obtain ⟨ue, hue⟩ : ∃ v, wD.setCell ⟨gC, wh, none⟩ (.int .i64 F) = v := ⟨_, rfl⟩
     rw [hue] at HJe hHeld ⊢
     clear hue
     try simp only [qq]
     refine dY 10 ?_
     obtain ⟨v10, N_⟩ : ∃ v, ue.cell? ⟨gZ, wh, none⟩ = some (.int .i64 v) := ⟨_, HJe.out.Z.1 wh hwn⟩
     have Oy := HJe.out.Z.2 wh
     have NG := aa (HJe.out.setZ HD.out hwn zz)
     refine dK 11 fun K hK => ?_
     go_simp
     refine hK.out _ _ (aa NG.out.p) (fun hHeld => ?_)
     clear hK K N_ Oy
     obtain ⟨uf, QN⟩ : ∃ v, ue.setCell ⟨gZ, wh, none⟩ (.int .i64 zz) = v := ⟨_, rfl⟩
     rw [QN] at NG hHeld ⊢
     clear QN HJe tQ Sc hHeld
     try simp only [qq]
     refine kT ?_
     clear hO wi
     go_upto_region 29 with (fail)
     have Ec := aa (NG.out.below HD.out ((Below.refl uf.heap.size uf).drew))
     have p9 := aa (HI0.out.below Ec.out.b)
     obtain ⟨cnt, hcnt⟩ : ∃ z, iQ h Q c wh i = z := ⟨_, rfl⟩
     rw [hcnt] at Ec
     have JK := aa hcnt
     clear hcnt NG
     have hO : Hid (∀ u : World, Hid (u.heap[gP]? = some (.cells #[.slice A i ca, .slice (some ⟨gC, 0, none⟩) i i, .slice (some ⟨gZ, 0, none⟩) i i] 63 (0, 0)) ∧ m_ u sb h cnt Q 0) → True) := aa (fun u hu => trivial)
     refine Co (fun u => u.heap[gP]? = some (.cells #[.slice A i ca, .slice (some ⟨gC, 0, none⟩) i i, .slice (some ⟨gZ, 0, none⟩) i i] 63 (0, 0)) ∧ m_ u sb h cnt Q 0) [] (aa ⟨Ec.out.p, Ec.out.s⟩) (fun hHeld => ?_)
     refine ql 0 (.agg #[.slice A i ca, .slice (some ⟨gC, 0, none⟩) i i, .slice (some ⟨gZ, 0, none⟩) i i]) rfl (aV 63 _ rfl gP rfl 63 #[.slice A i ca, .slice (some ⟨gC, 0, none⟩) i i, .slice (some ⟨gZ, 0, none⟩) i i] (0, 0) _ (fun u hu => hu.out.1) Tryz.underlying63 rfl jN) ?_
     refine dY 1 ?_
     refine dY 2 ?_
     refine dY 3 ?_
     refine ql 4 (.agg (ak h cnt)) rfl (gB 29 _ rfl sb 0 rfl (ak h cnt).toList _ (fun u hu => hu.out.2.range hl.out) Tryz.underlying29 rfl (lX hl.out)) ?_
     obtain ⟨ug, zI⟩ : ∃ v, uf.drew = v := ⟨_, rfl⟩
     rw [zI] at Ec p9 hHeld ⊢
     clear zI hHeld
     have Tx : w.heap.size + 4 ≤ gP ∧ w.heap.size + 4 ≤ sb := by have := HI0.out.z; have := HD.out.w1; have := HD.out.w2; omega
     refine dK 5 fun K hK => ?_
     rw [show (if Region.wanted _ _ = true then _ else _ : Prop) = _ from if_pos rfl]
     refine wp_store_row 63 _ _ rfl (w.heap.size + 2) #[.slice A i ca, .slice (some ⟨gC, 0, none⟩) i i, .slice (some ⟨gZ, 0, none⟩) i i] rfl rfl 63 _ p9.out.p jN rfl (by simp [Value.oneCell']) ?_
     refine hK.out _ _ (aa ⟨(setRow_other _ _ _ _ (by omega)).trans Ec.out.p, (setRow_other _ _ _ _ (by omega)).trans Ec.out.s⟩) (fun hHeld => ?_)
     clear hK K
     try simp only [qq]
     have L8 : Hid (aD (ug.setRow (w.heap.size + 2) #[.slice A i ca, .slice (some ⟨gC, 0, none⟩) i i, .slice (some ⟨gZ, 0, none⟩) i i]) (w.heap.size + 3) (aR 32) 0) := aa ((setRow_other _ _ _ _ (by omega)).trans p9.out.r)
     refine dK 6 fun K hK => ?_
     rw [show (if Region.wanted _ _ = true then _ else _ : Prop) = _ from if_pos rfl]
     refine wp_store_row 29 _ _ rfl (w.heap.size + 3) (ak h cnt) rfl rfl 29 _ L8.out (ai hl.out) (aH rfl hl.out) (ay _ _) ?_
     refine hK.out _ _ (aa ⟨(setRow_other _ _ _ _ (by omega)).trans hHeld.out.1, (setRow_other _ _ _ _ (by omega)).trans hHeld.out.2⟩) (fun hHeld => ?_)
     clear hK K
     try simp only [qq]
     refine dY 7 ?_
     refine kT ?_
     clear hO
     have Tw := HD.out.w2
     have yU := setRow_heap ug (w.heap.size + 2) _ #[.slice A i ca, .slice (some ⟨gC, 0, none⟩) i i, .slice (some ⟨gZ, 0, none⟩) i i] _ _ p9.out.p
     have yT : ((ug.setRow (w.heap.size + 2) #[.slice A i ca, .slice (some ⟨gC, 0, none⟩) i i, .slice (some ⟨gZ, 0, none⟩) i i]).setRow (w.heap.size + 3) (ak h cnt)).heap[w.heap.size + 2]? = some (.cells #[.slice A i ca, .slice (some ⟨gC, 0, none⟩) i i, .slice (some ⟨gZ, 0, none⟩) i i] 63 (0, 0)) := (setRow_other _ _ _ _ (by omega)).trans yU
     have Ga : aD ((ug.setRow (w.heap.size + 2) #[.slice A i ca, .slice (some ⟨gC, 0, none⟩) i i, .slice (some ⟨gZ, 0, none⟩) i i]).setRow (w.heap.size + 3) (ak h cnt)) (w.heap.size + 3) h cnt := L8.out.setRow
     have TJ := HI0.out.z
     have VD := HD.out.w3
     have VC := HD.out.w4
     have hk : ∀ g, w.heap.size + 4 ≤ g → ((ug.setRow (w.heap.size + 2) #[.slice A i ca, .slice (some ⟨gC, 0, none⟩) i i, .slice (some ⟨gZ, 0, none⟩) i i]).setRow (w.heap.size + 3) (ak h cnt)).heap[g]? = ug.heap[g]? := fun g hg => (setRow_other _ _ _ _ (by omega)).trans (setRow_other _ _ _ _ (by omega))
     have Ki := aL Ec.out.C (hk gC (by omega))
     have Ui := aL Ec.out.Z (hk gZ (by omega))
     have Rf : ∀ j, (Value.slice A i ca).ownBlock = some j → B ≤ j := fun j e => (World.ownsRow.lt Ec.out.a j e).1
     have Q3 : W.heap.size ≤ B := by have := HD.out.w1; have := HD.out.l1; omega
     have Lp : ∀ k, k < W.heap.size → ((Value.slice A i ca).ownBlock = none ∨ (Value.slice A i ca).ownBlock ≠ some k) := fun k hk => by
      cases e : (Value.slice A i ca).ownBlock with
      | none => exact .inl rfl
      | some j => exact .inr (fun e2 => by injection e2 with e2; have := Rf j e; omega)
     have Qo := World.ownsRow.kept (World.ownsRow.kept Ec.out.a (dD ug (w.heap.size + 2) #[.slice A i ca, .slice (some ⟨gC, 0, none⟩) i i, .slice (some ⟨gZ, 0, none⟩) i i]) (Lp _ (by omega))) (dD _ (w.heap.size + 3) (ak h cnt)) (Lp _ (by omega))
     have fO : Below w.heap.size w ((ug.setRow (w.heap.size + 2) #[.slice A i ca, .slice (some ⟨gC, 0, none⟩) i i, .slice (some ⟨gZ, 0, none⟩) i i]).setRow (w.heap.size + 3) (ak h cnt)) := ah (ah p9.out.b (Nat.le_add_right _ _)) (Nat.le_add_right _ _)
     have LY := r_ Qo ED.out
     have Pt : Sl ((ug.setRow (w.heap.size + 2) #[.slice A i ca, .slice (some ⟨gC, 0, none⟩) i i, .slice (some ⟨gZ, 0, none⟩) i i]).setRow (w.heap.size + 3) (ak h cnt)) (some ⟨gC, 0, none⟩) ((vR h Q c wh i).set wh (mW h Q c wh i ch)) := rW Ki (by rw [List.length_set, l6]) (fun j hj => by
      rw [um (by rw [l6]; exact hwn), HF.out]
      by_cases e : j = wh
      · rw [if_pos e, if_pos e]
      · rw [if_neg e, if_neg e, if_pos hj, vR, rX _ hj])
     have Pn : Sl ((ug.setRow (w.heap.size + 2) #[.slice A i ca, .slice (some ⟨gC, 0, none⟩) i i, .slice (some ⟨gZ, 0, none⟩) i i]).setRow (w.heap.size + 3) (ak h cnt)) (some ⟨gZ, 0, none⟩) ((GG h Q c wh i).set wh (rR h Q c wh i ch x)) := rW Ui (by rw [List.length_set, oq]) (fun j hj => by
      rw [um (by rw [oq]; exact hwn), rR, HK.out, HF.out, Rq.out, Rp.out]
      by_cases e : j = wh
      · rw [if_pos e, if_pos e]
      · rw [if_neg e, if_neg e, if_pos hj, GG, rX _ hj])
     go_wp2
     exact bodyPost_ret (v := .tuple #[.agg #[.slice A i ca, .slice (some ⟨gC, 0, none⟩) i i, .slice (some ⟨gZ, 0, none⟩) i i], .agg (ak h cnt), .int .i64 0]) (cu (p := 14) (q := 15) (r := 16) (ty := 63) (ty2 := 29) rfl _ _ ⟨w.heap.size + 2, 0, none⟩ ⟨w.heap.size + 3, 0, none⟩ _ _ _ rfl rfl rfl (run_loadVar_row _ _ _ _ _ _ _ yT Tryz.underlying63 rfl jN) (run_loadVar_row _ _ _ _ _ _ _ Ga Tryz.underlying29 rfl (ai hl.out))) rfl ⟨A, some ⟨gC, 0, none⟩, some ⟨gZ, 0, none⟩, ca, i, i, by rw [JK.out], LY, Pt, Pn, fO, (fun a e => by subst e; have := Rf a.block rfl; omega), (fun a e => by injection e with e; subst e; show w.heap.size ≤ gC; omega), (fun a e => by injection e with e; subst e; show w.heap.size ≤ gZ; omega)⟩
  ·
   rintro bs a u ⟨o2, o5, o6, o7, gC, gZ, gP, rfl, rfl, FM⟩ hr
   simp [uC, and_assoc] at hr
   obtain ⟨rfl, rfl⟩ := hr
   refine ⟨_, rfl, fun K hK => ?_⟩
   rw [ha0]
   simp only [qq]
   go_simp
   have G8 := aa (FM.out.mkC hn0)
   refine hK.out _ _ (aa G8.out.b) ⟨true, o5, false, o7, u.heap.size, gZ, gP, rfl, ?_, G8⟩
   rw [ha0]
   simp only [qq]
   try rfl
  ·
   rintro bs a u ⟨o2, o5, o6, o7, gC, gZ, gP, rfl, rfl, FM⟩ hr
   simp [uC, and_assoc] at hr
   obtain ⟨rfl, rfl⟩ := hr
   refine ⟨_, rfl, fun K hK => ?_⟩
   rw [ha0]
   simp only [qq]
   go_simp
   have G8 := aa (FM.out.mkZ hn0)
   refine hK.out _ _ (aa G8.out.b) ⟨o2, true, false, o7, gC, u.heap.size, gP, rfl, ?_, G8⟩
   rw [ha0]
   simp only [qq]
   try rfl
  ·
   rintro bs a u ⟨o2, o5, o6, o7, gC, gZ, gP, rfl, rfl, FM⟩ hr
   simp [uC, and_assoc] at hr
   obtain ⟨rfl, rfl, rfl⟩ := hr
   refine ⟨_, rfl, fun K hK => ?_⟩
   rw [ha0]
   simp only [qq]
   go_simp
   refine hK.out _ _ (aa FM.out.b) ⟨true, true, true, o7, gC, gZ, gP, rfl, ?_, FM⟩
   rw [ha0]
   simp only [qq]
   try rfl
  ·
   rintro bs a u ⟨o2, o5, o6, o7, gC, gZ, gP, rfl, rfl, FM⟩ hr
   simp [uC, and_assoc] at hr
   obtain rfl := hr
   refine ⟨_, rfl, fun K hK => ?_⟩
   rw [ha0]
   simp only [qq]
   go_simp
   have G8 := aa (FM.out.mkP hn0)
   refine hK.out _ _ (aa G8.out.b) ⟨o2, o5, o6, true, gC, gZ, u.heap.size, rfl, ?_, G8⟩
   rw [ha0]
   simp only [qq]
   try rfl
 ·
  rintro bs a u ⟨o6, o8, g6, g8, rfl, rfl, FB, y6, y8⟩ hr
  obtain rfl : o6 = false := by cases o6 <;> first | rfl | (exact absurd hr (by decide)) | simp [uC] at hr
  refine ⟨_, rfl, fun K hK => ?_⟩
  rw [ha0]
  simp only [qq]
  go_simp
  have hq := af u (.cells #[.int .i64 b] 3)
  have MU := hBx.out _ _ FB hq
  refine hK.out _ _ MU ⟨true, o8, u.heap.size, g8, rfl, ?_, MU, fun _ => aa (fA (yA u 3 b)), fun e => aa ((y8 e).out.below hq)⟩
  rw [ha0]
  simp only [qq]
  try rfl
 ·
  rintro bs a u ⟨o6, o8, g6, g8, rfl, rfl, FB, y6, y8⟩ hr
  obtain rfl : o8 = false := by cases o8 <;> first | rfl | (exact absurd hr (by decide)) | simp [uC] at hr
  refine ⟨_, rfl, fun K hK => ?_⟩
  rw [ha0]
  simp only [qq]
  go_simp
  have hq := af u (.cells #[.int .i64 x] 3)
  have MU := hBx.out _ _ FB hq
  refine hK.out _ _ MU ⟨o6, true, g6, u.heap.size, rfl, ?_, MU, fun e => aa ((y6 e).out.below hq), fun _ => aa (fA (yA u 3 x))⟩
  rw [ha0]
  simp only [qq]
  try rfl
def fK (Q n : Int) : Bool := decide (1 ≤ n) && (decide (n ≤ 16) && decide ((2 : Int) ^ n.toNat ≤ Q))
theorem fD {Q n : Int} (h : fK Q n = true) : ∃ k : Nat, n = (k : Int) ∧ 1 ≤ k ∧ k ≤ 16 ∧ (2 : Int) ^ k ≤ Q := by
 simp only [fK, Bool.and_eq_true, decide_eq_true_eq] at h
 exact ⟨n.toNat, by omega, by omega, by omega, h.2.2⟩
theorem dH (P Q G A B H n : Int) (r : Bool) (hr : Hid (fK Q n = r)) (w : World) :
  Calls Tryz.prog 26 #[bv P Q G A B H, .int .i64 n] w (Rt w (.bool r)) := by
 obtain ⟨w0, HW, aM, kC⟩ := st1 (bB P Q G A B H) DD w
 have aA := jQ w0
 by_cases h0 : 1 ≤ n
 ·
  have d1 : decide ((1 : Int) ≤ n) = true := by simp [h0]
  by_cases h1 : n ≤ 16
  ·
   have d2 : decide (n ≤ (16 : Int)) = true := by simp [h1]
   obtain ⟨k, rfl⟩ := Int.eq_ofNat_of_zero_le (show 0 ≤ n by omega)
   obtain ⟨p1, p2⟩ := qU (n := k) (by omega)
   have hrr := hr.out
   rw [fK, d1, d2, Bool.true_and, Bool.true_and, Int.toNat_natCast] at hrr
   obtain ⟨M, hM⟩ : ∃ M : Int, (2 : Int) ^ k = M := ⟨_, rfl⟩
   have hsh : wrap64 ((2 : Int) ^ k) = M := by rw [hM]; exact IntWalk.wrap64_in _ (by omega)
   rw [hM] at hrr p1 p2
   clear hr hM
   go_in
   go_upto_region 1 with (fail)
   rw [HW.out]
   have zc := kC.out _ aA
   go_quiet (fail)
   go_wp2
   go_ret
   exact ⟨rfl, ax (gT aM aA) nq⟩
  ·
   have d2 : decide (n ≤ (16 : Int)) = false := by simp; omega
   obtain rfl : r = false := by rw [← hr.out, fK, d2]; simp
   clear hr
   go_in
   go_upto_region 1 with (fail)
   rw [HW.out]
   have zc := kC.out _ aA
   go_quiet (fail)
   go_wp2
   go_ret
   exact ⟨rfl, ax (gT aM aA) nq⟩
 ·
  have d1 : decide ((1 : Int) ≤ n) = false := by simp; omega
  obtain rfl : r = false := by rw [← hr.out, fK, d1]; rfl
  clear hr
  go_in
  go_upto_region 1 with (fail)
  rw [HW.out]
  have zc := kC.out _ aA
  go_quiet (fail)
  go_wp2
  go_ret
  exact ⟨rfl, ax (gT aM aA) nq⟩
theorem oN (P Q G A B H n : Int) (r : Bool) (hr : Hid (fK Q n = r)) (w : World) :
  Calls Tryz.prog 10 #[bv P Q G A B H, .int .i64 n] w (Rt w (.bool r)) := by
 obtain ⟨w0, HW, aM, kC⟩ := st1 (bB P Q G A B H) DD w
 have aA := jQ w0
 by_cases h0 : 1 ≤ n
 ·
  have d1 : decide ((1 : Int) ≤ n) = true := by simp [h0]
  by_cases h1 : n ≤ 16
  ·
   have d2 : decide (n ≤ (16 : Int)) = true := by simp [h1]
   obtain ⟨k, rfl⟩ := Int.eq_ofNat_of_zero_le (show 0 ≤ n by omega)
   obtain ⟨p1, p2⟩ := qU (n := k) (by omega)
   have hrr := hr.out
   rw [fK, d1, d2, Bool.true_and, Bool.true_and, Int.toNat_natCast] at hrr
   obtain ⟨M, hM⟩ : ∃ M : Int, (2 : Int) ^ k = M := ⟨_, rfl⟩
   have hsh : wrap64 ((2 : Int) ^ k) = M := by rw [hM]; exact IntWalk.wrap64_in _ (by omega)
   rw [hM] at hrr p1 p2
   clear hr hM
   go_in
   go_upto_region 1 with (fail)
   rw [HW.out]
   have zc := kC.out _ aA
   go_wp2
   go_ret
   exact ⟨by first | rfl | rw [hrr], gT aM aA⟩
  ·
   have d2 : decide (n ≤ (16 : Int)) = false := by simp; omega
   obtain rfl : r = false := by rw [← hr.out, fK, d2]; simp
   clear hr
   go_in
   go_upto_region 1 with (fail)
   rw [HW.out]
   have zc := kC.out _ aA
   go_wp2
   go_ret
   exact ⟨rfl, gT aM aA⟩
 ·
  have d1 : decide ((1 : Int) ≤ n) = false := by simp; omega
  obtain rfl : r = false := by rw [← hr.out, fK, d1]; rfl
  clear hr
  go_in
  go_upto_region 1 with (fail)
  rw [HW.out]
  have zc := kC.out _ aA
  go_wp2
  go_ret
  exact ⟨rfl, gT aM aA⟩
def qm (P Q G e : Int) : Int := e * pw G ((-1) % Q) P % P
def GI (P Q G e : Int) (w : World) (en : Ending) (w' : World) : Prop := ∃ g : Nat, en = .returned (.slice (some ⟨g, 0, none⟩) 2 2) ∧ Sl w' (some ⟨g, 0, none⟩) [e, qm P Q G e] ∧ Below w.heap.size w w'
theorem jY (P Q G A B H e : Int) (hval : Hid (aS P Q G A B H = true)) (he : Hid (av P Q e = true)) (hQ : Q < 9223372036854775808) (w : World) (hv : Hid (Vars w)) :
  Calls Tryz.prog 31 #[bv P Q G A B H, .int .i64 e] w (GI P Q G e w) := by
 obtain ⟨hg, _⟩ := bn hval.out
 obtain ⟨hP, hP2, Nc, De⟩ := aJ hg
 have yZ : Hid (iq P Q G [G] = 0) := aa (eZ hg (by simp [dA hg]))
 have hgi : av P Q (pw G ((-1) % Q) P) = true := fI hP (by omega) (Int.emod_nonneg _ (by omega)) (dA hg)
 have yY : Hid (iq P Q G [e, pw G ((-1) % Q) P] = 0) := aa (eZ hg (by simp [he.out, hgi]))
 obtain ⟨V, hV⟩ : ∃ V, pw G ((-1) % Q) P = V := ⟨_, rfl⟩
 rw [hV] at yY
 obtain ⟨U, hU⟩ : ∃ U, e * V % P = U := ⟨_, rfl⟩
 have HU : Hid (qm P Q G e = U) := aa (by rw [qm, hV, hU])
 have HV := aa hV
 have Ut := aa hU
 unfold GI
 rw [HU.out]
 obtain ⟨w0, HW, aM, kC⟩ := st1 (bB P Q G A B H) DD w
 have kV := mkV aM hv
 have aA := jQ w0
 clear hv hV hU hgi
 go_in
 go_upto_region 1 with (fail)
 rw [HW.out]
 have zc := kC.out _ aA
 go_wp2_with fail
 clear zc
 refine iB kC aA (lS P Q G G (-1) V yZ HV (by omega) (by omega) _ (kV.out _ aA)) fun w1 bJ zc => ?_
 go_wp2_with fail
 clear zc
 refine iB kC bJ (lT P Q G e V U yY Ut hQ _ (kV.out _ bJ)) fun w2 bM zc => ?_
 go_wp2
 go_ret
 exact ⟨_, rfl, sl2 w2 _ e U, ag (gT aM bM) (af _ _)⟩
theorem uG (P Q G A B H : Int) (r : Bool) (hr : Hid (aS P Q G A B H = r)) (hQ : Q < 9223372036854775808) (w : World) :
  Calls Tryz.prog 5 #[bv P Q G A B H] w (Rt w (.bool r)) := by
 have HX0 := aa ((eP w P Q G A B H).below (af _ (bA P Q G)))
 have F_ : Hid (kR ((w.alloc (bB P Q G A B H)).alloc (bA P Q G)) (w.heap.size + 1) P Q G) := aa (by
  have e : (w.alloc (bB P Q G A B H)).heap.size = w.heap.size + 1 := by simp
  rw [← e]; exact bD _ _ _ _)
 cases hval : aC P Q G with
 | false =>
  obtain rfl : r = false := by rw [← hr.out, aS, hval, Bool.false_and]
  have sS : Hid (aC P Q G = false) := hval
  clear hr hval
  go_in
  go_wp2_with fail
  refine (dh P Q G false sS hQ _).mono ?_
  rintro e w1 ⟨rfl, hb0⟩
  have hb1 := ag (aB (Below.refl _ _)) hb0
  clear hb0
  go_wp2
  go_ret
  exact ⟨rfl, hb1⟩
 | true =>
  have sS : Hid (aC P Q G = true) := hval
  obtain ⟨hp2, hp, hq3, Eo⟩ := aJ hval
  cases nA : A == 1 with
  | true =>
   obtain rfl : r = false := by rw [← hr.out, aS]; simp at nA; simp [okB, nA]
   have Ta : (A != 1) = false := by simpa using nA
   clear hr hval
   go_in
   go_wp2_with fail
   refine (dh P Q G true sS hQ _).mono ?_
   rintro e w1 ⟨rfl, hb0⟩
   have hb1 := ag (aB (Below.refl _ _)) hb0
   have rH := aa (HX0.out.below hb0)
   have tT := aa (F_.out.below hb0)
   clear hb0
   obtain ⟨⟨c0, c1, c2⟩, c3, c4, c5⟩ := rH.out
   obtain ⟨d0, d1, d2⟩ := tT.out
   go_wp2
   go_ret
   exact ⟨rfl, hb1⟩
  | false =>
   have Ta : (A != 1) = true := by simp at nA ⊢; exact nA
   cases nB : B == 1 with
   | true =>
    obtain rfl : r = false := by rw [← hr.out, aS]; simp at nB; simp [okB, nB]
    have S_ : (B != 1) = false := by simpa using nB
    clear hr hval
    go_in
    go_wp2_with fail
    refine (dh P Q G true sS hQ _).mono ?_
    rintro e w1 ⟨rfl, hb0⟩
    have hb1 := ag (aB (Below.refl _ _)) hb0
    have rH := aa (HX0.out.below hb0)
    have tT := aa (F_.out.below hb0)
    clear hb0
    obtain ⟨⟨c0, c1, c2⟩, c3, c4, c5⟩ := rH.out
    obtain ⟨d0, d1, d2⟩ := tT.out
    go_wp2
    go_ret
    exact ⟨rfl, hb1⟩
   | false =>
    have S_ : (B != 1) = true := by simp at nB ⊢; exact nB
    cases nH : H == 1 with
    | true =>
     obtain rfl : r = false := by rw [← hr.out, aS]; simp at nH; simp [okB, nH]
     have S9 : (H != 1) = false := by simpa using nH
     clear hr hval
     go_in
     go_wp2_with fail
     refine (dh P Q G true sS hQ _).mono ?_
     rintro e w1 ⟨rfl, hb0⟩
     have hb1 := ag (aB (Below.refl _ _)) hb0
     have rH := aa (HX0.out.below hb0)
     have tT := aa (F_.out.below hb0)
     clear hb0
     obtain ⟨⟨c0, c1, c2⟩, c3, c4, c5⟩ := rH.out
     obtain ⟨d0, d1, d2⟩ := tT.out
     go_wp2
     go_ret
     exact ⟨rfl, hb1⟩
    | false =>
     have S9 : (H != 1) = true := by simp at nH ⊢; exact nH
     cases mA : av P Q A with
     | false =>
      obtain rfl : r = false := by rw [← hr.out, aS]; simp [okB, mA]
      have LD : Hid (av P Q A = false) := mA
      clear hr hval mA
      go_in
      go_wp2_with fail
      refine (dh P Q G true sS hQ _).mono ?_
      rintro e w1 ⟨rfl, hb0⟩
      have hb1 := ag (aB (Below.refl _ _)) hb0
      have rH := aa (HX0.out.below hb0)
      have tT := aa (F_.out.below hb0)
      clear hb0
      obtain ⟨⟨c0, c1, c2⟩, c3, c4, c5⟩ := rH.out
      obtain ⟨d0, d1, d2⟩ := tT.out
      go_wp2_with fail
      refine (bK P Q G A false LD hp (by omega) hQ _).mono ?_
      rintro e w2 ⟨rfl, hb0⟩
      have hb2 := ag hb1 hb0
      clear hb0
      go_wp2
      go_ret
      exact ⟨rfl, hb2⟩
     | true =>
      have LD : Hid (av P Q A = true) := mA
      cases mB : av P Q B with
      | false =>
       obtain rfl : r = false := by rw [← hr.out, aS]; simp [okB, mB]
       have Nr : Hid (av P Q B = false) := mB
       clear hr hval mA mB
       go_in
       go_wp2_with fail
       refine (dh P Q G true sS hQ _).mono ?_
       rintro e w1 ⟨rfl, hb0⟩
       have hb1 := ag (aB (Below.refl _ _)) hb0
       have rH := aa (HX0.out.below hb0)
       have tT := aa (F_.out.below hb0)
       clear hb0
       obtain ⟨⟨c0, c1, c2⟩, c3, c4, c5⟩ := rH.out
       obtain ⟨d0, d1, d2⟩ := tT.out
       go_wp2_with fail
       refine (bK P Q G A true LD hp (by omega) hQ _).mono ?_
       rintro e w2 ⟨rfl, hb0⟩
       have hb2 := ag hb1 hb0
       have Bn := aa (rH.out.below hb0)
       have HG2 := aa (tT.out.below hb0)
       clear c0 c1 c2 c3 c4 c5 d0 d1 d2 hb0
       obtain ⟨⟨c0, c1, c2⟩, c3, c4, c5⟩ := Bn.out
       obtain ⟨d0, d1, d2⟩ := HG2.out
       go_wp2_with fail
       refine (bK P Q G B false Nr hp (by omega) hQ _).mono ?_
       rintro e w3 ⟨rfl, hb0⟩
       have hb3 := ag hb2 hb0
       clear hb0
       go_wp2
       go_ret
       exact ⟨rfl, hb3⟩
      | true =>
       have Nr : Hid (av P Q B = true) := mB
       cases mH : av P Q H with
       | false =>
        obtain rfl : r = false := by rw [← hr.out, aS]; simp [okB, mH]
        have O5 : Hid (av P Q H = false) := mH
        clear hr hval mA mB mH
        go_in
        go_wp2_with fail
        refine (dh P Q G true sS hQ _).mono ?_
        rintro e w1 ⟨rfl, hb0⟩
        have hb1 := ag (aB (Below.refl _ _)) hb0
        have rH := aa (HX0.out.below hb0)
        have tT := aa (F_.out.below hb0)
        clear hb0
        obtain ⟨⟨c0, c1, c2⟩, c3, c4, c5⟩ := rH.out
        obtain ⟨d0, d1, d2⟩ := tT.out
        go_wp2_with fail
        refine (bK P Q G A true LD hp (by omega) hQ _).mono ?_
        rintro e w2 ⟨rfl, hb0⟩
        have hb2 := ag hb1 hb0
        have Bn := aa (rH.out.below hb0)
        have HG2 := aa (tT.out.below hb0)
        clear c0 c1 c2 c3 c4 c5 d0 d1 d2 hb0
        obtain ⟨⟨c0, c1, c2⟩, c3, c4, c5⟩ := Bn.out
        obtain ⟨d0, d1, d2⟩ := HG2.out
        go_wp2_with fail
        refine (bK P Q G B true Nr hp (by omega) hQ _).mono ?_
        rintro e w3 ⟨rfl, hb0⟩
        have hb3 := ag hb2 hb0
        have Bw := aa (Bn.out.below hb0)
        have F9 := aa (HG2.out.below hb0)
        clear c0 c1 c2 c3 c4 c5 d0 d1 d2 hb0
        obtain ⟨⟨c0, c1, c2⟩, c3, c4, c5⟩ := Bw.out
        obtain ⟨d0, d1, d2⟩ := F9.out
        go_wp2_with fail
        refine (bK P Q G H false O5 hp (by omega) hQ _).mono ?_
        rintro e w4 ⟨rfl, hb0⟩
        have hb4 := ag hb3 hb0
        clear hb0
        go_wp2
        go_ret
        exact ⟨rfl, hb4⟩
       | true =>
        have O5 : Hid (av P Q H = true) := mH
        obtain rfl : r = true := by rw [← hr.out, aS, hval]; simp at nA nB nH; simp [okB, nA, nB, nH, mA, mB, mH]
        clear hr hval mA mB mH
        go_in
        go_wp2_with fail
        refine (dh P Q G true sS hQ _).mono ?_
        rintro e w1 ⟨rfl, hb0⟩
        have hb1 := ag (aB (Below.refl _ _)) hb0
        have rH := aa (HX0.out.below hb0)
        have tT := aa (F_.out.below hb0)
        clear hb0
        obtain ⟨⟨c0, c1, c2⟩, c3, c4, c5⟩ := rH.out
        obtain ⟨d0, d1, d2⟩ := tT.out
        go_wp2_with fail
        refine (bK P Q G A true LD hp (by omega) hQ _).mono ?_
        rintro e w2 ⟨rfl, hb0⟩
        have hb2 := ag hb1 hb0
        have Bn := aa (rH.out.below hb0)
        have HG2 := aa (tT.out.below hb0)
        clear c0 c1 c2 c3 c4 c5 d0 d1 d2 hb0
        obtain ⟨⟨c0, c1, c2⟩, c3, c4, c5⟩ := Bn.out
        obtain ⟨d0, d1, d2⟩ := HG2.out
        go_wp2_with fail
        refine (bK P Q G B true Nr hp (by omega) hQ _).mono ?_
        rintro e w3 ⟨rfl, hb0⟩
        have hb3 := ag hb2 hb0
        have Bw := aa (Bn.out.below hb0)
        have F9 := aa (HG2.out.below hb0)
        clear c0 c1 c2 c3 c4 c5 d0 d1 d2 hb0
        obtain ⟨⟨c0, c1, c2⟩, c3, c4, c5⟩ := Bw.out
        obtain ⟨d0, d1, d2⟩ := F9.out
        go_wp2_with fail
        refine (bK P Q G H true O5 hp (by omega) hQ _).mono ?_
        rintro e w4 ⟨rfl, hb0⟩
        have hb4 := ag hb3 hb0
        clear hb0
        go_wp2
        go_ret
        exact ⟨rfl, hb4⟩
def joinL (P Q : Int) : Nat → Int → List Int → Int
 | _, acc, [] => acc
 | k, acc, x :: xs => joinL P Q (k + 1) (acc * pw x (2 ^ k % Q) P % P) xs
theorem pG {P Q acc : Int} {k : Nat} {xs : List Int} (hk : k < xs.length) : joinL P Q k acc (xs.drop k) = joinL P Q (k + 1) (acc * pw (xs.getD k 0) (2 ^ k % Q) P % P) (xs.drop (k + 1)) := by
 rw [List.drop_eq_getElem_cons hk, joinL, List.getD_eq_getElem?_getD, List.getElem?_eq_getElem hk]
 rfl
theorem EP (P Q G A B H : Int) (a : Nat) (hQ : Q < 9223372036854775808) (W : World) (hx : Hid (qI W a P Q G A B H)) (hv : Hid (Vars W)) :
  Says 39 #[.pointer (some ⟨a, 0, none⟩)] (fun x => !dQ P Q G x) W := fun x w1 hb => by
 show Calls Tryz.prog 39 #[.int .i64 x, .pointer (some ⟨a, 0, none⟩)] w1 fun e w' => e = .returned (.bool (!dQ P Q G x)) ∧ Below w1.heap.size w1 w'
 obtain ⟨⟨c0, c1, c2⟩, _⟩ := hx.out.below hb
 have jV := aa (hv.out.below hb)
 obtain ⟨r, hr⟩ : ∃ r, dQ P Q G x = r := ⟨_, rfl⟩
 have HR := aa hr
 rw [hr]
 clear hr hb
 go_in
 go_wp2_with fail
 refine (aW P Q G x r HR hQ _ jV).mono ?_
 rintro e w2 ⟨rfl, hb0⟩
 go_wp2
 go_ret
 exact ⟨rfl, hb0⟩
def qY (P Q : Int) (xs : List Int) : Int := joinL P Q 0 1 xs
theorem uU {P Q V : Int} {xs : List Int} (h : Hid (qY P Q xs = V)) : Hid (joinL P Q 0 1 (xs.drop 0) = V) := aa (by
 rw [List.drop_zero]
 exact h.out)
theorem AA {P Q acc V : Int} {k : Nat} {xs : List Int} (hn : xs.length = k) (h : Hid (joinL P Q k acc (xs.drop k) = V)) : acc = V := by
 have h2 := h.out
 rw [← hn, List.drop_length, joinL] at h2
 exact h2
def yj (P G H : Int) (b f : Nat → Int) (n : Nat) : List Int := (List.range n).map (fun i => rep P G H (b i) (f i))
theorem pO (P G H : Int) (b f : Nat → Int) (n : Nat) : (yj P G H b f n).length = n := by simp [yj]
theorem vI (P G H : Int) (b f : Nat → Int) {n k : Nat} (h : k < n) : (yj P G H b f n).getD k 0 = rep P G H (b k) (f k) := by
 rw [yj, List.getD_eq_getElem?_getD, List.getElem?_map, List.getElem?_range h]; rfl
theorem zx {Q : Int} {n k : Nat} (h : k < n) (hQ : (2 : Int) ^ n ≤ Q) : (2 : Int) ^ k < Q := by
 have h1 : (2 : Int) ^ n = 2 ^ k * 2 ^ (n - k) := by rw [← Int.pow_add]; congr 1; omega
 have h2 : (0 : Int) < 2 ^ k := Int.pow_pos (by decide)
 have h3 : (2 : Int) ^ (n - k) = 2 * 2 ^ (n - k - 1) := by rw [show n - k = (n - k - 1) + 1 by omega, Int.pow_succ, Int.mul_comm]; rfl
 have h4 : (0 : Int) < 2 ^ (n - k - 1) := Int.pow_pos (by decide)
 have h5 : (2 : Int) ^ k * 2 ≤ 2 ^ k * 2 ^ (n - k) := Int.mul_le_mul_of_nonneg_left (by omega) (by omega)
 omega
theorem qZ {P Q G H : Int} {b f : Nat → Int} {n : Nat} (hP : 2 ≤ P) (hQ : 1 ≤ Q) (hn : (2 : Int) ^ n ≤ Q) (hb : ∀ i, i < n → 0 ≤ b i) (hf : ∀ i, i < n → 0 ≤ f i) :
  ∀ j k, k + j = n → joinL P Q k (rep P G H (gz b k) (gz f k)) ((yj P G H b f n).drop k) = rep P G H (gz b n) (gz f n)
 | 0, k, h => by
  obtain rfl : k = n := by omega
  rw [List.drop_eq_nil_of_le (by rw [pO]; exact Nat.le_refl _), joinL]
 | j + 1, k, h => by
  have hk : k < n := by omega
  rw [pG (by rw [pO]; exact hk), vI _ _ _ _ _ hk]
  have p2 := zx hk hn
  have p1 : (0 : Int) < 2 ^ k := Int.pow_pos (by decide)
  have wb := nW (f := b) k (fun i hi => hb i (by omega))
  have wf := nW (f := f) k (fun i hi => hf i (by omega))
  have bk := hb k hk
  have fk := hf k hk
  rw [Int.emod_eq_of_lt (by omega) p2, H7 bk fk (by omega), lD wb wf (Int.mul_nonneg bk (by omega)) (Int.mul_nonneg fk (by omega))]
  exact qZ hP hQ hn hb hf j (k + 1) (by omega)
theorem oz {f g : Nat → Int} (h : ∀ i, 1 ≤ i → f i = g i) (h0 : g 0 = 0) : ∀ n, gz f (n + 1) = f 0 + gz g (n + 1)
 | 0 => by simp [gz, h0]
 | n + 1 => by
  have ih := oz h h0 n
  show gz f (n + 1) + f (n + 1) * 2 ^ (n + 1) = f 0 + (gz g (n + 1) + g (n + 1) * 2 ^ (n + 1))
  rw [ih, h (n + 1) (by omega), Int.add_assoc]
theorem uT {P Q G H m r : Int} {f : Nat → Int} {n : Nat} (hP : 2 ≤ P) (hQ : 1 ≤ Q) (hG : av P Q G = true) (hH : av P Q H = true) (h1 : 1 ≤ n) (hn : (2 : Int) ^ n ≤ Q) (m0 : 0 ≤ m) (m1 : m < 2 ^ n) (r0 : 0 ≤ r) (r1 : r < Q) (hf : ∀ i, 0 ≤ f i) :
  joinL P Q 0 1 (yj P G H (fun i => m / 2 ^ i % 2) (qy Q r f n) n) = rep P G H m r := by
 have hb : ∀ i, i < n → 0 ≤ (fun i : Nat => m / 2 ^ i % 2) i := fun i _ => Int.emod_nonneg _ (by decide)
 have M8 : ∀ i, i < n → 0 ≤ qy Q r f n i := fun i _ => by
  rw [qy]
  by_cases e : i = 0
  · rw [if_pos e]; exact (sH hQ r0 r1 _).1
  · rw [if_neg e]; exact hf i
 have e0 : (1 : Int) = rep P G H (gz (fun i => m / 2 ^ i % 2) 0) (gz (qy Q r f n) 0) := by
  show (1 : Int) = rep P G H 0 0
  rw [uE hP, lG G P hP]
 have h2 := qZ (P := P) (Q := Q) (G := G) (H := H) hP hQ hn hb M8 n 0 (by omega)
 rw [List.drop_zero, ← e0] at h2
 rw [h2, qJ, Int.emod_eq_of_lt m0 m1]
 obtain ⟨k, rfl⟩ : ∃ k, n = k + 1 := ⟨n - 1, by omega⟩
 refine jh hP hQ hG hH m0 (nW _ M8) m0 r0 rfl ?_
 have h3 := oz (f := qy Q r f (k + 1)) (g := fun i => if i = 0 then 0 else f i) (fun i hi => by rw [qy, if_neg (by omega)]; exact (if_neg (by omega)).symm) (if_pos rfl) k
 rw [h3, qy, if_pos rfl, Nat.add_sub_cancel]
 exact zL hQ k
theorem xH (P Q G A B H : Int) (S : Option Addr) (xs : List Int) (n c : Nat) (V : Int) (sS : Hid (aS P Q G A B H = true)) (hl : n ≤ 16) (hm : Hid (xs.all (av P Q) = true)) (hV : Hid (qY P Q xs = V)) (hn : Hid (xs.length = n)) (hbig : n < 1000) (hQ : Q < 9223372036854775808) (w : World) (hv : Hid (Vars w)) (hs : Hid (Sl w S xs)) :
  Calls Tryz.prog 16 #[bv P Q G A B H, .slice S n c] w (Rt w (.tuple #[.int .i64 V, .int .i64 0])) := by
 have sV := aa (hv.out.below (af w (bB P Q G A B H)))
 have HX0 := aa (eP w P Q G A B H)
 have Pm := aa (hs.out.below (af w (bB P Q G A B H)))
 clear hs
 have d16 : decide ((16 : Int) < (n : Int)) = false := by simp; omega
 have HP : Hid ((xs.any fun x => !dQ P Q G x) = false) := aa (by rw [nJ (bn sS.out).1, hm.out]; rfl)
 have hg := (bn sS.out).1
 obtain ⟨hp2, hp, hq3, Eo⟩ := aJ hg
 have sU := aa hg
 clear hg
 go_in
 go_wp2_with fail
 refine (bS P Q G A B H true sS hQ _ sV).mono ?_
 rintro e w1 ⟨rfl, hb0⟩
 have hb1 := ag (af _ _) hb0
 have jV := aa (sV.out.below hb0)
 have rH := aa (HX0.out.below hb0)
 have LQ := aa (Pm.out.below hb0)
 clear hb0
 obtain ⟨⟨c0, c1, c2⟩, c3, c4, c5⟩ := rH.out
 have LK := aa (EP P Q G A B H w.heap.size hQ w1 rH jV)
 go_wp2_with fail
 refine (LA (.pointer (some ⟨w.heap.size, 0, none⟩)) (fun x => !dQ P Q G x) false S xs n c HP hn (aa (by omega)) _ LQ LK).mono ?_
 rintro e w2 ⟨rfl, hb0⟩
 have hb2 := ag hb1 hb0
 have qd := aa (jV.out.below hb0)
 have Bn := aa (rH.out.below hb0)
 have Pk := aa (LQ.out.below hb0)
 clear c0 c1 c2 c3 c4 c5 hb0
 obtain ⟨⟨c0, c1, c2⟩, c3, c4, c5⟩ := Bn.out
 go_wp2
 clear c0 c1 c2 c3 c4 c5
 go_loopw [6, 25] (fun u i wr => ∃ (k : Nat) (acc : Int), k ≤ n ∧ u = .int .i64 acc ∧ i = .int .i64 k ∧ Hid (av P Q acc = true) ∧ Hid (joinL P Q k acc (xs.drop k) = V) ∧ Hid (Below w2.heap.size w2 wr)) (fun _ i _ => n - (intOf i).toNat)
 case atStart => exact ⟨0, 1, by omega, rfl, rfl, aa (zF hp2), uU hV, aa (Below.refl _ _)⟩
 case round =>
  obtain ⟨k, acc, hk, rfl, rfl, R_, HJ, aG⟩ := hrel
  by_cases hlt : k < n
  ·
   have hkl : k < xs.length := by rw [hn.out]; exact hlt
   obtain ⟨b, o, hA, hi0⟩ := Pk.out.below aG.out k hkl
   subst hA
   have Pe := aa (Bn.out.below aG.out)
   have Ey := aa (qd.out.below aG.out)
   have hm1 := iV hm.out hkl
   have hst := pG (P := P) (Q := Q) (acc := acc) hkl
   obtain ⟨x, hx⟩ : ∃ x, xs.getD k 0 = x := ⟨_, rfl⟩
   rw [hx] at hi0 hm1 hst
   obtain ⟨q1, q2⟩ := qU (n := k) (by omega)
   obtain ⟨M, hM⟩ : ∃ M, (2 : Int) ^ k = M := ⟨_, rfl⟩
   rw [hM] at q1 q2 hst
   have hsh : wrap64 ((2 : Int) ^ k) = M := by rw [hM]; exact wrap_small q1 q2
   have Tn : IntKind.i64.wrap ((2 : Int) ^ k) = M := by rw [hM]; exact AJ q1 q2
   obtain ⟨p, hp1⟩ : ∃ p, pw x (M % Q) P = p := ⟨_, rfl⟩
   have hmp : av P Q p = true := by rw [← hp1]; exact fI hp2 (by omega) (Int.emod_nonneg _ (by omega)) hm1
   rw [hp1] at hst
   obtain ⟨F4, hac⟩ : ∃ a, acc * p % P = a := ⟨_, rfl⟩
   rw [hac] at hst
   have PL : Hid (av P Q F4 = true) := aa (by rw [← hac]; exact jI hp2 (by omega) R_.out hmp)
   have HJ2 : Hid (joinL P Q (k + 1) F4 (xs.drop (k + 1)) = V) := aa (hst.symm.trans HJ.out)
   have UX : Hid (iq P Q G [x] = 0) := aa (eZ sU.out (by simp [hm1]))
   have UY : Hid (iq P Q G [acc, p] = 0) := aa (eZ sU.out (by simp [R_.out, hmp]))
   have UF := aa hp1
   have U6 := aa hac
   have HI := aa hi0
   clear hi0 hm1 hst hx hM hp1 hac hmp hkl HJ
   have TK := aa (show ∀ u1 : World, Hid (Below wr.heap.size wr u1) → Hid (Vars u1) from fun u1 h1 => aa (Ey.out.below h1.out))
   have cx := HI.out
   go_wp2
   have Q7 := aa (show ∀ u1 u2 : World, Hid (Below wr.heap.size wr u1) → Below u1.heap.size u1 u2 → (u2.cell? ⟨w.heap.size, 0, none⟩ = some (.int .i64 P) ∧ u2.cell? ⟨w.heap.size, 1, none⟩ = some (.int .i64 Q) ∧ u2.cell? ⟨w.heap.size, 2, none⟩ = some (.int .i64 G) ∧ Hid (Below wr.heap.size wr u2)) from fun u1 u2 h1 h2 => have h3 := ag h1.out h2; ⟨(Pe.out.below h3).1.1, (Pe.out.below h3).1.2.1, (Pe.out.below h3).1.2.2, aa h3⟩)
   have TN : Hid (Below wr.heap.size wr wr) := aa (Below.refl _ _)
   go_region_held3 (fun w' => w'.cell? ⟨w.heap.size, 0, none⟩ = some (.int .i64 P) ∧ w'.cell? ⟨w.heap.size, 1, none⟩ = some (.int .i64 Q) ∧ w'.cell? ⟨w.heap.size, 2, none⟩ = some (.int .i64 G) ∧ Hid (Below wr.heap.size wr w'))
    (first | exact Q7.out _ _ TN ((Below.refl wr.heap.size wr).drew) | (go_split_ands; exact Q7.out _ _ (by assumption) jd) | go_keep)
    (first
     | (go_at_call 35; (refine (lS P Q G x M p UX UF (by omega) (by omega) _ ?_).mono ?_); rotate_left; rintro e wA ⟨rfl, jd⟩; rotate_left; (go_split_ands; exact TK.out _ (by assumption))))
   rename_i hHeld
   obtain ⟨y0, y1, y2, QX⟩ := hHeld
   have HB2 := aa (ag aG.out QX.out)
   have Ju := aa (Ey.out.below QX.out)
   go_wp2_with fail
   refine (lT P Q G acc p F4 UY U6 hQ _ Ju).mono ?_
   rintro e wB ⟨rfl, hb0⟩
   have HB3 := aa (ag HB2.out hb0)
   clear hb0 y0 y1 y2 cx
   go_wp2
   go_roundw
   case rel => exact ⟨k + 1, F4, by omega, rfl, by go_num, PL, HJ2, HB3⟩
   case measure => simp [intOf]; omega
  ·
   obtain rfl : k = n := by omega
   obtain rfl := AA hn.out HJ
   have kI := ag hb2 aG.out
   clear HJ hlt
   go_wp2
   go_ret2
   exact ⟨rfl, kI⟩
def Lc (u : World) (L : Option Addr) (n : Nat) (al cl zl : Nat → List Int) : Prop := ∀ k, k < n → ∃ b o, L = some ⟨b, o, none⟩ ∧ ∃ (A C Z : Option Addr) (ca cc cz : Nat), u.cell? ⟨b, o + k * 3, none⟩ = some (.slice A 2 ca) ∧ u.cell? ⟨b, o + k * 3 + 1, none⟩ = some (.slice C 2 cc) ∧ u.cell? ⟨b, o + k * 3 + 2, none⟩ = some (.slice Z 2 cz) ∧ Sl u A (al k) ∧ Sl u C (cl k) ∧ Sl u Z (zl k)
theorem Lc.below {u u' : World} {L : Option Addr} {n : Nat} {al cl zl : Nat → List Int} (h : Lc u L n al cl zl) (hb : Below u.heap.size u u') : Lc u' L n al cl zl := fun k hk => by
 obtain ⟨b, o, hL, A, C, Z, ca, cc, cz, h1, h2, h3, h4, h5, h6⟩ := h k hk
 exact ⟨b, o, hL, A, C, Z, ca, cc, cz, cell_below h1 hb, cell_below h2 hb, cell_below h3 hb, h4.below hb, h5.below hb, h6.below hb⟩
abbrev Gl (A : Option Addr) (n ca : Nat) (L : Option Addr) (m cl : Nat) : Value := .agg #[.slice A n ca, .slice L m cl]
abbrev Qy (A : Option Addr) (n ca : Nat) (L : Option Addr) (m cl : Nat) : Obj := .cells #[.slice A n ca, .slice L m cl] 40
def Lx (P Q G H : Int) (s : ByteArray) (es : List Int) (al cl zl : Nat → List Int) (k : Nat) : Prop :=
 av P Q (es.getD k 0) = true ∧ iP P Q G H [es.getD k 0, qm P Q G (es.getD k 0)] (nE P Q G H (aO s) [es.getD k 0, qm P Q G (es.getD k 0)] (al k)) (al k) (cl k) (zl k) = true
theorem yD (P Q G X B H c : Int) (n : Nat) (s : ByteArray) (A : Option Addr) (es : List Int) (ca : Nat) (L : Option Addr) (cl : Nat) (V : Int) (hval : Hid (aS P Q G X B H = true)) (dP : Hid (fK Q (n : Int) = true)) (hn : Hid (es.length = n)) (hem : Hid (es.all (av P Q) = true)) (hV : Hid (qY P Q es = V)) (hne : (V != c) = true) (hQ : Q < 9223372036854775808) (w : World) (hv : Hid (Vars w)) (hA : Hid (Sl w A es)) :
  Calls Tryz.prog 11 #[bv P Q G X B H, .int .i64 c, .int .i64 n, .string s, Gl A n ca L n cl] w (Rt w (.bool false)) := by
 obtain ⟨k, hk, hk1, sF, _⟩ := fD dP.out
 obtain rfl : n = k := by omega
 obtain ⟨w0, HW, aM, kC⟩ := st2 (bB P Q G X B H) Ro (Qy A n ca L n cl) Rn w
 have kV := mkV aM hv
 have kA := mkS aM hA
 have aA := jQ w0
 have t1 : ((n : Int) != (n : Int)) = false := by simp
 clear hv hA hk
 go_in
 go_upto_region 1 with (fail)
 rw [HW.out]
 have zc := kC.out _ aA
 go_wp2_with fail
 clear zc
 refine iB kC aA (bS P Q G X B H true hval hQ _ (kV.out _ aA)) fun w1 bJ zc => ?_
 go_wp2_with fail
 clear zc
 refine iB kC bJ (dH P Q G X B H n true dP _) fun w2 bM zc => ?_
 go_wp2_with fail
 clear zc t1
 refine iB kC bM (xH P Q G X B H A es n ca V hval (by omega) hem hV hn (by omega) hQ _ (kV.out _ bM) (kA.out _ bM)) fun w3 eT zc => ?_
 go_wp2
 go_ret
 exact ⟨rfl, gT aM eT⟩
theorem yC (P Q G X B H c : Int) (n : Nat) (s : ByteArray) (hs : s.size ≤ 1000) (hr : Hid (cZ (aO s) = true)) (A : Option Addr) (es : List Int) (ca : Nat) (L : Option Addr) (cl : Nat) (al cs zs : Nat → List Int) (hval : Hid (aS P Q G X B H = true)) (dP : Hid (fK Q (n : Int) = true)) (hn : Hid (es.length = n)) (hem : Hid (es.all (av P Q) = true)) (hV : Hid (qY P Q es = c)) (hch : Hid (∀ k, k < n → Lx P Q G H s es al cs zs k)) (hQ : Q < 9223372036854775808) (w : World) (hv : Hid (Vars w)) (hd : Hid (bu w)) (hA : Hid (Sl w A es)) (hL : Hid (Lc w L n al cs zs)) :
  Calls Tryz.prog 11 #[bv P Q G X B H, .int .i64 c, .int .i64 n, .string s, Gl A n ca L n cl] w (Rt w (.bool true)) := by
 obtain ⟨k, hk, hk1, sF, _⟩ := fD dP.out
 obtain rfl : n = k := by omega
 obtain ⟨w0, HW, aM, kC⟩ := st2 (bB P Q G X B H) Ro (Qy A n ca L n cl) Rn w
 have kV := mkV aM hv
 have kD := NV aM hd
 have kA := mkS aM hA
 have kL := M6 (fun u => Lc u L n al cs zs) aM hL (·.below)
 have aA := jQ w0
 have t1 : ((n : Int) != (n : Int)) = false := by simp
 have t2 : (c != c) = false := by simp
 clear hv hd hA hL hk
 go_in
 go_upto_region 1 with (fail)
 rw [HW.out]
 have zc := kC.out _ aA
 go_wp2_with fail
 clear zc
 refine iB kC aA (bS P Q G X B H true hval hQ _ (kV.out _ aA)) fun w1 bJ zc => ?_
 go_wp2_with fail
 clear zc
 refine iB kC bJ (dH P Q G X B H n true dP _) fun w2 bM zc => ?_
 go_wp2_with fail
 clear zc t1
 refine iB kC bM (xH P Q G X B H A es n ca c hval (by omega) hem hV hn (by omega) hQ _ (kV.out _ bM) (kA.out _ bM)) fun w3 eT zc => ?_
 go_wp2
 clear zc t2
 go_loopw [55] (fun i u => ∃ k : Nat, k ≤ n ∧ i = .int .i64 k ∧ Hid (Below w0.heap.size w0 u)) (fun i _ => n - (intOf i).toNat)
 case atStart => exact ⟨0, by omega, rfl, eT⟩
 case round =>
  obtain ⟨k, hk, rfl, aG⟩ := hrel
  by_cases hlt : k < n
  ·
   obtain ⟨hme, hck⟩ := hch.out k hlt
   obtain ⟨b, o, TV, QC⟩ := (kA.out _ aG).out k (by rw [hn.out]; exact hlt)
   subst TV
   obtain ⟨lb, lo, Nf, A1, C1, Z1, a1, c1, z1, h1, h2, h3, h4, h5, h6⟩ := (kL.out _ aG).out k hlt
   subst Nf
   obtain ⟨e, he⟩ : ∃ e, es.getD k 0 = e := ⟨_, rfl⟩
   rw [he] at QC hme hck
   have NC := aa hme
   have U1 := aa hck
   have HA1 := aa h4
   have yZ := aa h5
   have HZ1 := aa h6
   have HH := aa (And.intro h1 (And.intro h2 h3))
   have ki : (k : Int) < (n : Int) := by omega
   have hO : Hid (∀ u : World, Hid (Below wr.heap.size wr u) → (u.cell? ⟨w.heap.size, 0, none⟩ = some (.int .i64 P) ∧ u.cell? ⟨w.heap.size, 1, none⟩ = some (.int .i64 Q) ∧ u.cell? ⟨w.heap.size, 2, none⟩ = some (.int .i64 G) ∧ u.cell? ⟨w.heap.size, 3, none⟩ = some (.int .i64 X) ∧ u.cell? ⟨w.heap.size, 4, none⟩ = some (.int .i64 B) ∧ u.cell? ⟨w.heap.size, 5, none⟩ = some (.int .i64 H) ∧ u.cell? ⟨w.heap.size + 1, 0, none⟩ = some (.slice (some ⟨b, o, none⟩) n ca) ∧ u.cell? ⟨w.heap.size + 1, 1, none⟩ = some (.slice (some ⟨lb, lo, none⟩) n cl) ∧ u.cell? ⟨lb, lo + k * 3, none⟩ = some (.slice A1 2 a1) ∧ u.cell? ⟨lb, lo + k * 3 + 1, none⟩ = some (.slice C1 2 c1) ∧ u.cell? ⟨lb, lo + k * 3 + 2, none⟩ = some (.slice Z1 2 z1))) := aa (fun u hu => by
    obtain ⟨q0, q1, q2, q3, q4, q5, q6, q7⟩ := kC.out _ (LB aG hu)
    exact ⟨q0, q1, q2, q3, q4, q5, q6, q7, cell_below HH.out.1 hu.out, cell_below HH.out.2.1 hu.out, cell_below HH.out.2.2 hu.out⟩)
   have zc := kC.out _ aG
   go_upto_region 9 with (fail)
   clear zc QC he hme hck h1 h2 h3 h4 h5 h6
   refine uB [] (jQ wr) (fun hHeld => ?_)
   refine dN 0 1 2 3 ?_
   refine dN 4 5 7 8 ?_
   refine dN 9 10 11 12 ?_
   refine dK 6 fun K hK => ?_
   go_simp
   refine (jY P Q G X B H e hval NC hQ _ (kV.out _ (LB aG hHeld))).mono ?_
   rintro en u1 ⟨gs, rfl, hys, hb1⟩
   have J6 := aa hys
   refine hK.out _ _ (vT hHeld hb1) (fun hHeld => ?_)
   clear hK K hb1 hys
   try simp only [qq]
   refine dK 13 fun K hK => ?_
   go_simp
   refine (x_ P Q G H (some ⟨gs, 0, none⟩) [e, qm P Q G e] 2 2 s hs hr A1 (al k) a1 C1 (cs k) c1 Z1 (zs k) z1 (aa rfl) _ ⟨rfl⟩ U1 hQ _ (kV.out _ (LB aG hHeld)) (kD.out _ (LB aG hHeld)) J6 (aa (HA1.out.below hHeld.out)) (aa (yZ.out.below hHeld.out)) (aa (HZ1.out.below hHeld.out))).mono ?_
   rintro en u2 ⟨rfl, hb2⟩
   refine hK.out _ _ (vT hHeld hb2) (fun hHeld => ?_)
   clear hK K hb2
   try simp only [qq]
   refine dY 14 ?_
   refine kT ?_
   clear hO
   have Qk := LB aG hHeld
   go_wp2
   go_roundw
   case rel => exact ⟨k + 1, by omega, by go_num, Qk⟩
   case measure => simp [intOf]; omega
  ·
   have kI := gT aM aG
   go_wp2
   go_ret
   exact ⟨rfl, kI⟩
theorem nk (P Q G A B H x : Int) (r : Bool) (hr : Hid (bH Q x = r)) (w : World) :
  Calls Tryz.prog 42 #[bv P Q G A B H, .int .i64 x] w (Rt w (.bool r)) := by
 obtain ⟨w0, HW, aM, kC⟩ := st1 (bB P Q G A B H) DD w
 have aA := jQ w0
 by_cases h0 : 0 ≤ x
 ·
  have d1 : decide ((0 : Int) ≤ x) = true := by simp [h0]
  obtain ⟨t, ht⟩ : ∃ t, decide (x < Q) = t := ⟨_, rfl⟩
  obtain rfl : t = r := by rw [← hr.out, bH, d1, ht]; rfl
  clear hr
  go_in
  go_upto_region 1 with (fail)
  rw [HW.out]
  have zc := kC.out _ aA
  go_wp2
  go_ret
  exact ⟨by first | rfl | (rw [ht]), gT aM aA⟩
 ·
  have d1 : decide ((0 : Int) ≤ x) = false := by simp; omega
  obtain rfl : r = false := by rw [← hr.out, bH, d1]; rfl
  clear hr
  go_in
  go_upto_region 1 with (fail)
  rw [HW.out]
  have zc := kC.out _ aA
  go_wp2
  go_ret
  exact ⟨rfl, gT aM aA⟩
def Cz (P Q G A B H : Int) (xs : List Int) : Int := if aS P Q G A B H = true then (if xs.all (bH Q) = true then 0 else 2) else 1
theorem oP (P Q G A B H : Int) (S : Option Addr) (xs : List Int) (n c : Nat) (r : Int) (hr : Hid (Cz P Q G A B H xs = r)) (hn : Hid (xs.length = n)) (hbig : n ≤ 1000) (hQ : Q < 9223372036854775808) (w : World) (hv : Hid (Vars w)) (hS : Hid (Sl w S xs)) :
  Calls Tryz.prog 21 #[bv P Q G A B H, .slice S n c, .slice none 0 0] w (Rt w (.int .i64 r)) := by
 obtain ⟨w0, HW, aM, kC⟩ := st1 (bB P Q G A B H) DD w
 have kV := mkV aM hv
 have kS := mkS aM hS
 have aA := jQ w0
 clear hv hS
 cases hval : aS P Q G A B H with
 | false =>
  obtain rfl : r = 1 := by rw [← hr.out, Cz, hval]; rfl
  have sS := aa hval
  clear hr hval
  go_in
  go_upto_region 1 with (fail)
  rw [HW.out]
  have zc := kC.out _ aA
  go_wp2_with fail
  clear zc
  refine iB kC aA (bS P Q G A B H false sS hQ _ (kV.out _ aA)) fun w1 bJ zc => ?_
  go_wp2
  go_ret
  exact ⟨rfl, gT aM bJ⟩
 | true =>
  have sS := aa hval
  have HR : Hid ((if xs.all (bH Q) = true then (0 : Int) else 2) = r) := aa (by rw [← hr.out, Cz, hval]; rfl)
  clear hr hval
  go_in
  go_upto_region 1 with (fail)
  rw [HW.out]
  have zc := kC.out _ aA
  go_wp2_with fail
  clear zc
  refine iB kC aA (bS P Q G A B H true sS hQ _ (kV.out _ aA)) fun w1 bJ zc => ?_
  go_wp2
  clear zc
  go_loopw [16] (fun i u => ∃ k : Nat, k ≤ n ∧ i = .int .i64 k ∧ Hid (xs.all (bH Q) = (xs.drop k).all (bH Q)) ∧ Hid (Below w0.heap.size w0 u)) (fun i _ => n - (intOf i).toNat)
  case atStart => exact ⟨0, by omega, rfl, aa rfl, bJ⟩
  case round =>
   obtain ⟨k, hk, rfl, HA, aG⟩ := hrel
   by_cases hlt : k < n
   ·
    have hkl : k < xs.length := by rw [hn.out]; exact hlt
    obtain ⟨b, o, TL, i0⟩ := (kS.out _ aG).out k hkl
    subst TL
    obtain ⟨x, hx⟩ : ∃ x, xs.getD k 0 = x := ⟨_, rfl⟩
    rw [hx] at i0
    have zc := kC.out _ aG
    cases hs : bH Q x with
    | true =>
     have HS := aa hs
     have HA2 : Hid (xs.all (bH Q) = (xs.drop (k + 1)).all (bH Q)) := aa (by rw [HA.out, iA hkl, hx, hs, Bool.true_and])
     clear hs hx HA
     go_wp2_with fail
     clear zc i0
     refine iB kC aG (nk P Q G A B H x true HS _) fun w2 bM zc => ?_
     go_wp2
     go_roundw
     case rel => exact ⟨k + 1, by omega, by go_num, HA2, bM⟩
     case measure => simp [intOf]; omega
    | false =>
     have HS := aa hs
     have HF : xs.all (bH Q) = false := by rw [HA.out, iA hkl, hx, hs, Bool.false_and]
     obtain rfl : r = 2 := by rw [← HR.out, HF]; rfl
     clear hs hx HA HF
     go_wp2_with fail
     clear zc i0
     refine iB kC aG (nk P Q G A B H x false HS _) fun w2 bM zc => ?_
     go_wp2
     go_ret
     exact ⟨rfl, gT aM bM⟩
   ·
    obtain rfl : k = n := by omega
    have HT : xs.all (bH Q) = true := by rw [HA.out, ← hn.out, List.drop_length]; rfl
    obtain rfl : r = 0 := by rw [← HR.out, HT]; rfl
    clear HT HA
    have zc := kC.out _ aG
    go_wp2
    clear zc
    go_loopw [27] (fun i u => i = .int .i64 0 ∧ Hid (Below w0.heap.size w0 u)) (fun i _ => 0)
    case atStart => exact ⟨rfl, aG⟩
    case round =>
     obtain ⟨rfl, Qk⟩ := hrel
     go_wp2
     go_ret
     exact ⟨rfl, gT aM Qk⟩
theorem xw (P Q G A B H m r V : Int) (hV : Hid (dz P 1 [G, H] [m, r] = V)) (hval : Hid (aS P Q G A B H = true)) (hm : Hid (bH Q m = true)) (hr : Hid (bH Q r = true)) (hQ : Q < 9223372036854775808) (w : World) (hv : Hid (Vars w)) :
  Calls Tryz.prog 22 #[bv P Q G A B H, .int .i64 m, .int .i64 r] w (Rt w (.int .i64 V)) := by
 obtain ⟨hg, hA, hB, hH, nA, nB, nH⟩ := bn hval.out
 obtain ⟨w0, HW, aM, kC⟩ := st1 (bB P Q G A B H) DD w
 have kV := mkV aM hv
 have aA := jQ w0
 clear hv
 have HG := aa hg
 have HX : Hid ([G, H].all (av P Q) = true) := aa (all2 (dA hg) hH)
 have HE : Hid ([m, r].all (bH Q) = true) := aa (all2 hm.out hr.out)
 clear hg hA hB hH nA nB nH
 go_in
 go_upto_region 1 with (fail)
 rw [HW.out]
 have zc := kC.out _ aA
 have bJ : Hid (Below w0.heap.size w0 ((w0.alloc (.cells #[.int .i64 G, .int .i64 H] 3)).alloc (.cells #[.int .i64 m, .int .i64 r] 3))) := aa (aB (Below.refl _ _))
 have Nu : Hid (Sl ((w0.alloc (.cells #[.int .i64 G, .int .i64 H] 3)).alloc (.cells #[.int .i64 m, .int .i64 r] 3)) (some ⟨w0.heap.size, 0, none⟩) [G, H]) := aa ((sl2 w0 3 G H).below (af _ _))
 have Nv : Hid (Sl ((w0.alloc (.cells #[.int .i64 G, .int .i64 H] 3)).alloc (.cells #[.int .i64 m, .int .i64 r] 3)) (some ⟨w0.heap.size + 1, 0, none⟩) [m, r]) := aa (sl2' w0 _ 3 m r)
 go_wp2_with fail
 clear zc
 refine iB kC bJ (ji P Q G (some ⟨w0.heap.size, 0, none⟩) [G, H] 2 2 (some ⟨w0.heap.size + 1, 0, none⟩) [m, r] 2 V hV (aa rfl) (aa rfl) (by omega) HG HX HE hQ _ (kV.out _ bJ) Nu Nv) fun w2 bM zc => ?_
 go_wp2
 go_ret
 exact ⟨rfl, gT aM bM⟩
def H_ (P Q G A B H m r : Int) : Int := if Cz P Q G A B H [m, r] = 0 then dz P 1 [G, H] [m, r] else 0
theorem Gn {P Q G A B H m r : Int} (h : Cz P Q G A B H [m, r] = 0) : aS P Q G A B H = true ∧ bH Q m = true ∧ bH Q r = true := by
 unfold Cz at h
 by_cases h1 : aS P Q G A B H = true
 ·
  rw [if_pos h1] at h
  by_cases h2 : [m, r].all (bH Q) = true
  · simp at h2; exact ⟨h1, h2.1, h2.2⟩
  · rw [if_neg h2] at h; exact absurd h (by decide)
 · rw [if_neg h1] at h; exact absurd h (by decide)
theorem ny (P Q G A B H m r V e : Int) (he : Hid (Cz P Q G A B H [m, r] = e)) (hV : Hid (H_ P Q G A B H m r = V)) (hQ : Q < 9223372036854775808) (w : World) (hv : Hid (Vars w)) :
  Calls Tryz.prog 8 #[bv P Q G A B H, .int .i64 m, .int .i64 r] w (Rt w (.tuple #[.int .i64 V, .int .i64 e])) := by
 obtain ⟨w0, HW, aM, kC⟩ := st1 (bB P Q G A B H) DD w
 have kV := mkV aM hv
 have aA := jQ w0
 clear hv
 have bJ : Hid (Below w0.heap.size w0 (w0.alloc (.cells #[.int .i64 m, .int .i64 r] 3))) := aa (af _ _)
 have z_ : Hid (Sl (w0.alloc (.cells #[.int .i64 m, .int .i64 r] 3)) (some ⟨w0.heap.size, 0, none⟩) [m, r]) := aa (sl2 w0 3 m r)
 by_cases h0 : e = 0
 ·
  subst h0
  obtain ⟨hval, hm, hr⟩ := Gn he.out
  have sS := aa hval
  have HM := aa hm
  have HR := aa hr
  have Pg : Hid (dz P 1 [G, H] [m, r] = V) := aa (by rw [← hV.out, H_, if_pos he.out])
  clear hval hm hr hV
  go_in
  go_upto_region 1 with (fail)
  rw [HW.out]
  have zc := kC.out _ aA
  go_wp2_with fail
  clear zc
  refine iB kC bJ (oP P Q G A B H (some ⟨w0.heap.size, 0, none⟩) [m, r] 2 2 0 he (aa rfl) (by omega) hQ _ (kV.out _ bJ) z_) fun w2 bM zc => ?_
  go_wp2_with fail
  clear zc
  refine iB kC bM (xw P Q G A B H m r V Pg sS HM HR hQ _ (kV.out _ bM)) fun w3 eT zc => ?_
  go_wp2
  go_ret2
  exact ⟨rfl, gT aM eT⟩
 ·
  have hne : (e != 0) = true := by simp [h0]
  obtain rfl : V = 0 := by rw [← hV.out, H_, if_neg (by rw [he.out]; exact h0)]
  clear hV h0
  go_in
  go_upto_region 1 with (fail)
  rw [HW.out]
  have zc := kC.out _ aA
  go_wp2_with fail
  clear zc
  refine iB kC bJ (oP P Q G A B H (some ⟨w0.heap.size, 0, none⟩) [m, r] 2 2 e he (aa rfl) (by omega) hQ _ (kV.out _ bJ) z_) fun w2 bM zc => ?_
  go_wp2
  go_ret2
  exact ⟨rfl, gT aM bM⟩
theorem vY (x : Int) (w : World) : Calls Tryz.prog 46 #[.int .u8 x] w fun e w' => e = .returned (.bool (bW x)) ∧ w = w' := by
 by_cases h1 : x < 33
 ·
  have e : bW x = true := by simp [bW, h1]
  have d1 : decide (x < 33) = true := by simp [h1]
  rw [e]
  clear e
  go_in
  go_wp2
  go_ret
  exact ⟨rfl, rfl⟩
 ·
  have d1 : decide (x < 33) = false := by simp [h1]
  have e : bW x = decide (126 < x) := by simp [bW, h1]
  rw [e]
  clear e
  go_in
  go_wp2
  go_ret
  exact ⟨rfl, rfl⟩
theorem Fu (A : Option Addr) (xs : List Int) (n c : Nat) (hn : Hid (xs.length = n)) (hbig : n ≤ 100000) (w : World) (hs : Hid (Sk .u8 w A xs)) :
  Calls Tryz.prog 76 #[.slice A n c, .func (.func 46) #[] #[]] w (ng bW xs w) := by
 go_in
 go_wp2
 go_loopw [8] (fun i wr => ∃ k : Nat, k ≤ n ∧ i = .int .i64 k ∧ Hid (xs.any bW = (xs.drop k).any bW) ∧ Hid (Below w.heap.size w wr)) (fun i _ => n - (intOf i).toNat)
 case atStart => exact ⟨0, by omega, rfl, aa rfl, aa (Below.refl _ _)⟩
 case round =>
  obtain ⟨k, hk, rfl, HR, aG⟩ := hrel
  by_cases hlt : k < n
  ·
   have hkl : k < xs.length := by rw [hn.out]; exact hlt
   obtain ⟨b, o, hA, hi⟩ := (hs.out.below aG.out) k hkl
   subst hA
   cases hpx : bW (xs.getD k 0) with
   | false =>
    have HN : Hid (xs.any bW = (xs.drop (k + 1)).any bW) := aa (HR.out.trans (bT hkl hpx))
    obtain ⟨x, hx⟩ : ∃ x, xs.getD k 0 = x := ⟨_, rfl⟩
    rw [hx] at hi hpx
    have pY := aa hpx
    clear hx hkl hpx HR
    go_wp2_with fail
    refine (vY x _).mono ?_
    rintro e w2 ⟨rfl, rfl⟩
    rw [pY.out]
    go_wp2
    go_roundw
    case rel => exact ⟨k + 1, by omega, by go_num, HN, aG⟩
    case measure => simp [intOf]; omega
   | true =>
    have HN : Hid (xs.any bW = true) := aa (HR.out.trans (bL hkl hpx))
    obtain ⟨x, hx⟩ : ∃ x, xs.getD k 0 = x := ⟨_, rfl⟩
    rw [hx] at hi hpx
    have pY := aa hpx
    clear hx hkl hpx HR
    go_wp2_with fail
    refine (vY x _).mono ?_
    rintro e w2 ⟨rfl, rfl⟩
    rw [pY.out]
    go_wp2
    go_ret
    exact ⟨_, rfl, by rw [HN.out]; simp, aG.out⟩
  ·
   have HN : Hid (xs.any bW = false) := aa (by
    have h := HR.out
    rwa [List.drop_of_length_le (by have := hn.out; omega)] at h)
   clear HR
   go_wp2
   go_ret
   exact ⟨_, rfl, by rw [HN.out]; rfl, aG.out⟩
theorem I7 (A : Option Addr) (xs : List Int) (n c : Nat) (r : Bool) (hr : Hid (xs.any bW = r)) (hn : Hid (xs.length = n)) (hbig : n ≤ 100000) (w : World) (hs : Hid (Sk .u8 w A xs)) :
  Calls Tryz.prog 45 #[.slice A n c, .func (.func 46) #[] #[]] w (Rt w (.bool r)) := by
 go_in
 go_wp2_with fail
 refine (Fu A xs n c hn hbig _ hs).mono ?_
 rintro e w' ⟨i, rfl, hdi, hb0⟩
 have HD : Hid (decide (0 ≤ i) = r) := aa (hdi.trans hr.out)
 clear hdi
 go_wp2
 go_ret
 exact ⟨by first | rfl | (rw [← HD.out]; rfl), hb0⟩
theorem jH (s : ByteArray) (hs : s.size ≤ 1000) (r : Bool) (hr : Hid (cZ (aO s) = r)) (w : World) :
  Calls Tryz.prog 24 #[.string s] w (Rt w (.bool r)) := by
 by_cases h1 : s.size < 1
 ·
  have e : r = false := by rw [← hr.out, cZ, aN, decide_eq_false (by omega)]; rfl
  have d1 : decide ((1 : Int) ≤ (s.size : Int)) = false := by simp; omega
  subst e
  clear hr
  go_in
  go_wp2
  go_ret
  exact ⟨rfl, Below.refl _ _⟩
 ·
  have d1 : decide ((1 : Int) ≤ (s.size : Int)) = true := by simp; omega
  by_cases h2 : 24 < s.size
  ·
   have e : r = false := by rw [← hr.out, cZ, aN, decide_eq_false (show ¬ s.size ≤ 24 by omega)]; simp
   have d2 : decide ((s.size : Int) ≤ 24) = false := by simp; omega
   subst e
   clear hr
   go_in
   go_wp2
   go_ret
   exact ⟨rfl, Below.refl _ _⟩
  ·
   have d2 : decide ((s.size : Int) ≤ 24) = true := by simp; omega
   obtain ⟨q, hq⟩ : ∃ q, (aO s).any bW = q := ⟨_, rfl⟩
   have e : r = !q := by rw [← hr.out, cZ, aN, decide_eq_true (by omega), decide_eq_true (by omega), hq]; rfl
   subst e
   have HQ := aa hq
   have hcv := fun w => run_bytes_of_string (P := Tryz.prog) w 9 78 5 s Tryz.underlying9 Tryz.underlying78 Tryz.underlying5
   clear hr hq
   go_in
   go_wp2_with fail
   clear hcv
   obtain ⟨Wc, hWc⟩ : ∃ u, (w.alloc (.cells (bytesRow s (grownCap w s.size 0 5)) 5 ((bytesRow s (grownCap w s.size 0 5)).size, (bytesRow s (grownCap w s.size 0 5)).size + 1))).drew = u := ⟨_, rfl⟩
   have qf : Hid (Below w.heap.size w Wc) := aa (by rw [← hWc]; exact (af _ _).drew)
   have HSc : Hid (Sk .u8 Wc (some ⟨w.heap.size, 0, none⟩) (aO s)) := aa (by
    rw [← hWc]
    exact mX (heap_alloc_new w _))
   obtain ⟨gc, hgc⟩ : ∃ g, grownCap w s.size 0 5 = g := ⟨_, rfl⟩
   rw [hWc, hgc]
   clear hWc hgc
   refine (I7 (some ⟨w.heap.size, 0, none⟩) (aO s) s.size gc q HQ (aa (aN s)) (by omega) _ HSc).mono ?_
   rintro e w2 ⟨rfl, hb2⟩
   have hbf := ag qf.out hb2
   clear hb2
   go_wp2
   go_ret
   exact ⟨by first | rfl | simp, hbf⟩
def lw (d : Int) : Nat → Nat → Nat
 | n, 0 => n
 | n, f + 1 => if d < 2 ^ n then n else lw d (n + 1) f
theorem CQ (d : Int) : ∀ f n, n ≤ lw d n f
 | 0, n => Nat.le_refl n
 | f + 1, n => by
  rw [lw]
  by_cases h : d < 2 ^ n
  · rw [if_pos h]; exact Nat.le_refl n
  · rw [if_neg h]; exact Nat.le_trans (Nat.le_succ n) (CQ d f (n + 1))
theorem Gp (d : Int) : ∀ f n, d < 2 ^ (n + f) → d < 2 ^ (lw d n f)
 | 0, n, h => h
 | f + 1, n, h => by
  rw [lw]
  by_cases e : d < 2 ^ n
  · rw [if_pos e]; exact e
  · rw [if_neg e]; exact Gp d f (n + 1) (by rwa [show n + 1 + f = n + (f + 1) by omega])
theorem Gq {d : Int} {n f : Nat} (h : d < 2 ^ n) : lw d n f = n := by
 cases f with
 | zero => rfl
 | succ f => rw [lw, if_pos h]
theorem CP {d : Int} {n f : Nat} (h : ¬ d < 2 ^ n) (hf : 1 ≤ f) : lw d n f = lw d (n + 1) (f - 1) := by
 obtain ⟨k, rfl⟩ : ∃ k, f = k + 1 := ⟨f - 1, by omega⟩
 rw [lw, if_neg h, Nat.add_sub_cancel]
theorem lH {n : Nat} (h : n ≤ 62) : 1 ≤ (2 : Int) ^ n ∧ (2 : Int) ^ n ≤ 4611686018427387904 := by
 have h1 : (2 : Nat) ^ n ≤ 2 ^ 62 := Nat.pow_le_pow_right (by decide) h
 have h2 : 0 < (2 : Nat) ^ n := Nat.pow_pos (by decide)
 have e : ((2 ^ n : Nat) : Int) = (2 : Int) ^ n := Int.natCast_pow 2 n
 rw [← e]
 omega
def iy (Q low high : Int) : Bool := decide (0 ≤ low) && (decide (low ≤ high) && decide (high < Q))
def tJ (low high : Int) : Nat := lw (high - low) 1 61
def tK (Q : Int) (n : Nat) : Bool := decide (n ≤ 16) && decide ((2 : Int) ^ (n + 1) ≤ Q)
theorem Ad (P Q G A B H low high : Int) (hb : Hid (iy Q low high = false)) (w : World) :
  Calls Tryz.prog 33 #[bv P Q G A B H, .int .i64 low, .int .i64 high] w (Rt w (.tuple #[.int .i64 0, .bool false])) := by
 obtain ⟨w0, HW, aM, kC⟩ := st1 (bB P Q G A B H) DD w
 have aA := jQ w0
 by_cases h0 : low < 0
 ·
  have d1 : decide (low < (0 : Int)) = true := by simp [h0]
  clear hb
  go_in
  go_upto_region 1 with (fail)
  rw [HW.out]
  have zc := kC.out _ aA
  go_wp2
  go_ret2
  exact ⟨rfl, gT aM aA⟩
 ·
  have d1 : decide (low < (0 : Int)) = false := by simp; omega
  by_cases h1 : high < low
  ·
   have d2 : decide (high < low) = true := by simp [h1]
   clear hb
   go_in
   go_upto_region 1 with (fail)
   rw [HW.out]
   have zc := kC.out _ aA
   go_wp2
   go_ret2
   exact ⟨rfl, gT aM aA⟩
  ·
   have d2 : decide (high < low) = false := by simp; omega
   have d3 : decide (Q ≤ high) = true := by
    have h := hb.out
    rw [iy, decide_eq_true (by omega : 0 ≤ low), decide_eq_true (by omega : low ≤ high), Bool.true_and, Bool.true_and] at h
    simp at h; simp; omega
   clear hb
   go_in
   go_upto_region 1 with (fail)
   rw [HW.out]
   have zc := kC.out _ aA
   go_wp2
   go_ret2
   exact ⟨rfl, gT aM aA⟩
theorem oH (P Q G A B H low high : Int) (hb : Hid (iy Q low high = true)) (hQ : Q < 2305843009213693952) (n : Nat) (r : Bool) (hn : Hid (tJ low high = n)) (hr : Hid (tK Q n = r)) (w : World) :
    Calls Tryz.prog 33 #[bv P Q G A B H, .int .i64 low, .int .i64 high] w (Rt w (.tuple #[.int .i64 n, .bool r])) := by
  obtain ⟨w0, HW, aM, kC⟩ := st1 (bB P Q G A B H) DD w
  have aA := jQ w0
  obtain ⟨h0, h1, h2⟩ : 0 ≤ low ∧ low ≤ high ∧ high < Q := by have h := hb.out; simp [iy] at h; omega
  have d1 : decide (low < (0 : Int)) = false := by simp; omega
  have d2 : decide (high < low) = false := by simp; omega
  have d3 : decide (Q ≤ high) = false := by simp; omega
  obtain ⟨d, hd⟩ : ∃ d, high - low = d := ⟨_, rfl⟩
  have hdb : 0 ≤ d ∧ d < 2305843009213693952 := by omega
  have dw : wrap64 (high - low) = d := by rw [← hd]; exact IntWalk.wrap64_in _ (by omega)
  have ND : Hid (lw d 1 61 = n) := aa (by rw [← hn.out, tJ, hd])
  have hd2 := aa hd
  clear hb hn hd dw
  go_in
  go_upto_region 1 with (fail)
  rw [HW.out]
  have zc := kC.out _ aA
  go_wp2
  clear zc
  go_loopw [8] (fun v u => ∃ k : Nat, 1 ≤ k ∧ k ≤ 62 ∧ v = .int .i64 k ∧ Hid (lw d k (62 - k) = n) ∧ Hid (Below w0.heap.size w0 u)) (fun v _ => 62 - (intOf v).toNat)
  case atStart => exact ⟨1, by omega, by omega, rfl, ND, aA⟩
  case round =>
    obtain ⟨k, hk1, hk2, rfl, HL, aG⟩ := hrel
    obtain ⟨p1, p2⟩ := lH hk2
    by_cases hlt : d < (2 : Int) ^ k
    · obtain rfl : k = n := by rw [← HL.out, Gq hlt]
      have e1 : decide ((2 : Int) ^ k ≤ high - low) = false := by rw [hd2.out]; simp; omega
      have zc := kC.out _ aG
      clear hlt HL
      by_cases h16 : k ≤ 16
      · have d4 : decide (k ≤ 16) = true := by simp [h16]
        have Uc : decide ((k : Int) ≤ (16 : Int)) = true := by simp; omega
        obtain ⟨r1, r2⟩ := lH (n := k + 1) (by omega)
        have hrr : decide ((2 : Int) ^ (k + 1) ≤ Q) = r := by rw [← hr.out, tK, d4, Bool.true_and]
        clear hr
        go_upto_region 6 with (fail)
        go_quiet (fail)
        go_wp2
        go_ret2
        exact ⟨by first | rfl | rw [hrr], ax (gT aM aG) nq⟩
      · have Uc : decide ((k : Int) ≤ (16 : Int)) = false := by simp; omega
        obtain rfl : r = false := by rw [← hr.out, tK, decide_eq_false h16]; rfl
        clear hr
        go_upto_region 6 with (fail)
        go_quiet (fail)
        go_wp2
        go_ret2
        exact ⟨rfl, ax (gT aM aG) nq⟩
    · have Tu : k < 62 := by
        rcases Nat.lt_or_ge k 62 with h | h
        · exact h
        · exfalso
          obtain rfl : k = 62 := by omega
          exact hlt (by have : (2 : Int) ^ 62 = 4611686018427387904 := by decide
                        omega)
      have HL2 : Hid (lw d (k + 1) (62 - (k + 1)) = n) := aa (by rw [← HL.out, CP hlt (by omega), show 62 - k - 1 = 62 - (k + 1) by omega])
      have e1 : decide ((2 : Int) ^ k ≤ high - low) = true := by rw [hd2.out]; simp; omega
      have zc := kC.out _ aG
      clear hlt HL
      go_wp2
      go_roundw
      case rel => exact ⟨k + 1, by omega, by omega, by go_num, HL2, aG⟩
      case measure => simp [intOf]; omega
def uP (Q low high : Int) : Int := if iy Q low high = true then (if tK Q (tJ low high) = true then (tJ low high : Int) else 0) else 0
theorem bZ (P Q G A B H low high : Int) (hQ : Q < 2305843009213693952) (r : Int) (hr : Hid (uP Q low high = r)) (w : World) :
  Calls Tryz.prog 13 #[bv P Q G A B H, .int .i64 low, .int .i64 high] w (Rt w (.int .i64 r)) := by
 obtain ⟨w0, HW, aM, kC⟩ := st1 (bB P Q G A B H) DD w
 have aA := jQ w0
 cases hb : iy Q low high with
 | false =>
  obtain rfl : r = 0 := by rw [← hr.out, uP, hb]; rfl
  by_cases h0 : low < 0
  ·
   have d1 : decide (low < (0 : Int)) = true := by simp [h0]
   clear hb hr
   go_in
   go_upto_region 1 with (fail)
   rw [HW.out]
   have zc := kC.out _ aA
   go_wp2
   go_ret
   exact ⟨rfl, gT aM aA⟩
  ·
   have d1 : decide (low < (0 : Int)) = false := by simp; omega
   by_cases h1 : high < low
   ·
    have d2 : decide (high < low) = true := by simp [h1]
    clear hb hr
    go_in
    go_upto_region 1 with (fail)
    rw [HW.out]
    have zc := kC.out _ aA
    go_wp2
    go_ret
    exact ⟨rfl, gT aM aA⟩
   ·
    have d2 : decide (high < low) = false := by simp; omega
    have d3 : decide (Q ≤ high) = true := by
     rw [iy, decide_eq_true (by omega : 0 ≤ low), decide_eq_true (by omega : low ≤ high), Bool.true_and, Bool.true_and] at hb
     simp at hb; simp; omega
    clear hb hr
    go_in
    go_upto_region 1 with (fail)
    rw [HW.out]
    have zc := kC.out _ aA
    go_wp2
    go_ret
    exact ⟨rfl, gT aM aA⟩
 | true =>
  obtain ⟨h0, h1, h2⟩ : 0 ≤ low ∧ low ≤ high ∧ high < Q := by simp [iy] at hb; omega
  have d1 : decide (low < (0 : Int)) = false := by simp; omega
  have d2 : decide (high < low) = false := by simp; omega
  have d3 : decide (Q ≤ high) = false := by simp; omega
  obtain ⟨d, hd⟩ : ∃ d, high - low = d := ⟨_, rfl⟩
  have hdb : 0 ≤ d ∧ d < 2305843009213693952 := by omega
  have HR : Hid ((if tK Q (tJ low high) = true then (tJ low high : Int) else 0) = r) := aa (by rw [← hr.out, uP, hb]; rfl)
  have ND : Hid (lw d 1 61 = tJ low high) := aa (by rw [tJ, hd])
  have hd2 := aa hd
  obtain ⟨n, hn⟩ : ∃ n, tJ low high = n := ⟨_, rfl⟩
  rw [hn] at HR ND
  clear hb hr hd hn
  go_in
  go_upto_region 1 with (fail)
  rw [HW.out]
  have zc := kC.out _ aA
  go_wp2
  clear zc
  go_loopw [7] (fun v u => ∃ k : Nat, 1 ≤ k ∧ k ≤ 17 ∧ v = .int .i64 k ∧ Hid (lw d k (62 - k) = n) ∧ Hid (Below w0.heap.size w0 u)) (fun v _ => 18 - (intOf v).toNat)
  case atStart => exact ⟨1, by omega, by omega, rfl, ND, aA⟩
  case round =>
   obtain ⟨k, hk1, hk2, rfl, HL, aG⟩ := hrel
   obtain ⟨p1, p2⟩ := lH (n := k) (by omega)
   by_cases TZ : k = 17
   ·
    subst TZ
    have Tq : 17 ≤ n := by rw [← HL.out]; exact CQ _ _ _
    obtain rfl : r = 0 := by rw [← HR.out, tK, decide_eq_false (by omega)]; rfl
    clear HL HR
    go_wp2
    go_ret
    exact ⟨rfl, gT aM aG⟩
   ·
    by_cases hlt : d < (2 : Int) ^ k
    ·
     obtain rfl : k = n := by rw [← HL.out, Gq hlt]
     have e1 : decide (high - low < (2 : Int) ^ k) = true := by rw [hd2.out]; simp; omega
     have zc := kC.out _ aG
     obtain ⟨r1, r2⟩ := lH (n := k + 1) (by omega)
     have d4 : decide ((k : Int) ≤ (16 : Int)) = true := by simp; omega
     clear hlt HL
     have e2 : (2 : Int) ^ (k + 1) = 2 * 2 ^ k := by rw [Int.pow_succ, Int.mul_comm]
     rw [e2] at r1 r2
     cases hrr : decide (2 * (2 : Int) ^ k ≤ Q) with
     | true =>
      obtain rfl : r = (k : Int) := by rw [← HR.out, tK, decide_eq_true (by omega : k ≤ 16), e2, hrr]; rfl
      clear HR e2
      go_wp2
      go_ret
      exact ⟨rfl, gT aM aG⟩
     | false =>
      obtain rfl : r = 0 := by rw [← HR.out, tK, e2, hrr]; simp
      clear HR e2
      go_wp2
      go_ret
      exact ⟨rfl, gT aM aG⟩
    ·
     have HL2 : Hid (lw d (k + 1) (62 - (k + 1)) = n) := aa (by rw [← HL.out, CP hlt (by omega), show 62 - k - 1 = 62 - (k + 1) by omega])
     have e1 : decide (high - low < (2 : Int) ^ k) = false := by rw [hd2.out]; simp; omega
     have zc := kC.out _ aG
     have d4 : decide ((k : Int) ≤ (16 : Int)) = true := by simp; omega
     clear hlt HL
     go_wp2
     go_roundw
     case rel => exact ⟨k + 1, by omega, by omega, by go_num, HL2, aG⟩
     case measure => simp [intOf]; omega
def Gi (w : World) (e : Ending) (w' : World) : Prop := e = .returned (.tuple #[.slice none 0 0, .int .i64 2]) ∧ Below w.heap.size w w'
theorem Bi (m : Int) (n : Nat) (h1 : 1 ≤ n) (h2 : n ≤ 16) (h0 : 0 ≤ m) (hm : 2 ^ n ≤ m) (w : World) : Calls Tryz.prog 15 #[.int .i64 m, .int .i64 n] w (Gi w) := by
 obtain ⟨q1, q2⟩ := qU h2
 obtain ⟨M, hM⟩ : ∃ M, (2 : Int) ^ n = M := ⟨_, rfl⟩
 rw [hM] at q1 q2 hm
 have hsh : wrap64 ((2 : Int) ^ n) = M := by rw [hM]; exact IntWalk.wrap64_in _ (by omega)
 have d1 : decide ((n : Int) < 1) = false := by simp; omega
 have d2 : decide ((16 : Int) < (n : Int)) = false := by simp; omega
 have d3 : decide (m < 0) = false := by simp; omega
 have d4 : decide (M ≤ m) = true := by simp; omega
 clear hM
 go_in
 go_wp2
 go_ret2
 exact ⟨rfl, Below.refl _ _⟩
theorem FW (w : World) : Calls Tryz.prog 17 #[] w (Rt w (bv 23 11 4 2 3 9)) := by
 go_in
 go_wp2
 exact bodyPost_ret (v := bv 23 11 4 2 3 9) (by simp [results, Tryz.results17, go_sem]) rfl ⟨rfl, af _ _⟩
section
variable {P : Program} {ops : Array Oper} {Q : Exit → Act → World → Prop} {md : Region.Mode} {S S' : World → Prop} {E E' : List Nat}
theorem qM : ∀ (fuel : Nat) (listed : Array Bool) (a : Act) (w : World), (∀ i, listed.getD i true = false → i ∈ E) → fG P md ops Q S' E' fuel listed a w → fG P md ops Q S E fuel listed a w
 | 0, _, _, _, _, h => h
 | fuel + 1, listed, _, _, hE, h => ⟨h.1, fun i hi => wpOp_mono (fun a' w' h' => ⟨fun hne => absurd (hE i (mem_ready.1 hi).1) hne, qM fuel _ a' w' (fun j hj => hE j (by
   by_cases e : i = j
   ·
    subst e
    rcases Nat.lt_or_ge i listed.size with h1 | h1
    · simp [h1] at hj
    · simp [Array.getElem?_eq_none h1] at hj
   · rwa [getD_set_ne true e] at hj)) h'.2⟩) (h.2 i hi)⟩
theorem BD (S' : World → Prop) (E' : List Nat) {fuel : Nat} {listed : Array Bool} {a : Act} {w : World} (h : fG P md ops Q S' E' fuel listed a w) (hE : ((List.range listed.size).all fun i => listed.getD i true || E.contains i) = true := by kernel_rfl) : fG P md ops Q S E fuel listed a w :=
 qM _ _ _ _ (fun i hi => by
  rcases Nat.lt_or_ge i listed.size with h1 | h1
  ·
   have h2 := List.all_eq_true.1 hE i (List.mem_range.2 h1)
   rw [hi] at h2
   simpa using h2
  · simp [Array.getElem?_eq_none h1] at hi) h
end
def mF (h : List Int) (q c : Int) : Nat → Int
 | 0 => c
 | k + 1 => qB h q (mF h q c k)
theorem sG {h : List Int} {q c : Int} : ∀ k : Nat, c + 256 * k ≤ 1099511627776 → c ≤ mF h q c k ∧ mF h q c k ≤ c + 256 * k
 | 0, _ => ⟨Int.le_refl _, by show c ≤ c + 256 * 0; omega⟩
 | k + 1, hc => by
  obtain ⟨a, b⟩ := sG (h := h) (q := q) (c := c) k (by omega)
  have d1 := kK (h := h) (q := q) (c := mF h q c k) (by omega)
  rw [mF]
  omega
def wR (h : List Int) (q c : Int) (i : Nat) : Int := tL h q (mF h q c (i - 1))
theorem Dk {h : List Int} {q c : Int} (hq : 1 ≤ q) (i : Nat) : 0 ≤ wR h q c i ∧ wR h q c i < q := gN hq
def gM (h : List Int) (q r c : Int) (n : Nat) : Nat → Int := qy q r (wR h q c) n
theorem oh {h : List Int} {q r c : Int} (hq : 1 ≤ q) (r0 : 0 ≤ r) (r1 : r < q) (n i : Nat) : 0 ≤ gM h q r c n i ∧ gM h q r c n i < q := by
 rw [gM, qy]
 by_cases e : i = 0
 · rw [if_pos e]; exact sH hq r0 r1 _
 · rw [if_neg e]; exact Dk hq i
def nI (m : Int) (k : Nat) : Nat := (m / 2 ^ k % 2).toNat
theorem yH (m : Int) (k : Nat) : ((nI m k : Nat) : Int) = m / 2 ^ k % 2 := Int.toNat_of_nonneg (Int.emod_nonneg _ (by decide))
theorem yG (m : Int) (k : Nat) : nI m k < 2 := by
 have h := yH m k
 have h2 := Int.emod_lt_of_pos (m / 2 ^ k) (show (0 : Int) < 2 by decide)
 omega
def mK (h : List Int) (q m c : Int) : Nat → Int
 | 0 => c
 | k + 1 => iQ h q (mK h q m c k) (nI m k) 2
theorem oU {h : List Int} {q m c : Int} : ∀ k : Nat, c + 1024 * k ≤ 1099511627776 → c ≤ mK h q m c k ∧ mK h q m c k ≤ c + 1024 * k
 | 0, _ => ⟨Int.le_refl _, by show c ≤ c + 1024 * 0; omega⟩
 | k + 1, hc => by
  obtain ⟨a, b⟩ := oU (h := h) (q := q) (m := m) (c := c) k (by omega)
  have d1 := pV (h := h) (q := q) (c := mK h q m c k) (wh := nI m k) 2 (by omega)
  rw [mK]
  omega
theorem Dz {h : List Int} {q c : Int} {wh : Nat} (hc : c + 1024 ≤ 1099511627776) : c < iQ h q c wh 2 := by
 have d0 := pV (h := h) (q := q) (c := c) (wh := wh) 1 (by omega)
 have d1 := kK (h := h) (q := q) (c := iQ h q c wh 1) (by omega)
 have d2 := kK (h := h) (q := q) (c := qB h q (iQ h q c wh 1)) (by omega)
 rw [iQ]
 by_cases e : 1 = wh
 · rw [if_pos e]; omega
 · rw [if_neg e]; omega
def vz (P Q G H : Int) (h : List Int) (m r c : Int) (n : Nat) : List Int := yj P G H (fun i => m / 2 ^ i % 2) (gM h Q r c n) n
def Br (P Q G e : Int) : List Int := [e, qm P Q G e]
def Jj (P Q G H : Int) (h : List Int) (m c : Int) (es : List Int) (k : Nat) : List Int := qE P Q H (Br P Q G (es.getD k 0)) h (mK h Q m c k) (nI m k) 2
def FO (P Q G H : Int) (s : ByteArray) (h : List Int) (m c : Int) (es : List Int) (k : Nat) : Int := nE P Q G H (aO s) (Br P Q G (es.getD k 0)) (Jj P Q G H h m c es k)
def Lt (P Q G H : Int) (s : ByteArray) (h : List Int) (m c : Int) (es : List Int) (k : Nat) : List Int := (vR h Q (mK h Q m c k) (nI m k) 2).set (nI m k) (mW h Q (mK h Q m c k) (nI m k) 2 (FO P Q G H s h m c es k))
def Km (P Q G H : Int) (s : ByteArray) (h : List Int) (m c : Int) (es : List Int) (f : Nat → Int) (k : Nat) : List Int := (GG h Q (mK h Q m c k) (nI m k) 2).set (nI m k) (rR h Q (mK h Q m c k) (nI m k) 2 (FO P Q G H s h m c es k) (f k))
theorem lV (P Q G H : Int) (h : List Int) (m r c : Int) (n : Nat) : (vz P Q G H h m r c n).length = n := pO _ _ _ _ _ _
theorem lW (P Q G H : Int) (h : List Int) (m r c : Int) {n k : Nat} (hk : k < n) : (vz P Q G H h m r c n).getD k 0 = rep P G H (m / 2 ^ k % 2) (gM h Q r c n k) := vI _ _ _ _ _ hk
theorem uD {P G H a b : Int} (hP : 2 ≤ P) : dz P 1 [G, H] [a, b] = rep P G H a b := by
 show (1 * pw G a P % P) * pw H b P % P = pw G a P * pw H b P % P
 rw [Int.one_mul, bV G a P, Int.emod_emod_of_dvd _ (Int.dvd_refl P)]
theorem zf {P Q G H f m : Int} {k : Nat} (hP : 2 ≤ P) (hQ : 1 ≤ Q) (hG : av P Q G = true) (hH : av P Q H = true) (f0 : 0 ≤ f) : (Br P Q G (rep P G H (m / 2 ^ k % 2) f)).getD (nI m k) 0 = pw H f P := by
 have hb := yH m k
 have hl := yG m k
 have n0 : 0 ≤ (-1) % Q := Int.emod_nonneg _ (by omega)
 obtain e | e : nI m k = 0 ∨ nI m k = 1 := by omega
 ·
  rw [e] at hb ⊢
  rw [← hb]
  show rep P G H 0 f = _
  exact Gm hP
 ·
  rw [e] at hb ⊢
  rw [← hb]
  show rep P G H 1 f * pw G ((-1) % Q) P % P = _
  rw [← uE (H := H) hP, lD (by decide) f0 n0 (by decide), Int.add_zero, jh (a' := 0) (b' := f) hP hQ hG hH (by omega) f0 (by omega) f0 (by rw [jq hQ]; rfl) rfl, Gm hP]
theorem Lu {P Q G H m r c : Int} {h : List Int} {s : ByteArray} {n : Nat} (hv : aC P Q G = true) (hH : av P Q H = true) (r0 : 0 ≤ r) (r1 : r < Q) (c2 : Int) (k : Nat) (hk : k < n) :
  Lx P Q G H s (vz P Q G H h m r c n) (Jj P Q G H h m c2 (vz P Q G H h m r c n)) (Lt P Q G H s h m c2 (vz P Q G H h m r c n)) (Km P Q G H s h m c2 (vz P Q G H h m r c n) (gM h Q r c n)) k := by
 obtain ⟨hP, hP2, Nc, De⟩ := aJ hv
 have hG := dA hv
 have f0 := (oh (h := h) (q := Q) (r := r) (c := c) (by omega) r0 r1 n k).1
 have hb : 0 ≤ m / 2 ^ k % 2 := Int.emod_nonneg _ (by decide)
 have he : av P Q ((vz P Q G H h m r c n).getD k 0) = true := by rw [lW _ _ _ _ _ _ _ _ hk]; exact lF hP (by omega) hG hH hb f0
 have hs1 : av P Q (qm P Q G ((vz P Q G H h m r c n).getD k 0)) = true := jI hP (by omega) he (fI hP (by omega) (Int.emod_nonneg _ (by omega)) hG)
 refine ⟨he, ?_⟩
 have hch := vK (P := P) (Q := Q) (G := G) (b := H) (by omega) (aO s) (Br P Q G ((vz P Q G H h m r c n).getD k 0)) (Jj P Q G H h m c2 (vz P Q G H h m r c n) k)
 refine qC (wh := nI m k) hv hH he hs1 (yG m k) f0 ?_ hch.1 hch.2
 have h2 := zf (P := P) (Q := Q) (G := G) (H := H) (f := gM h Q r c n k) (m := m) (k := k) hP (by omega) hG hH f0
 rw [← lW P Q G H h m r c hk] at h2
 exact h2
theorem bE {w u : World} {b o : Nat} {xs : List Int} (h : Sl w (some ⟨b, o, none⟩) xs) (hb : u.heap[b]? = w.heap[b]?) : Sl u (some ⟨b, o, none⟩) xs := fun k hk => by
 obtain ⟨b2, o2, e, hc⟩ := h k hk
 injection e with e
 injection e with e1 e2
 subst e1
 subst e2
 exact ⟨b, o, rfl, (World.cell?_of_block (w := w) (w' := u) (a := ⟨b, o + k, none⟩) hb).trans hc⟩
theorem BS {w : World} {b o : Nat} {xs : List Int} (h : Sl w (some ⟨b, o, none⟩) xs) (hn : 0 < xs.length) : b < w.heap.size := by
 obtain ⟨b2, o2, e, hc⟩ := h 0 hn
 injection e with e
 injection e with e1 e2
 subst e1
 rcases Nat.lt_or_ge b w.heap.size with h1 | h1
 · exact h1
 ·
  exfalso
  have h0 : w.heap[b]? = none := Array.getElem?_eq_none (by omega)
  simp [World.cell?, h0] at hc
theorem Hw {w : World} {b k : Nat} {xs h : List Int} {c : Int} (hs : Sl w (some ⟨b, 0, none⟩) xs) (hn : 0 < xs.length) (hd : aD w k h c) (hl : h.length = 32) : b ≠ k := fun e => by
 subst e
 obtain ⟨b2, o2, e, hc⟩ := hs 0 hn
 injection e with e
 injection e with e1 e2
 subst e1
 subst e2
 obtain ⟨b3, o3, e, hc2⟩ := hd.sk 0 (by omega)
 injection e with e
 injection e with e1 e2
 subst e1
 subst e2
 rw [hc] at hc2
 cases hc2
def Ev (u : World) (P Q G H m r : Int) (n : Nat) (s : ByteArray) (h : List Int) (c : Int) (A L : Option Addr) : Prop :=
 Sl u A (vz P Q G H h m r c n) ∧ Lc u L n (Jj P Q G H h m (mF h Q c (n - 1)) (vz P Q G H h m r c n)) (Lt P Q G H s h m (mF h Q c (n - 1)) (vz P Q G H h m r c n)) (Km P Q G H s h m (mF h Q c (n - 1)) (vz P Q G H h m r c n) (gM h Q r c n))
theorem Ev.below {u u' : World} {P Q G H m r : Int} {n : Nat} {s : ByteArray} {h : List Int} {c : Int} {A L : Option Addr} (K : Ev u P Q G H m r n s h c A L) (hb : Below u.heap.size u u') : Ev u' P Q G H m r n s h c A L := ⟨K.1.below hb, K.2.below hb⟩
structure qb (w : World) (P Q G X B H : Int) (h : List Int) (cnt : Int) (u : World) : Prop where
 g : qI u w.heap.size P Q G X B H
 d : aD u (w.heap.size + 1) h cnt
 p : u.heap[w.heap.size + 2]? = some (.cells #[.slice none 0 0, .slice none 0 0] 40 (0, 0))
 r : aD u (w.heap.size + 3) (aR 32) 0
 z : w.heap.size + 4 ≤ u.heap.size
 b : Below w.heap.size w u
section
variable {w u u' : World} {P Q G X B H : Int} {h : List Int} {cnt : Int}
theorem qb.below (K : qb w P Q G X B H h cnt u) (hb : Below u.heap.size u u') : qb w P Q G X B H h cnt u' :=
 ⟨K.g.below hb, K.d.below hb, (hb.block _ (by have := K.z; omega)).trans K.p, K.r.below hb, Nat.le_trans K.z hb.size, ag K.b hb⟩
theorem qb.grown (K : qb w P Q G X B H h cnt u) {g : Nat} (hg : u.grownBy u' (some g)) (h4 : w.heap.size + 4 ≤ g) : qb w P Q G X B H h cnt u' := by
 have hk : ∀ k, k < w.heap.size + 4 → u'.heap[k]? = u.heap[k]? := fun k hk => hg.block k (Nat.lt_of_lt_of_le hk K.z) (fun e => by injection e with e; omega)
 have hc : ∀ k j, k < w.heap.size + 4 → u'.cell? ⟨k, j, none⟩ = u.cell? ⟨k, j, none⟩ := fun k j hl => World.cell?_of_block (w := u) (w' := u') (a := ⟨k, j, none⟩) (hk k hl)
 refine ⟨?_, (hk _ (by omega)).trans K.d, (hk _ (by omega)).trans K.p, (hk _ (by omega)).trans K.r, Nat.le_trans K.z hg.size, K.b.trans (iK hg (by omega) (by have := K.z; omega))⟩
 obtain ⟨⟨c0, c1, c2⟩, c3, c4, c5⟩ := K.g
 exact ⟨⟨(hc _ 0 (by omega)).trans c0, (hc _ 1 (by omega)).trans c1, (hc _ 2 (by omega)).trans c2⟩, (hc _ 3 (by omega)).trans c3, (hc _ 4 (by omega)).trans c4, (hc _ 5 (by omega)).trans c5⟩
theorem qb.src (K : qb w P Q G X B H h cnt u) (cnt' : Int) : qb w P Q G X B H h cnt' (u.setRow (w.heap.size + 1) (ak h cnt')) := by
 have hk : ∀ k, k ≠ w.heap.size + 1 → (u.setRow (w.heap.size + 1) (ak h cnt')).heap[k]? = u.heap[k]? := fun k hne => setRow_other _ _ _ _ hne
 have hc : ∀ k j, k ≠ w.heap.size + 1 → (u.setRow (w.heap.size + 1) (ak h cnt')).cell? ⟨k, j, none⟩ = u.cell? ⟨k, j, none⟩ := fun k j hl => World.cell?_of_block (w := u) (a := ⟨k, j, none⟩) (hk k hl)
 refine ⟨?_, K.d.setRow, (hk _ (by omega)).trans K.p, (hk _ (by omega)).trans K.r, by rw [setRow_size]; exact K.z, ah K.b (Nat.le_succ _)⟩
 obtain ⟨⟨c0, c1, c2⟩, c3, c4, c5⟩ := K.g
 exact ⟨⟨(hc _ 0 (by omega)).trans c0, (hc _ 1 (by omega)).trans c1, (hc _ 2 (by omega)).trans c2⟩, (hc _ 3 (by omega)).trans c3, (hc _ 4 (by omega)).trans c4, (hc _ 5 (by omega)).trans c5⟩
end
theorem uI {w u : World} {b n s : Nat} {T : TypeId} {v : Value} {xs : List Value} (h : w.ownsRow b T s v n xs) (hb : Below w.heap.size w u) : u.ownsRow b T s v n xs :=
 World.ownsRow.kept h (d_ hb none) (by cases v.ownBlock with | none => exact .inl rfl | some j => exact .inr (by simp))
theorem h_ {w u : World} {b n s k : Nat} {T : TypeId} {v : Value} {xs : List Value} (h : w.ownsRow b T s v n xs) (hg : w.grownBy u (some k)) (hk : k < b) : u.ownsRow b T s v n xs :=
 World.ownsRow.kept h hg (by
  cases e : v.ownBlock with
  | none => exact .inl rfl
  | some j => exact .inr (fun e2 => by
    have h1 := (World.ownsRow.lt h j e).1
    injection e2 with e2
    omega))
theorem qb.keep {w u u' : World} {P Q G X B H : Int} {h : List Int} {cnt : Int} (K : qb w P Q G X B H h cnt u) (hk : ∀ k, k < w.heap.size + 4 → u'.heap[k]? = u.heap[k]?) (hz : u.heap.size ≤ u'.heap.size) (hb : Below w.heap.size w u') : qb w P Q G X B H h cnt u' := by
 have hc : ∀ k j, k < w.heap.size + 4 → u'.cell? ⟨k, j, none⟩ = u.cell? ⟨k, j, none⟩ := fun k j hl => World.cell?_of_block (w := u) (w' := u') (a := ⟨k, j, none⟩) (hk k hl)
 refine ⟨?_, (hk _ (by omega)).trans K.d, (hk _ (by omega)).trans K.p, (hk _ (by omega)).trans K.r, Nat.le_trans K.z hz, hb⟩
 obtain ⟨⟨c0, c1, c2⟩, c3, c4, c5⟩ := K.g
 exact ⟨⟨(hc _ 0 (by omega)).trans c0, (hc _ 1 (by omega)).trans c1, (hc _ 2 (by omega)).trans c2⟩, (hc _ 3 (by omega)).trans c3, (hc _ 4 (by omega)).trans c4, (hc _ 5 (by omega)).trans c5⟩
structure Hg (w : World) (fb bb pb B2 : Nat) : Prop where
 f4 : w.heap.size + 4 ≤ fb
 p4 : w.heap.size + 4 ≤ pb
 bd : bb ≠ w.heap.size + 1
 lf : fb < B2
 lb : bb < B2
 lp : pb < B2
 fp : fb ≠ pb
 bp : bb ≠ pb
theorem Av {w : World} {b n c : Nat} {A : Option Addr} {xs : List Int} (h : w.ownsRow b 3 1 (.slice A n c) n (xs.map (Value.int .i64))) (hn : xs.length = n) (h0 : 0 < n) : ∃ g, A = some ⟨g, 0, none⟩ ∧ b ≤ g ∧ g < w.heap.size ∧ Sl w (some ⟨g, 0, none⟩) xs := by
 obtain ⟨g, cap, he, hb, hl⟩ := World.ownsRow.form h h0
 injection he with e1 e2 e3
 subst e1
 exact ⟨g, rfl, hb, hl, r_ h hn⟩
theorem CE {w u : World} {b n s : Nat} {T : TypeId} {v : Value} {xs : List Value} (h : w.ownsRow b T s v n xs) (hk : ∀ g, b ≤ g → g < w.heap.size → u.heap[g]? = w.heap[g]?) : u.ownsRow b T s v n xs := by
 refine ⟨h.1, ?_⟩
 rcases h.2 with hn | ⟨g, cap, cur, rfl, hb, hgg, rest⟩
 · exact .inl hn
 · exact .inr ⟨g, cap, cur, rfl, hb, (hk g hb (Array.getElem?_eq_some_iff.1 hgg).1).trans hgg, rest⟩
def Sp (u : World) (B : Nat) (lb : Option Nat) (A : Option Addr) (xs : List Int) : Prop := ∃ g o, A = some ⟨g, o, none⟩ ∧ B ≤ g ∧ g < u.heap.size ∧ lb ≠ some g ∧ Sl u (some ⟨g, o, none⟩) xs
theorem Sp.keep {u u' : World} {B : Nat} {lb lb' : Option Nat} {A : Option Addr} {xs : List Int} (h : Sp u B lb A xs) (hz : u.heap.size ≤ u'.heap.size) (hk : ∀ g o, B ≤ g → g < u.heap.size → lb ≠ some g → Sl u (some ⟨g, o, none⟩) xs → u'.heap[g]? = u.heap[g]? ∧ lb' ≠ some g) : Sp u' B lb' A xs := by
 obtain ⟨g, o, e, hB, hl, hne, hs⟩ := h
 obtain ⟨k1, k2⟩ := hk g o hB hl hne hs
 exact ⟨g, o, e, hB, Nat.lt_of_lt_of_le hl hz, k2, bE hs k1⟩
theorem Sp.below {u u' : World} {B : Nat} {lb : Option Nat} {A : Option Addr} {xs : List Int} (h : Sp u B lb A xs) (hb : Below u.heap.size u u') : Sp u' B lb A xs := h.keep hb.size (fun g o _ hl hne _ => ⟨hb.block g hl, hne⟩)
theorem Sp.keepN {u u' : World} {B t : Nat} {lb : Option Nat} {A : Option Addr} {xs : List Int} (h : Sp u B lb A xs) (ha : ∀ a, A = some a → t < a.block) (hz : u.heap.size ≤ u'.heap.size) (hk : ∀ g, t < g → u'.heap[g]? = u.heap[g]?) : Sp u' B lb A xs := by
 obtain ⟨g, o, rfl, hB, hl, hne, hs⟩ := h
 exact ⟨g, o, rfl, hB, Nat.lt_of_lt_of_le hl hz, hne, bE hs (hk g (ha _ rfl))⟩
theorem Sp.new {u : World} {B z : Nat} {lb : Option Nat} {A : Option Addr} {xs : List Int} (hs : Sl u A xs) (hn : 0 < xs.length) (ha : ∀ a, A = some a → z ≤ a.block) (hB : B ≤ z) (hl : ∀ j, lb = some j → j < z) : Sp u B lb A xs := by
 obtain ⟨b, o, rfl, hc⟩ := hs 0 hn
 have h1 := ha _ rfl
 have h1 : z ≤ b := h1
 exact ⟨b, o, rfl, by omega, World.block_lt_of_cell? u _ hc, fun e => by have := hl _ e; omega, hs⟩
structure BA (u : World) (B : Nat) (lb : Option Nat) (vs : List Value) (k : Nat) (al cl zl : Nat → List Int) : Prop where
 len : vs.length = k * 3
 v : ∀ j, j < k → ∃ (A C Z : Option Addr) (ca cc cz : Nat), vs[j * 3]? = some (.slice A 2 ca) ∧ vs[j * 3 + 1]? = some (.slice C 2 cc) ∧ vs[j * 3 + 2]? = some (.slice Z 2 cz) ∧ Sp u B lb A (al j) ∧ Sp u B lb C (cl j) ∧ Sp u B lb Z (zl j)
theorem BA.nil (u : World) (B : Nat) (lb : Option Nat) (al cl zl : Nat → List Int) : BA u B lb [] 0 al cl zl := ⟨rfl, fun j hj => absurd hj (Nat.not_lt_zero _)⟩
theorem BA.keep {u u' : World} {B : Nat} {lb lb' : Option Nat} {vs : List Value} {k : Nat} {al cl zl : Nat → List Int} (h : BA u B lb vs k al cl zl) (h2 : ∀ j, (al j).length = 2 ∧ (cl j).length = 2 ∧ (zl j).length = 2) (hz : u.heap.size ≤ u'.heap.size) (hk : ∀ g o xs, xs.length = 2 → B ≤ g → g < u.heap.size → lb ≠ some g → Sl u (some ⟨g, o, none⟩) xs → u'.heap[g]? = u.heap[g]? ∧ lb' ≠ some g) : BA u' B lb' vs k al cl zl := ⟨h.len, fun j hj => by
 obtain ⟨A, C, Z, ca, cc, cz, h1, h3, h4, h5, h6, h7⟩ := h.v j hj
 obtain ⟨l1, l2, l3⟩ := h2 j
 exact ⟨A, C, Z, ca, cc, cz, h1, h3, h4, h5.keep hz (fun g o a1 a2 a3 a4 => hk g o _ l1 a1 a2 a3 a4), h6.keep hz (fun g o a1 a2 a3 a4 => hk g o _ l2 a1 a2 a3 a4), h7.keep hz (fun g o a1 a2 a3 a4 => hk g o _ l3 a1 a2 a3 a4)⟩⟩
theorem BA.add {u : World} {B : Nat} {lb : Option Nat} {vs : List Value} {k : Nat} {al cl zl : Nat → List Int} (h : BA u B lb vs k al cl zl) {A C Z : Option Addr} {ca cc cz : Nat} (hA : Sp u B lb A (al k)) (hC : Sp u B lb C (cl k)) (hZ : Sp u B lb Z (zl k)) : BA u B lb (vs ++ [.slice A 2 ca, .slice C 2 cc, .slice Z 2 cz]) (k + 1) al cl zl := ⟨by rw [List.length_append, h.len]; show k * 3 + 3 = _; omega, fun j hj => by
 have hl := h.len
 by_cases e : j = k
 ·
  subst e
  refine ⟨A, C, Z, ca, cc, cz, ?_, ?_, ?_, hA, hC, hZ⟩
  · rw [List.getElem?_append_right (by omega), hl, Nat.sub_self]; rfl
  · rw [List.getElem?_append_right (by omega), hl, show j * 3 + 1 - j * 3 = 1 by omega]; rfl
  · rw [List.getElem?_append_right (by omega), hl, show j * 3 + 2 - j * 3 = 2 by omega]; rfl
 ·
  obtain ⟨A, C, Z, ca, cc, cz, h1, h3, h4, h5⟩ := h.v j (by omega)
  refine ⟨A, C, Z, ca, cc, cz, ?_, ?_, ?_, h5⟩
  · rw [List.getElem?_append_left (by omega)]; exact h1
  · rw [List.getElem?_append_left (by omega)]; exact h3
  · rw [List.getElem?_append_left (by omega)]; exact h4⟩
theorem BA.lc {u : World} {B n Ue : Nat} {L : Option Addr} {vs : List Value} {al cl zl : Nat → List Int} {lb : Option Nat} (h : BA u B lb vs n al cl zl) (ho : u.ownsRow B 63 3 (.slice L n Ue) n vs) : Lc u L n al cl zl := fun k hk => by
 obtain ⟨A, C, Z, ca, cc, cz, h1, h3, h4, ⟨gA, oA, rfl, _, _, _, h5⟩, ⟨gC, oC, rfl, _, _, _, h6⟩, ⟨gZ, oZ, rfl, _, _, _, h7⟩⟩ := h.v k hk
 obtain ⟨g, cap, he, hb, hl⟩ := World.ownsRow.form ho (by omega)
 injection he with e1 e2 e3
 subst e1
 refine ⟨g, 0, rfl, _, _, _, ca, cc, cz, ?_, ?_, ?_, h5, h6, h7⟩
 · rw [Nat.zero_add, World.ownsRow.cellAt ho (k * 3) (by omega)]; exact h1
 · rw [Nat.zero_add, World.ownsRow.cellAt ho (k * 3 + 1) (by omega)]; exact h3
 · rw [Nat.zero_add, World.ownsRow.cellAt ho (k * 3 + 2) (by omega)]; exact h4
structure Gg (w : World) (P Q G X B H : Int) (h : List Int) (cnt : Int) (fb bb pb B2 n : Nat) (F : Nat → Int) (bits : List Int) (A : Option Addr) (k ca : Nat) (al : List Int) (u : World) : Prop where
 bk : qb w P Q G X B H h cnt u
 f : fF u fb n F
 i : Sl u (some ⟨bb, 0, none⟩) bits
 p : u.heap[pb]? = some (.cells #[.slice A k ca, .slice none 0 0] 40 (0, 0))
 a : u.ownsRow B2 3 1 (.slice A k ca) k (al.map (Value.int .i64))
 z : B2 ≤ u.heap.size
section
variable {w u u' : World} {P Q G X B H : Int} {h : List Int} {cnt : Int} {fb bb pb B2 n : Nat} {F : Nat → Int} {bits : List Int} {A : Option Addr} {k ca : Nat} {al : List Int}
theorem Gg.below (K : Gg w P Q G X B H h cnt fb bb pb B2 n F bits A k ca al u) (D : Hg w fb bb pb B2) (hb : Below u.heap.size u u') : Gg w P Q G X B H h cnt fb bb pb B2 n F bits A k ca al u' := by
 have hk : ∀ g, g < B2 → u'.heap[g]? = u.heap[g]? := fun g hl => hb.block g (Nat.lt_of_lt_of_le hl K.z)
 exact ⟨K.bk.below hb, aL K.f (hk _ D.lf), bE K.i (hk _ D.lb), (hk _ D.lp).trans K.p, uI K.a hb, Nat.le_trans K.z hb.size⟩
theorem Gg.app {u9 : World} {x : Int} {g cap : Nat} (K : Gg w P Q G X B H h cnt fb bb pb B2 n F bits A k ca al u) (D : Hg w fb bb pb B2) (ho : u9.ownsRow B2 3 1 (.slice (some ⟨g, 0, none⟩) (k + 1) cap) (k + 1) (al.map (Value.int .i64) ++ [.int .i64 x])) (hg : u.grownBy u9 (Value.slice A k ca).ownBlock) :
  Gg w P Q G X B H h cnt fb bb pb B2 n F bits (some ⟨g, 0, none⟩) (k + 1) cap (al ++ [x]) (u9.setCell ⟨pb, 0, none⟩ (.slice (some ⟨g, 0, none⟩) (k + 1) cap)) ∧ Own u9 ⟨pb, 0, none⟩ (.slice A k ca) := by
 have hB : ∀ j, (Value.slice A k ca).ownBlock = some j → B2 ≤ j := fun j e => (World.ownsRow.lt K.a j e).1
 have xK : ∀ g, g < B2 → u9.heap[g]? = u.heap[g]? := fun g hl => hg.block g (Nat.lt_of_lt_of_le hl K.z) (fun e => by have := hB g e.symm; omega)
 have hk : ∀ g', g' ≠ pb → (u9.setCell ⟨pb, 0, none⟩ (.slice (some ⟨g, 0, none⟩) (k + 1) cap)).heap[g']? = u9.heap[g']? := fun g' hne => Go.Deep.blk_setCell_other _ _ _ _ hne
 have Gt : w.heap.size + 4 ≤ B2 := by have := D.p4; have := D.lp; omega
 have ry : Below w.heap.size w u9 := K.bk.b.grown hg (by have := K.bk.z; omega) (fun j e => by have := hB j e; omega)
 have hgB : B2 ≤ g := (World.ownsRow.lt ho g rfl).1
 have IA : u9.heap[pb]? = some (.cells #[.slice A k ca, .slice none 0 0] 40 (0, 0)) := (xK pb D.lp).trans K.p
 refine ⟨⟨K.bk.keep (fun g hl => (hk g (by have := D.p4; omega)).trans (xK g (by omega))) (by rw [World.size_setCell]; exact hg.size) (ry.setCell (show w.heap.size ≤ pb by have := D.p4; omega) _), aL K.f ((hk fb D.fp).trans (xK fb D.lf)), bE K.i ((hk bb D.bp).trans (xK bb D.lb)), ?_, ?_, by rw [World.size_setCell]; exact Nat.le_trans K.z hg.size⟩, aj IA 0, aP IA 0⟩
 · exact heap_setCell_same u9 pb 0 _ _ _ IA
 ·
  have h2 : u9.ownsRow B2 3 1 (.slice (some ⟨g, 0, none⟩) (k + 1) cap) (k + 1) ((al ++ [x]).map (Value.int .i64)) := by simpa using ho
  exact h_ h2 (aZ pb 0 _) D.lp
end
structure za (w : World) (P Q G X B H : Int) (h : List Int) (cnt : Int) (fb bb pb B3 n : Nat) (F : Nat → Int) (bits : List Int) (gA ca : Nat) (es : List Int) (al cl zl : Nat → List Int) (L : Option Addr) (l cap : Nat) (vs : List Value) (u : World) : Prop where
 bk : qb w P Q G X B H h cnt u
 f : fF u fb n F
 i : Sl u (some ⟨bb, 0, none⟩) bits
 p : u.heap[pb]? = some (.cells #[.slice (some ⟨gA, 0, none⟩) n ca, .slice L l cap] 40 (0, 0))
 a : Sl u (some ⟨gA, 0, none⟩) es
 lo : u.ownsRow B3 63 3 (.slice L l cap) l vs
 ch : BA u B3 (Value.slice L l cap).ownBlock vs l al cl zl
 l2 : ∀ j, (al j).length = 2 ∧ (cl j).length = 2 ∧ (zl j).length = 2
 z : B3 ≤ u.heap.size
section
variable {w u u' : World} {P Q G X B H : Int} {h : List Int} {cnt : Int} {fb bb pb gA B3 n : Nat} {F : Nat → Int} {bits : List Int} {ca : Nat} {es : List Int} {al cl zl : Nat → List Int} {L : Option Addr} {l cap : Nat} {vs : List Value}
theorem za.below (K : za w P Q G X B H h cnt fb bb pb B3 n F bits gA ca es al cl zl L l cap vs u) (D : Hg w fb bb pb B3) (hA : gA < B3) (hb : Below u.heap.size u u') : za w P Q G X B H h cnt fb bb pb B3 n F bits gA ca es al cl zl L l cap vs u' := by
 have hk : ∀ g, g < B3 → u'.heap[g]? = u.heap[g]? := fun g hl => hb.block g (Nat.lt_of_lt_of_le hl K.z)
 exact ⟨K.bk.below hb, aL K.f (hk _ D.lf), bE K.i (hk _ D.lb), (hk _ D.lp).trans K.p, bE K.a (hk _ hA), uI K.lo hb, K.ch.keep K.l2 hb.size (fun g o xs _ _ hl hne _ => ⟨hb.block g hl, hne⟩), K.l2, Nat.le_trans K.z hb.size⟩
theorem za.src (K : za w P Q G X B H h cnt fb bb pb B3 n F bits gA ca es al cl zl L l cap vs u) (D : Hg w fb bb pb B3) (hA : gA ≠ w.heap.size + 1) (cnt' : Int) : za w P Q G X B H h cnt' fb bb pb B3 n F bits gA ca es al cl zl L l cap vs (u.setRow (w.heap.size + 1) (ak h cnt')) := by
 have hk : ∀ g, g ≠ w.heap.size + 1 → (u.setRow (w.heap.size + 1) (ak h cnt')).heap[g]? = u.heap[g]? := fun g hne => setRow_other _ _ _ _ hne
 exact ⟨K.bk.src cnt', aL K.f (hk _ (by have := D.f4; omega)), bE K.i (hk _ D.bd), (hk _ (by have := D.p4; omega)).trans K.p, bE K.a (hk _ hA), h_ K.lo (dD u (w.heap.size + 1) (ak h cnt')) (by have := D.p4; have := D.lp; omega), K.ch.keep K.l2 (by rw [setRow_size]; exact Nat.le_refl _) (fun g o xs _ hB hl hne _ => ⟨hk g (by have := D.p4; have := D.lp; omega), hne⟩), K.l2, by rw [setRow_size]; exact K.z⟩
theorem za.own (K : za w P Q G X B H h cnt fb bb pb B3 n F bits gA ca es al cl zl L l cap vs u) (D : Hg w fb bb pb B3) (hA : gA < B3) {g : Nat} (hg : u.grownBy u' (some g)) (h3 : B3 ≤ g) (hL : (Value.slice L l cap).ownBlock ≠ some g) (hT : ∀ o v, u.cell? ⟨g, o, none⟩ ≠ some (.int .i64 v)) : za w P Q G X B H h cnt fb bb pb B3 n F bits gA ca es al cl zl L l cap vs u' := by
 have hk : ∀ k, k < B3 → u'.heap[k]? = u.heap[k]? := fun k hl => hg.block k (Nat.lt_of_lt_of_le hl K.z) (fun e => by injection e with e; omega)
 have Gt : w.heap.size + 4 ≤ B3 := by have := D.p4; have := D.lp; omega
 refine ⟨K.bk.grown hg (by omega), aL K.f (hk _ D.lf), bE K.i (hk _ D.lb), (hk _ D.lp).trans K.p, bE K.a (hk _ hA), World.ownsRow.kept K.lo hg ?_, K.ch.keep K.l2 hg.size (fun g2 o xs h2 hB hl hne hs => ⟨hg.block g2 hl (fun e => ?_), hne⟩), K.l2, Nat.le_trans K.z hg.size⟩
 ·
  cases e : (Value.slice L l cap).ownBlock with
  | none => exact .inl rfl
  | some j => exact .inr (fun e2 => hL (by rw [e, e2]))
 ·
  injection e with e
  subst e
  obtain ⟨b2, o2, e, hc⟩ := hs 0 (by omega)
  injection e with e
  injection e with e1 e2
  subst e1
  exact hT _ _ hc
theorem za.app {u9 : World} {g cap' : Nat} {A C Z : Option Addr} {Rl cc cz : Nat} (K : za w P Q G X B H h cnt fb bb pb B3 n F bits gA ca es al cl zl L l cap vs u) (D : Hg w fb bb pb B3) (hA : gA < B3) (TU : gA ≠ pb) (Nb : Sp u B3 (Value.slice L l cap).ownBlock A (al l)) (TM : Sp u B3 (Value.slice L l cap).ownBlock C (cl l)) (hSZ : Sp u B3 (Value.slice L l cap).ownBlock Z (zl l)) (ho : u9.ownsRow B3 63 3 (.slice (some ⟨g, 0, none⟩) (l + 1) cap') (l + 1) (vs ++ [.slice A 2 Rl, .slice C 2 cc, .slice Z 2 cz])) (hg : u.grownBy u9 (Value.slice L l cap).ownBlock) (hat : (Value.slice L l cap).ownBlock = some g ∨ u.heap.size ≤ g) :
  za w P Q G X B H h cnt fb bb pb B3 n F bits gA ca es al cl zl (some ⟨g, 0, none⟩) (l + 1) cap' (vs ++ [.slice A 2 Rl, .slice C 2 cc, .slice Z 2 cz]) (u9.setCell ⟨pb, 1, none⟩ (.slice (some ⟨g, 0, none⟩) (l + 1) cap')) ∧ Own u9 ⟨pb, 1, none⟩ (.slice L l cap) := by
 have hB : ∀ j, (Value.slice L l cap).ownBlock = some j → B3 ≤ j := fun j e => (World.ownsRow.lt K.lo j e).1
 have xK : ∀ g, g < B3 → u9.heap[g]? = u.heap[g]? := fun g hl => hg.block g (Nat.lt_of_lt_of_le hl K.z) (fun e => by have := hB g e.symm; omega)
 have hk : ∀ g', g' ≠ pb → (u9.setCell ⟨pb, 1, none⟩ (.slice (some ⟨g, 0, none⟩) (l + 1) cap')).heap[g']? = u9.heap[g']? := fun g' hne => Go.Deep.blk_setCell_other _ _ _ _ hne
 have Gt : w.heap.size + 4 ≤ B3 := by have := D.p4; have := D.lp; omega
 have ry : Below w.heap.size w u9 := K.bk.b.grown hg (by have := K.bk.z; omega) (fun j e => by have := hB j e; omega)
 have IA : u9.heap[pb]? = some (.cells #[.slice (some ⟨gA, 0, none⟩) n ca, .slice L l cap] 40 (0, 0)) := (xK pb D.lp).trans K.p
 refine ⟨⟨K.bk.keep (fun g hl => (hk g (by have := D.p4; omega)).trans (xK g (by omega))) (by rw [World.size_setCell]; exact hg.size) (ry.setCell (show w.heap.size ≤ pb by have := D.p4; omega) _), aL K.f ((hk fb D.fp).trans (xK fb D.lf)), bE K.i ((hk bb D.bp).trans (xK bb D.lb)), ?_, bE K.a ((hk gA TU).trans (xK gA hA)), h_ ho (aZ pb 1 _) D.lp, ?_, K.l2, by rw [World.size_setCell]; exact Nat.le_trans K.z hg.size⟩, aj IA 1, aP IA 1⟩
 · exact heap_setCell_same u9 pb 1 _ _ _ IA
 ·
  refine (K.ch.add Nb TM hSZ).keep K.l2 (by rw [World.size_setCell]; exact hg.size) (fun g2 o xs _ hB2 hl hne _ => ⟨(hk g2 (by have := D.lp; omega)).trans (hg.block g2 hl (fun e => hne e.symm)), fun e => ?_⟩)
  have e2 : g = g2 := by injection e
  rcases hat with hat | hat
  · exact hne (e2 ▸ hat)
  · omega
end
end Go.Proofs.YtgbfhcfhopadaaaGreatDoor