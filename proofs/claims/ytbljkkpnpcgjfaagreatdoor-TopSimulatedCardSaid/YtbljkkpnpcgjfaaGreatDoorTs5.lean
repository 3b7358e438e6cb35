/- Contracts and lemmas: TrF, TrG, DrA, DrB, DrC, LinT, FmF, FmG, FmH, FmI, FmJ, FmK, FmM, LcA, LcB, LcC, LinX, LcE, LcG, LinY. -/
import Derived.Deep.MidRow
import Derived.Deep.AppendLies
import Derived.Test.YtbljkkpnpcgjfaaGreatDoorTs4
set_option linter.unusedVariables false
set_option linter.unusedSimpArgs false
set_option maxRecDepth 100000
set_option maxHeartbeats 25600000
namespace Go.Proofs.YtbljkkpnpcgjfaaGreatDoor
open Go.RowKit rM
def G7 : ByteArray := { data := #[115, 112, 101, 99, 105, 101, 47, 99, 104, 97, 108, 108, 101, 110, 103, 101] }
def VG (h s : List Int) : List Int := tagged (bP G7) (enc (.lst [.byt h, .byt s]))
def JP (q : Int) (h s : List Int) : Int := LG q (VG h s)
def TQ (q : Int) (h s : List Int) : List Int := Bd h s (.int (JP q h s))
theorem Ga (h s : List Int) : aH (VG h s) = true := jh _
theorem OU {q : Int} (hq : 1 ≤ q) (h s : List Int) : 0 ≤ JP q h s ∧ JP q h s < q := ym hq 16
theorem fF {P : Program} {fn : Func} {p q r : Tmp} {ty : TypeId} (h : fn.results = #[.cell p ty, .tmp q, .tmp r]) (tmps : Array Value) (w : World) (a : Addr) (v u x : Value)
  (hp : tmps.getD p undef = .pointer (some a)) (hq : tmps.getD q undef = u) (hr : tmps.getD r undef = x) (hl : (loadVar ty a).run P w = .ok v w) : (results fn tmps).run P w = .ok (.tuple #[v, u, x]) w := by
 have hp' : tmps[p]?.getD undef = .pointer (some a) := by simpa using hp
 have hq' : tmps[q]?.getD undef = u := by simpa using hq
 have hr' : tmps[r]?.getD undef = x := by simpa using hr
 simp [results, h, hp', hq', hr', asAddr, hl]
def PZ (h : List Int) (c n e : Int) : Value := .tuple #[.agg (aT h c), .int .i64 n, .int .i64 e]
theorem G5 (h : List Int) (hl : Hid (h.length = 32)) (hb : Hid (aH h = true)) (c : Int) (hc0 : 0 ≤ c) (hc1 : c < 1000) (s : ByteArray) (hs : s.size ≤ 1000) (hr : Hid (jB (bP s) = true)) (q : Int) (hq1 : 2 ≤ q) (hq2 : q < 2305843009213693952) (w : World) (hv : Hid (bX w)) :
  Calls Tryz.prog 76 #[.agg (aT h c), .string s, .int .i64 q] w (Rt w (PZ (TQ q h (bP s)) (c + 1) (JP q h (bP s)) 0)) := by
 have hs0 : 1 ≤ s.size := by
  have h := hr.out
  rw [jB, b_] at h
  simp at h
  exact h.1.1
 obtain ⟨W, hW⟩ : ∃ W, (w.alloc (.cells (aT h c) 58)).alloc (.cells #[.int .u8 0, .int .u8 0, .int .u8 0, .int .u8 0, .int .u8 0, .int .u8 0, .int .u8 0, .int .u8 0, .int .u8 0, .int .u8 0, .int .u8 0, .int .u8 0, .int .u8 0, .int .u8 0, .int .u8 0, .int .u8 0, .int .u8 0, .int .u8 0, .int .u8 0, .int .u8 0, .int .u8 0, .int .u8 0, .int .u8 0, .int .u8 0, .int .u8 0, .int .u8 0, .int .u8 0, .int .u8 0, .int .u8 0, .int .u8 0, .int .u8 0, .int .u8 0, .int .i64 0] 58) = W := ⟨_, rfl⟩
 have dR : Hid (Below w.heap.size w W) := aa (by rw [← hW]; exact aB (Below.refl _ _))
 have HT0 : Hid (eT W w.heap.size h c) := aa (by rw [← hW]; exact heap_alloc2_old _ _ _)
 have dY : Hid (eT W (w.heap.size + 1) (aZ 32) 0) := aa (by rw [← hW, Du]; exact heap_alloc2_new _ _ _)
 have HV := aa (hv.out.below dR.out)
 have HW := aa hW
 have hcn : ¬ (c = 1000) := by omega
 have hqa : ¬ (q < 2) := by omega
 have hqb : ¬ (2305843009213693952 ≤ q) := by omega
 clear hW hv
 go_in
 go_upto_region 1 with (fail)
 rw [HW.out]
 clear HW
 go_wp2_with ((with_reducible show wpList _ _ _ (⟨some 14, _, _, _, _, _⟩ :: _) _ _); refine wpList_load_row rfl 58 _ rfl w.heap.size rfl _ _ _ _ HT0.out Tryz.underlying58 rfl (bZ hl.out) ?_)
 refine (tJ h hl c hc0 (by omega) _).mono ?_
 rintro e w1 ⟨rfl, hb1⟩
 have HB1 := aa (af dR.out hb1)
 have HT1 := aa (HT0.out.below hb1)
 have gT := aa (HV.out.below hb1)
 have HR1 := aa (dY.out.below hb1)
 clear hb1 HT0 HV dY dR
 go_wp2_with fail
 refine (lC s hs true hr _).mono ?_
 rintro e w2 ⟨rfl, hb2⟩
 have HT2 := aa (HT1.out.below hb2)
 have ko := aa (gT.out.below hb2)
 have HR2 := aa (HR1.out.below hb2)
 have HB2 := aa (af HB1.out hb2)
 clear hb2 HT1 gT HR1 HB1
 have hcnt := HT2.out.count hl.out
 go_wp2_with ((with_reducible show wpList _ _ _ (⟨some 37, _, _, _, _, _⟩ :: _) _ _); refine wpList_load_row rfl 58 _ rfl w.heap.size rfl _ _ _ _ HT2.out Tryz.underlying58 rfl (bZ hl.out) ?_)
 clear hcnt
 refine (FR G7 (by decide) (by decide) h hl hb c s hs0 hs _ ko).mono ?_
 rintro e w4 ⟨rfl, hb4⟩
 have KP := aa (HT2.out.below hb4)
 have HR4 := aa (HR2.out.below hb4)
 have ze := aa (ko.out.below hb4)
 have gI := aa (af HB2.out hb4)
 obtain ⟨R, hR⟩ : ∃ R, tagged (bP G7) (enc (.lst [.byt h, .byt (bP s)])) = R := ⟨_, rfl⟩
 have hRl : R.length = 32 := by rw [← hR]; exact gB _ _
 have vT : Hid (aH R = true) := aa (by rw [← hR]; exact Ga _ _)
 have HN : Kp (VG h (bP s) = R) := ⟨hR⟩
 have jl := aa hRl
 rw [hR, show jK R = .tuple #[.agg (arr .u8 R), .int .i64 0] from rfl]
 clear hb4 HT2 ko HR2 HB2 hR hRl
 go_upto_region 8 with ((with_reducible show wpList _ _ _ (⟨none, _, _, _, _, _⟩ :: _) _ _); refine wpList_store_row rfl 32 _ _ rfl w4.heap.size (arr .u8 R) rfl rfl _ _ (heap_alloc_new _ _) (aW jl.out) (fM (l := aZ 32) rfl jl.out) (dQ _) ?_)
 rw [World.setRow_alloc_new]
 try simp only [Act.put]
 have Wn : Hid (cK .u8 32 (w4.alloc (.cells (arr .u8 R) 32)) w4.heap.size R) := aa (cK.new _ _)
 have Bu := aa (KP.out.below (ai w4 (.cells (arr .u8 R) 32)))
 have xH := aa (HR4.out.below (ai w4 (.cells (arr .u8 R) 32)))
 have HV5 := aa (ze.out.below (ai w4 (.cells (arr .u8 R) 32)))
 have mh := aa (af gI.out (ai w4 (.cells (arr .u8 R) 32)))
 obtain ⟨W5, Nq⟩ : ∃ u, w4.alloc (.cells (arr .u8 R) 32) = u := ⟨_, rfl⟩
 rw [Nq] at Wn Bu xH mh HV5 ⊢
 clear Nq KP HR4 ze gI
 go_wp2_with ((with_reducible show wpList _ _ _ (⟨some 47, _, _, _, _, _⟩ :: _) _ _); refine wpList_load_row rfl 32 _ rfl w4.heap.size rfl _ _ _ _ Wn.out Tryz.underlying32 rfl (aW jl.out) ?_)
 refine (Cb R jl vT q (by omega) hq2 _).mono ?_
 rintro e w6 ⟨rfl, hb6⟩
 have Eu := aa (Bu.out.below hb6)
 have Kn := aa (xH.out.below hb6)
 have R5 := aa (HV5.out.below hb6)
 have iT := aa (af mh.out hb6)
 obtain ⟨n, hn⟩ : ∃ n, LG q R = n := ⟨_, rfl⟩
 have hn0 : 0 ≤ n ∧ n < q := by rw [← hn]; exact ym (by omega) 16
 obtain ⟨hn1, hn2⟩ := hn0
 have Yo : Kp (JP q h (bP s) = n) := ⟨by rw [JP, HN.1]; exact hn⟩
 rw [hn]
 clear hb6 hn Bu xH HV5 mh Wn
 go_wp2_with ((with_reducible show wpList _ _ _ (⟨some 57, _, _, _, _, _⟩ :: _) _ _); refine wpList_load_row rfl 58 _ rfl w.heap.size rfl _ _ _ _ Eu.out Tryz.underlying58 rfl (bZ hl.out) ?_)
 refine (tL h hl hb c hc0 hc1 s hs hr (.int n) ⟨1, n, none, 0, 0, none, 0, 0⟩ _ R5 (aa (.int n _ rfl rfl rfl rfl)) (aa ⟨by omega, by omega⟩) (aa (by rw [sP, List.length_cons, iJ]; decide))).mono ?_
 rintro e w7 ⟨rfl, D8⟩
 have Ue := aa (Kn.out.below D8)
 have YO := aa (af iT.out D8)
 obtain ⟨G, hG⟩ : ∃ G, Bd h (bP s) (.int n) = G := ⟨_, rfl⟩
 have Qo : Hid (G.length = 32) := aa (by rw [← hG]; exact qf _ _ _)
 have HNG : Kp (TQ q h (bP s) = G) := ⟨by rw [TQ, Yo.1]; exact hG⟩
 rw [hG, show J9 G (c + 1) 0 = .tuple #[.agg (aT G (c + 1)), .int .i64 0] from rfl]
 clear D8 hG Kn iT Eu R5
 go_upto_region 14 with ((with_reducible show wpList _ _ _ (⟨none, _, _, _, _, _⟩ :: _) _ _); refine wpList_store_row rfl 58 _ _ rfl w7.heap.size (aT G (c + 1)) rfl rfl _ _ (heap_alloc_new _ _) (bZ Qo.out) (fe (h := aZ 32) (c := 0) rfl Qo.out) (bg _ _) ?_)
 rw [World.setRow_alloc_new]
 try simp only [Act.put]
 have Yx : Hid (eT (w7.alloc (.cells (aT G (c + 1)) 58)) w7.heap.size G (c + 1)) := aa (eT.new _ _ _)
 have VZ := aa (Ue.out.below (ai w7 (.cells (aT G (c + 1)) 58)))
 have PX := aa (af YO.out (ai w7 (.cells (aT G (c + 1)) 58)))
 obtain ⟨W8, Ry⟩ : ∃ u, w7.alloc (.cells (aT G (c + 1)) 58) = u := ⟨_, rfl⟩
 rw [Ry] at Yx VZ PX ⊢
 clear Ry Ue YO
 go_wp2_with (first
  | ((with_reducible show wpList _ _ _ (⟨some 68, _, _, _, _, _⟩ :: _) _ _); refine wpList_load_row rfl 58 _ rfl w7.heap.size rfl _ _ _ _ Yx.out Tryz.underlying58 rfl (bZ Qo.out) ?_)
  | ((with_reducible show wpList _ _ _ (⟨none, _, _, _, _, _⟩ :: _) _ _); refine wpList_store_row rfl 58 _ _ rfl (w.heap.size + 1) (aT G (c + 1)) rfl rfl _ _ VZ.out (bZ Qo.out) (fe rfl Qo.out) (bg _ _) ?_))
 have HRR : Hid (eT (W8.setRow (w.heap.size + 1) (aT G (c + 1))) (w.heap.size + 1) G (c + 1)) := aa VZ.out.setRow
 have fH : Below w.heap.size w (W8.setRow (w.heap.size + 1) (aT G (c + 1))) := aD PX.out (by omega)
 exact bodyPost_ret (v := PZ G (c + 1) n 0) (fF (p := 6) (q := 7) (r := 8) (ty := 58) rfl _ _ ⟨w.heap.size + 1, 0, none⟩ _ _ _ rfl rfl rfl (run_loadVar_row _ _ _ _ _ _ _ HRR.out Tryz.underlying58 rfl (bZ Qo.out))) rfl ⟨by rw [HNG.out, Yo.out], fH⟩
theorem pR (w : World) (a : Nat) (cs : Array Value) : w.grownBy (w.setRow a cs) (some a) :=
 ⟨rfl, rfl, rfl, by simp [World.setRow], fun k hk hne => setRow_other w a k cs (fun e => hne (by rw [e]))⟩
theorem QN : (Tryz.prog.info? 34).map (·.size) = some 33 := by kernel_rfl
theorem aK {h : List Int} {c : Int} (hl : h.length = 32) : (Tryz.prog.info? 34).map (·.size) = some (aT h c).size := QN.trans (congrArg some (jr hl).symm)
def dK (w : World) (b : Nat) (h : List Int) (c : Int) : Prop := w.heap[b]? = some (.cells (aT h c) 34 (0, 0))
theorem dK.below {w w' : World} {b : Nat} {h : List Int} {c : Int} (hh : dK w b h c) (hb : Below w.heap.size w w') : dK w' b h c := (hb.block b (Array.getElem?_eq_some_iff.1 hh).1).trans hh
theorem dK.new (w : World) (h : List Int) (c : Int) : dK (w.alloc (.cells (aT h c) 34)) w.heap.size h c := heap_alloc_new _ _
theorem dK.count {w : World} {b : Nat} {h : List Int} {c : Int} (hh : dK w b h c) (hl : h.length = 32) : w.cell? ⟨b, 32, none⟩ = some (.int .i64 c) := by
 rw [aj hh, aT, Array.getElem?_append_right (by rw [bD, hl]; exact Nat.le_refl _), bD, hl]
 rfl
theorem dK.sk {w : World} {b : Nat} {h : List Int} {c : Int} (hh : dK w b h c) : Sk .u8 w (some ⟨b, 0, none⟩) h := fun j hj => ⟨b, 0, rfl, by
 rw [Nat.zero_add, aj hh, aT, Array.getElem?_append_left (by rw [bD]; exact hj)]
 exact yU hj⟩
theorem dK.setRow {w : World} {b : Nat} {h h' : List Int} {c c' : Int} (hh : dK w b h c) : dK (w.setRow b (aT h' c')) b h' c' := setRow_heap w b _ _ _ _ hh
def zx (c : Int) : Bool := decide (0 ≤ c) && decide (c ≤ 1099511627776)
theorem oF (h : List Int) (hl : Hid (h.length = 32)) (c : Int) (r : Bool) (hr : Hid (zx c = r)) (w : World) :
  Calls Tryz.prog 24 #[.agg (aT h c)] w (Rt w (.bool r)) := by
 have hc := (dK.new w h c).count hl.out
 by_cases h0 : 0 ≤ c
 ·
  have d1 : decide ((0 : Int) ≤ c) = true := by simp [h0]
  obtain ⟨t, ht⟩ : ∃ t, decide (c ≤ 1099511627776) = t := ⟨_, rfl⟩
  obtain rfl : t = r := by rw [← hr.out, zx, d1, ht]; rfl
  clear hr
  go_in
  go_wp2
  go_ret
  exact ⟨by first | rfl | (rw [ht]), ai _ _⟩
 ·
  have d1 : decide ((0 : Int) ≤ c) = false := by simp; omega
  obtain rfl : r = false := by rw [← hr.out, zx, d1]; rfl
  clear hr
  go_in
  go_wp2
  go_ret
  exact ⟨rfl, ai _ _⟩
theorem qO (h : List Int) (hl : Hid (h.length = 32)) (c : Int) (hv : Hid (zx c = true)) (n lo hi : Int) (h1 : lo ≤ n) (h2 : n ≤ hi) (w : World) :
  Calls Tryz.prog 137 #[.agg (aT h c), .int .i64 n, .int .i64 lo, .int .i64 hi] w (Rt w (.int .i64 0)) := by
 have HT0 : Hid (dK (w.alloc (.cells (aT h c) 34)) w.heap.size h c) := aa (dK.new _ _ _)
 have hb0 := ai w (.cells (aT h c) 34)
 obtain ⟨W, hW⟩ : ∃ W, w.alloc (.cells (aT h c) 34) = W := ⟨_, rfl⟩
 rw [hW] at HT0 hb0
 have HB0 := aa hb0
 have HW := aa hW
 have d1 : decide (n < lo) = false := by simp; omega
 have d2 : decide (hi < n) = false := by simp; omega
 clear hW hb0
 go_in
 go_upto_region 1 with (fail)
 rw [HW.out]
 clear HW
 go_wp2_with ((with_reducible show wpList _ _ _ (⟨some 10, _, _, _, _, _⟩ :: _) _ _); refine wpList_load_row rfl 34 _ rfl w.heap.size rfl _ _ _ _ HT0.out Tryz.underlying34 rfl (aK hl.out) ?_)
 refine (oF h hl c true hv _).mono ?_
 rintro e w1 ⟨rfl, hb1⟩
 have dw := af HB0.out hb1
 go_wp2
 go_ret
 exact ⟨rfl, dw⟩
theorem vL (h : List Int) (hl : Hid (h.length = 32)) (c : Int) (hc0 : 0 ≤ c) (hc1 : c ≤ 1099511627776) (w : World) :
  Calls Tryz.prog 173 #[.agg (aT h c)] w (VI .u8 5 (h ++ mg c) w) := by
 obtain ⟨i1, hi1, hy0, hy1, hy2⟩ := info_parts jJ
 have HT0 : Hid (dK (w.alloc (.cells (aT h c) 34)) w.heap.size h c) := aa (dK.new _ _ _)
 have hb0 := ai w (.cells (aT h c) 34)
 have qj : Hid ((w.alloc (.cells (aT h c) 34)).heap.size = w.heap.size + 1) := aa (by simp)
 obtain ⟨W, hW⟩ : ∃ W, w.alloc (.cells (aT h c) 34) = W := ⟨_, rfl⟩
 rw [hW] at HT0 hb0 qj
 have HB0 := aa hb0
 have HW := aa hW
 clear hW hb0
 go_in
 go_upto_region 1 with (fail)
 rw [HW.out]
 clear HW
 have HT1 := aa (HT0.out.below (ai W (.cells #[] 5)))
 have hrow : (W.alloc (.cells #[] 5)).ownsRow W.heap.size 5 1 (.slice (some ⟨W.heap.size, 0, none⟩) 0 0) 0 [] := ⟨rfl, Or.inr ⟨W.heap.size, 0, #[], rfl, Nat.le_refl _, heap_alloc_new _ _, Nat.le_refl _, by decide, rfl, rfl⟩⟩
 have b1 : 0 + 32 ≤ maxLen := by unfold maxLen; omega
 have b2 : (0 + 32) * 1 ≤ 140737488355328 := by omega
 have b3 : W.heap.size ≤ (W.alloc (.cells #[] 5)).heap.size := by simp
 have hlen : (h.map (Value.int .u8)).length = 32 * 1 := by simp [hl.out]
 go_upto_region 2 with (at_builtin; refine wpList_append_lies rfl _ _ 93 rfl W.heap.size 5 i1 (.int .u8 0) 1 1 Tryz.underlying93 hi1 hy0 hy1 hy2 rfl (by decide) (.slice (some ⟨W.heap.size, 0, none⟩) 0 0) _ _ rfl hrow ⟨w.heap.size, 0, none⟩ 32 32 (h.map (.int .u8)) rfl hlen HT1.out.sk.news (ints_oneCell .u8 _) (by decide) b1 b2 b3 _ rfl ?_; intro g1 O3 w1 hown1 hgrow1 Vh hlt1)
 have HOH : Hid (bW .u8 5 w1 W.heap.size (.slice (some ⟨g1, 0, none⟩) 32 O3) (h ++ (mg c).take 0)) := aa (by unfold bW; rw [List.take_zero, List.append_nil, hl.out]; simpa using hown1)
 have HB1 : Hid (Below W.heap.size W w1) := aa (((Below.refl W.heap.size W).alloc (Nat.le_refl _) (.cells #[] 5)).grown hgrow1 (by simp) (fun j hj => by cases hj; exact Nat.le_refl _))
 clear hown1 hgrow1 Vh hlt1 hrow b1 b2 b3 hlen HT1
 go_wp2_with fail
 go_loopw [3, 4] (fun p i u => ∃ k : Nat, k ≤ 8 ∧ i = .int .i64 (56 - 8 * (k : Int)) ∧ Hid (bW .u8 5 u W.heap.size p (h ++ (mg c).take k)) ∧ Hid (Below W.heap.size W u)) (fun _ i _ => (intOf i + 8).toNat)
 case atStart => exact ⟨0, by omega, by simp, HOH, HB1⟩
 case round =>
  obtain ⟨k, hk, rfl, HO, aF⟩ := hrel
  by_cases hlt : k < 8
  ·
   have d1 : decide ((0 : Int) ≤ 56 - 8 * (k : Int)) = true := by simp; omega
   obtain ⟨q, hq⟩ : ∃ q, c / 2 ^ (56 - 8 * k) = q := ⟨_, rfl⟩
   have Et : Hid ((mg c).take (k + 1) = (mg c).take k ++ [q % 256]) := aa (by
    rw [take_one (show k < (mg c).length by rw [iJ]; exact hlt)]
    have h2 := El (s := 8) (Or.inr rfl) c k hlt
    rw [show si 8 c = mg c from rfl] at h2
    rw [h2, ← hq, show 8 * (8 - 1 - k) = 56 - 8 * k by omega])
   have vB : Hid ((h ++ (mg c).take k).length = 32 + k) := aa (by rw [List.length_append, List.length_take, iJ, hl.out]; omega)
   have j0 : (0 : Int) ≤ 56 - 8 * (k : Int) := by omega
   have j1 : (56 - 8 * (k : Int)).toNat = 56 - 8 * k := by omega
   have hown := HO.out.row vB.out
   have hbs := aF.out.size
   have hcnt := (HT0.out.below aF.out).count hl.out
   have b1 : 32 + k + 1 ≤ maxLen := by unfold maxLen; omega
   have b2 : (32 + k + 1) * 1 ≤ 140737488355328 := by omega
   have b3 : W.heap.size ≤ (wr.alloc (.cells #[.int .u8 (q % 256)] 5)).heap.size := by simp; omega
   go_wp2_with (at_builtin; refine wpList_append_lies rfl _ _ 93 rfl W.heap.size 5 i1 (.int .u8 0) 1 1 Tryz.underlying93 hi1 hy0 hy1 hy2 rfl (by decide) u3 _ _ rfl (hown.alloc _) ⟨wr.heap.size, 0, none⟩ 1 1 [.int .u8 (q % 256)] rfl rfl (World.news_of_block (cs := #[.int .u8 (q % 256)]) (t := 5) (fr := (0, 0)) (heap_alloc_new wr _)) (by simp [Value.oneCell']) (by decide) b1 b2 b3 _ rfl ?_; intro gg cap wz hown1 hgrow hat hlt2)
   have sH : Hid (bW .u8 5 wz W.heap.size (.slice (some ⟨gg, 0, none⟩) (32 + k + 1) cap) (h ++ (mg c).take (k + 1))) := aa (by
    rw [Et.out, ← List.append_assoc]
    exact bW.app (ys := [q % 256]) vB.out.symm rfl hown1)
   have HB2 : Hid (Below W.heap.size W wz) := aa ((aF.out.alloc hbs (.cells #[.int .u8 (q % 256)] 5)).grown hgrow (by simp; omega) (fun j hj => (World.ownsRow.lt hown j hj).1))
   clear hown1 hgrow hown hat hlt2 b1 b2 b3 hcnt
   go_wp2
   go_roundw
   case rel => exact ⟨k + 1, by omega, by go_num, sH, HB2⟩
   case measure => simp [intOf]; omega
  ·
   obtain rfl : k = 8 := by omega
   have HF : Hid (bW .u8 5 wr W.heap.size u3 (h ++ mg c)) := aa (by
    have h2 := HO.out
    rwa [List.take_of_length_le (by rw [iJ]; exact Nat.le_refl _)] at h2)
   have dw := af HB0.out aF.out
   have hz := HB0.out.size
   clear HO
   go_wp2
   go_ret
   exact ⟨_, rfl, HF.out.mono hz, dw⟩
def Jp (v x : Int) : Int := bits BinOp.or IntKind.u64 (IntKind.u64.wrap (v * 256)) (IntKind.u64.wrap x)
def Aq (l : List Int) : Int := l.foldl Jp 0
def nJ (h : List Int) : Int := Aq (h.take 8)
theorem FX {h : List Int} {k : Nat} (hk : k < h.length) : Aq (h.take (k + 1)) = Jp (Aq (h.take k)) (h.getD k 0) := by
 rw [take_one hk, Aq, List.foldl_append]; rfl
theorem CV (h : List Int) (hl : Hid (h.length = 32)) (hb : Hid (aH h = true)) (w : World) :
  Calls Tryz.prog 160 #[.agg (arr .u8 h)] w (Rt w (.int .u64 (nJ h))) := by
 have HT0 : Hid (cK .u8 32 (w.alloc (.cells (arr .u8 h) 32)) w.heap.size h) := aa (cK.new _ _)
 have hb0 := ai w (.cells (arr .u8 h) 32)
 obtain ⟨W, hW⟩ : ∃ W, w.alloc (.cells (arr .u8 h) 32) = W := ⟨_, rfl⟩
 rw [hW] at HT0 hb0
 have HB0 := aa hb0
 have HW := aa hW
 clear hW hb0
 go_in
 go_wp2_with fail
 rw [HW.out]
 clear HW
 go_loopw [3, 8] (fun x i u => ∃ k : Nat, k ≤ 8 ∧ i = .int .i64 k ∧ x = .int .u64 (Aq (h.take k)) ∧ u = W) (fun _ i _ => 8 - (intOf i).toNat)
 case atStart => exact ⟨0, by omega, rfl, rfl, rfl⟩
 case round =>
  obtain ⟨k, hk, rfl, rfl, rfl⟩ := hrel
  by_cases hlt : k < 8
  ·
   have hkl : k < h.length := by rw [hl.out]; omega
   have hc := HT0.out.cell hkl
   obtain ⟨x, hx⟩ : ∃ x, h.getD k 0 = x := ⟨_, rfl⟩
   rw [hx] at hc
   obtain ⟨v, hv⟩ : ∃ v, Aq (h.take k) = v := ⟨_, rfl⟩
   have HST : Hid (Aq (h.take (k + 1)) = Jp v x) := aa (by rw [FX hkl, hx, hv])
   rw [hv]
   clear hx hv hkl
   go_wp2
   go_roundw
   case rel => exact ⟨k + 1, by omega, by go_num, by rw [HST.out]; rfl, trivial⟩
   case measure => simp [intOf]; omega
  ·
   obtain rfl : k = 8 := by omega
   clear hlt
   obtain ⟨v, hv⟩ : ∃ v, Aq (h.take 8) = v := ⟨_, rfl⟩
   have HV : Hid (nJ h = v) := aa hv
   rw [hv]
   clear hv
   go_wp2
   go_ret
   exact ⟨by rw [HV.out]; rfl, HB0.out⟩
def vF (h : List Int) (c : Int) (f : Bool) : Array Value := arr .u8 h ++ #[.int .i64 c, .bool f]
def fP (w : World) (b : Nat) (h : List Int) (c : Int) (f : Bool) : Prop := w.heap[b]? = some (.cells (vF h c f) 175 (0, 0))
variable {w : World} {b : Nat} {h : List Int} {c : Int} {f : Bool}
theorem fP.lt (hh : fP w b h c f) : b < w.heap.size := (Array.getElem?_eq_some_iff.1 hh).1
theorem fP.below {w' : World} (hh : fP w b h c f) (hb : Below w.heap.size w w') : fP w' b h c f := (hb.block b hh.lt).trans hh
theorem zM (hl : h.length = 32) : (vF h c f)[32]? = some (.int .i64 c) := by
 rw [vF, Array.getElem?_append_right (by rw [bD, hl]; exact Nat.le_refl _), bD, hl]; rfl
theorem Hu (hl : h.length = 32) : (vF h c f)[33]? = some (.bool f) := by
 rw [vF, Array.getElem?_append_right (by rw [bD, hl]; decide), bD, hl]; rfl
theorem fP.count (hh : fP w b h c f) (hl : h.length = 32) : Own w ⟨b, 32, none⟩ (.int .i64 c) := ⟨(aj hh 32).trans (zM hl), aS hh 32⟩
theorem fP.full (hh : fP w b h c f) (hl : h.length = 32) : Own w ⟨b, 33, none⟩ (.bool f) := ⟨(aj hh 33).trans (Hu hl), aS hh 33⟩
theorem E8 (hl : h.length = 32) (x : Int) : (vF h c f).setIfInBounds 32 (.int .i64 x) = vF h x f := by
 apply Array.ext'
 simp [vF, arr, List.set_append, hl]
theorem E5 (hl : h.length = 32) (x : Bool) : (vF h c f).setIfInBounds 33 (.bool x) = vF h c x := by
 apply Array.ext'
 simp [vF, arr, List.set_append, hl]
theorem fP.set32 (hh : fP w b h c f) (hl : h.length = 32) (x : Int) : fP (w.setCell ⟨b, 32, none⟩ (.int .i64 x)) b h x f := by
 unfold fP
 rw [heap_setCell_same w b 32 _ _ _ hh, E8 hl]
theorem fP.set33 (hh : fP w b h c f) (hl : h.length = 32) (x : Bool) : fP (w.setCell ⟨b, 33, none⟩ (.bool x)) b h c x := by
 unfold fP
 rw [heap_setCell_same w b 33 _ _ _ hh, E5 hl]
theorem fP.range (hh : fP w b h c f) (hl : h.length = 32) : w.rangeAt b 0 (aT h c).toList := fun j v hj => by
 have hlt : j < 33 := by
  have h2 := (List.getElem?_eq_some_iff.1 hj).1
  rw [Array.length_toList, jr hl] at h2
  exact h2
 rw [Nat.zero_add, aj hh, ← hj, Array.getElem?_toList]
 by_cases h3 : j < 32
 · rw [vF, aT, Array.getElem?_append_left (by rw [bD, hl]; exact h3), Array.getElem?_append_left (by rw [bD, hl]; exact h3)]
 ·
  obtain rfl : j = 32 := by omega
  rw [zM hl, aT, Array.getElem?_append_right (by rw [bD, hl]; exact Nat.le_refl _), bD, hl]
  rfl
theorem mX (hl : h.length = 32) : (Tryz.prog.info? 34).map (·.size) = some (aT h c).toList.length := (aK (c := c) hl).trans (by simp)
theorem aC {w w' : World} (h : Below w.heap.size w w') (r : Option Nat) : w.grownBy w' r := ⟨h.os, h.tape, h.output, h.size, fun k hk _ => h.block k hk⟩
theorem ax {w w1 w2 : World} {r : Option Nat} (h1 : w.grownBy w1 r) (h2 : w1.grownBy w2 r) : w.grownBy w2 r :=
 ⟨h2.os.trans h1.os, h2.tape.trans h1.tape, h2.output.trans h1.output, Nat.le_trans h1.size h2.size, fun k hk hne => (h2.block k (Nat.lt_of_lt_of_le hk h1.size) hne).trans (h1.block k hk hne)⟩
theorem eF {w : World} (b j : Nat) (v : Value) : w.grownBy (w.setCell ⟨b, j, none⟩ v) (some b) := uI w b j v
theorem oD {w w' : World} {b B : Nat} (h : w.grownBy w' (some b)) (hB : B ≤ b) (hs : B ≤ w.heap.size) : Below B w w' := (Below.refl B w).grown h hs (fun j hj => by cases hj; exact hB)
theorem bS {w w1 : World} {r : Option Nat} (h : w.grownBy w1 r) (a : Nat) (ha : w.heap.size ≤ a) (cs : Array Value) : w.grownBy (w1.setRow a cs) r :=
 ⟨h.os, h.tape, h.output, by rw [setRow_size]; exact h.size, fun k hk hne => (setRow_other w1 a k cs (by omega)).trans (h.block k hk hne)⟩
theorem bT {w w1 : World} {r : Option Nat} (h : w.grownBy w1 r) (o : Obj) : w.grownBy (w1.alloc o) r := ax h (aC (ai _ _) r)
def oG (h : List Int) (c : Int) : List Int := rT (h ++ mg c)
theorem J2 (h : List Int) (c : Int) : (oG h c).length = 32 := iE _
theorem Db (h : List Int) (c : Int) : aH (oG h c) = true := jh _
theorem AO (h : List Int) (hl : Hid (h.length = 32)) (b : Nat) (f0 : Bool) (w : World) (hS : Hid (fP w b h 1099511627776 f0)) :
  Calls Tryz.prog 159 #[.pointer (some ⟨b, 0, none⟩)] w fun e w' => e = .returned (.agg (arr .u8 (aZ 32))) ∧ fP w' b h 1099511627776 true ∧ w.grownBy w' (some b) := by
 obtain ⟨W, hW⟩ : ∃ W, w.alloc (.cells z32 32) = W := ⟨_, rfl⟩
 have dR : Hid (Below w.heap.size w W) := aa (by rw [← hW]; exact ai _ _)
 have dY : Hid (cK .u8 32 W w.heap.size (aZ 32)) := aa (by rw [← hW, sW]; exact heap_alloc_new _ _)
 have HS := aa (hS.out.below dR.out)
 have SF : Hid (b < w.heap.size) := aa hS.out.lt
 have HW := aa hW
 clear hW
 obtain ⟨c1, c2⟩ := HS.out.count hl.out
 obtain ⟨f1, f2⟩ := HS.out.full hl.out
 have HS2 := aa (HS.out.set33 hl.out true)
 have HR2 : Hid (cK .u8 32 (W.setCell ⟨b, 33, none⟩ (.bool true)) w.heap.size (aZ 32)) := aa (dY.out.set_ne (by have := SF.out; omega))
 go_in
 go_upto_region 1 with (fail)
 rw [HW.out]
 clear HW
 go_wp2_with ((with_reducible show wpList _ _ _ (⟨none, _, _, _, _, _⟩ :: _) _ _); refine wpList_store_row rfl 32 _ _ rfl w.heap.size (arr .u8 (aZ 32)) rfl rfl _ _ HR2.out (aW rfl) (fM (l := aZ 32) rfl rfl) (dQ _) ?_)
 have HRR : Hid (cK .u8 32 ((W.setCell ⟨b, 33, none⟩ (.bool true)).setRow w.heap.size (arr .u8 (aZ 32))) w.heap.size (aZ 32)) := aa HR2.out.setRow
 have Vm : fP ((W.setCell ⟨b, 33, none⟩ (.bool true)).setRow w.heap.size (arr .u8 (aZ 32))) b h 1099511627776 true := (setRow_other _ _ b _ (by have := SF.out; omega)).trans HS2.out
 have hGF : w.grownBy ((W.setCell ⟨b, 33, none⟩ (.bool true)).setRow w.heap.size (arr .u8 (aZ 32))) (some b) := bS (ax (aC dR.out _) (eF b 33 _)) _ (Nat.le_refl _) _
 exact bodyPost_ret (v := .agg (arr .u8 (aZ 32))) (bM (p := 2) (ty := 32) rfl _ _ ⟨w.heap.size, 0, none⟩ _ rfl (run_loadVar_row _ _ _ _ _ _ _ HRR.out Tryz.underlying32 rfl (aW rfl))) rfl ⟨rfl, Vm, hGF⟩
theorem F6 (h : List Int) (hl : Hid (h.length = 32)) (hb : Hid (aH h = true)) (c : Int) (hc0 : 0 ≤ c) (hc1 : c < 1099511627776) (b : Nat) (w : World) (hv : Hid (bX w)) (hS : Hid (fP w b h c false)) :
  Calls Tryz.prog 159 #[.pointer (some ⟨b, 0, none⟩)] w fun e w' => e = .returned (.agg (arr .u8 (oG h c))) ∧ fP w' b h (c + 1) false ∧ w.grownBy w' (some b) := by
 obtain ⟨W, hW⟩ : ∃ W, w.alloc (.cells z32 32) = W := ⟨_, rfl⟩
 have dR : Hid (Below w.heap.size w W) := aa (by rw [← hW]; exact ai _ _)
 have dY : Hid (cK .u8 32 W w.heap.size (aZ 32)) := aa (by rw [← hW, sW]; exact heap_alloc_new _ _)
 have HS := aa (hS.out.below dR.out)
 have HV := aa (hv.out.below dR.out)
 have SF : Hid (b < w.heap.size) := aa hS.out.lt
 have HW := aa hW
 have hcn : ¬ (c = 1099511627776) := by omega
 have hwr : IntKind.i64.wrap (c + 1) = c + 1 := IntWalk.i64_in _ (by omega)
 clear hW
 obtain ⟨c1, c2⟩ := HS.out.count hl.out
 go_in
 go_upto_region 1 with (fail)
 rw [HW.out]
 clear HW
 go_wp2_with ((with_reducible show wpList _ _ _ (⟨some 17, _, _, _, _, _⟩ :: _) _ _); refine wpList_load_mid rfl 34 _ rfl b 0 rfl (aT h c).toList _ (HS.out.range hl.out) Tryz.underlying34 rfl (mX hl.out) ?_)
 clear c1 c2
 refine (vL h hl c hc0 (by omega) _).mono ?_
 rintro e w1 ⟨v1, rfl, ho1, hb1⟩
 have MX := aa (HS.out.below hb1)
 have HR1 := aa (dY.out.below hb1)
 have gT := aa (HV.out.below hb1)
 have HB1 := aa (af dR.out hb1)
 obtain ⟨E, hE⟩ : ∃ E, h ++ mg c = E := ⟨_, rfl⟩
 have Kr : Hid (E.length = 40) := aa (by rw [← hE, List.length_append, hl.out, iJ])
 have Td : Hid (aH E = true) := aa (by rw [← hE, bO, hb.out, nD]; rfl)
 rw [hE] at ho1
 obtain ⟨g1, O3, e1, hg1, -, -, QX⟩ := ho1.cells (by rw [Kr.out]; decide)
 rw [Kr.out] at e1
 subst e1
 have Sd := aa QX
 have WO : Kp (oG h c = rT E) := ⟨by rw [oG, hE]⟩
 clear hb1 ho1 hE QX hg1
 go_wp2_with fail
 refine (xP g1 0 O3 E 40 Kr (by omega) Td _ Sd gT).mono ?_
 rintro e w2 ⟨rfl, hb2⟩
 obtain ⟨R, hR⟩ : ∃ R, rT E = R := ⟨_, rfl⟩
 have jl : Hid (R.length = 32) := aa (by rw [← hR]; exact iE _)
 have M5 : Kp (oG h c = R) := ⟨by rw [WO.1, hR]⟩
 rw [hR]
 have HS2 := aa (MX.out.below hb2)
 have HR2 := aa (HR1.out.below hb2)
 have HB2 := aa (af HB1.out hb2)
 clear hb2 hR Sd
 go_upto_region 5 with ((with_reducible show wpList _ _ _ (⟨none, _, _, _, _, _⟩ :: _) _ _); refine wpList_store_row rfl 32 _ _ rfl w2.heap.size (arr .u8 R) rfl rfl _ _ (heap_alloc_new _ _) (aW jl.out) (fM (l := aZ 32) rfl jl.out) (dQ _) ?_)
 rw [World.setRow_alloc_new]
 try simp only [Act.put]
 have KT : Hid (cK .u8 32 (w2.alloc (.cells (arr .u8 R) 32)) w2.heap.size R) := aa (cK.new _ _)
 have zf := aa (HS2.out.below (ai w2 (.cells (arr .u8 R) 32)))
 have HR3 := aa (HR2.out.below (ai w2 (.cells (arr .u8 R) 32)))
 have HB3 := aa (af HB2.out (ai w2 (.cells (arr .u8 R) 32)))
 have Wl : Hid (b < w2.heap.size) := aa HS2.out.lt
 obtain ⟨W3, hW3⟩ : ∃ u, w2.alloc (.cells (arr .u8 R) 32) = u := ⟨_, rfl⟩
 rw [hW3] at KT zf HR3 HB3 ⊢
 clear hW3 HS2 HR2 HB2
 obtain ⟨c1, c2⟩ := zf.out.count hl.out
 have vS := aa (zf.out.set32 hl.out (c + 1))
 have HR4 : Hid (cK .u8 32 (W3.setCell ⟨b, 32, none⟩ (.int .i64 (c + 1))) w.heap.size (aZ 32)) := aa (HR3.out.set_ne (by have := SF.out; omega))
 have HK4 : Hid (cK .u8 32 (W3.setCell ⟨b, 32, none⟩ (.int .i64 (c + 1))) w2.heap.size R) := aa (KT.out.set_ne (by have := Wl.out; omega))
 go_wp2_with (first
  | ((with_reducible show wpList _ _ _ (⟨some 29, _, _, _, _, _⟩ :: _) _ _); refine wpList_load_row rfl 32 _ rfl w2.heap.size rfl _ _ _ _ HK4.out Tryz.underlying32 rfl (aW jl.out) ?_)
  | ((with_reducible show wpList _ _ _ (⟨none, 28, _, _, _, _⟩ :: _) _ _); fail)
  | (refine wpList_store_row rfl 32 _ _ rfl w.heap.size (arr .u8 R) rfl rfl _ _ HR4.out (aW jl.out) (fM (l := aZ 32) rfl jl.out) (dQ _) ?_))
 have HRR : Hid (cK .u8 32 ((W3.setCell ⟨b, 32, none⟩ (.int .i64 (c + 1))).setRow w.heap.size (arr .u8 R)) w.heap.size R) := aa HR4.out.setRow
 have Vm : fP ((W3.setCell ⟨b, 32, none⟩ (.int .i64 (c + 1))).setRow w.heap.size (arr .u8 R)) b h (c + 1) false := (setRow_other _ _ b _ (by have := SF.out; omega)).trans vS.out
 have hGF : w.grownBy ((W3.setCell ⟨b, 32, none⟩ (.int .i64 (c + 1))).setRow w.heap.size (arr .u8 R)) (some b) := bS (ax (aC HB3.out _) (eF b 32 _)) _ (Nat.le_refl _) _
 exact bodyPost_ret (v := .agg (arr .u8 R)) (bM (p := 2) (ty := 32) rfl _ _ ⟨w.heap.size, 0, none⟩ _ rfl (run_loadVar_row _ _ _ _ _ _ _ HRR.out Tryz.underlying32 rfl (aW jl.out))) rfl ⟨by rw [M5.1], Vm, hGF⟩
theorem Da : Tryz.prog.built 34 [] = some (aT (aZ 32) 0) := by kernel_rfl
def KX (h : List Int) (c e : Int) : Value := .tuple #[.agg (aT h c), .int .i64 e]
theorem rz (h : List Int) (hl : Hid (h.length = 32)) (c : Int) (f : Bool) (b : Nat) (w : World) (hS : Hid (fP w b h c f)) :
  Calls Tryz.prog 139 #[.pointer (some ⟨b, 0, none⟩)] w (Rt w (if f = true then KX (aZ 32) 0 5 else KX h c 0)) := by
 obtain ⟨W, hW⟩ : ∃ W, w.alloc (.cells #[.int .u8 0, .int .u8 0, .int .u8 0, .int .u8 0, .int .u8 0, .int .u8 0, .int .u8 0, .int .u8 0, .int .u8 0, .int .u8 0, .int .u8 0, .int .u8 0, .int .u8 0, .int .u8 0, .int .u8 0, .int .u8 0, .int .u8 0, .int .u8 0, .int .u8 0, .int .u8 0, .int .u8 0, .int .u8 0, .int .u8 0, .int .u8 0, .int .u8 0, .int .u8 0, .int .u8 0, .int .u8 0, .int .u8 0, .int .u8 0, .int .u8 0, .int .u8 0, .int .i64 0] 34) = W := ⟨_, rfl⟩
 have dR : Hid (Below w.heap.size w W) := aa (by rw [← hW]; exact ai _ _)
 have dY : Hid (dK W w.heap.size (aZ 32) 0) := aa (by rw [← hW, Du]; exact heap_alloc_new _ _)
 have HS := aa (hS.out.below dR.out)
 have HW := aa hW
 clear hW
 obtain ⟨f1, f2⟩ := HS.out.full hl.out
 cases f with
 | true =>
  rw [if_pos rfl]
  go_in
  go_upto_region 1 with (fail)
  rw [HW.out]
  clear HW
  go_wp2_with (first
   | ((with_reducible show wpList _ _ _ (⟨some 8, _, _, _, _, _⟩ :: _) _ _); refine dA rfl 34 _ rfl _ Da ?_)
   | ((with_reducible show wpList _ _ _ (⟨none, _, _, _, _, _⟩ :: _) _ _); refine wpList_store_row rfl 34 _ _ rfl w.heap.size (aT (aZ 32) 0) rfl rfl _ _ dY.out (aK rfl) rfl (bg _ _) ?_))
  have HRR : Hid (dK (W.setRow w.heap.size (aT (aZ 32) 0)) w.heap.size (aZ 32) 0) := aa dY.out.setRow
  exact bodyPost_ret (v := KX (aZ 32) 0 5) (bL (p := 2) (q := 3) (ty := 34) rfl _ _ ⟨w.heap.size, 0, none⟩ _ _ rfl rfl (run_loadVar_row _ _ _ _ _ _ _ HRR.out Tryz.underlying34 rfl (aK rfl))) rfl ⟨rfl, aD dR.out (Nat.le_refl _)⟩
 | false =>
  rw [if_neg (by decide)]
  go_in
  go_upto_region 1 with (fail)
  rw [HW.out]
  clear HW
  go_wp2_with (first
   | ((with_reducible show wpList _ _ _ (⟨some 12, _, _, _, _, _⟩ :: _) _ _); refine wpList_load_mid rfl 34 _ rfl b 0 rfl (aT h c).toList _ (HS.out.range hl.out) Tryz.underlying34 rfl (mX hl.out) ?_)
   | ((with_reducible show wpList _ _ _ (⟨none, _, _, _, _, _⟩ :: _) _ _); refine wpList_store_row rfl 34 _ _ rfl w.heap.size (aT h c) rfl rfl _ _ dY.out (aK hl.out) (fe rfl hl.out) (bg _ _) ?_))
  have HRR : Hid (dK (W.setRow w.heap.size (aT h c)) w.heap.size h c) := aa dY.out.setRow
  exact bodyPost_ret (v := KX h c 0) (bL (p := 2) (q := 3) (ty := 34) rfl _ _ ⟨w.heap.size, 0, none⟩ _ _ rfl rfl (run_loadVar_row _ _ _ _ _ _ _ HRR.out Tryz.underlying34 rfl (aK hl.out))) rfl ⟨rfl, aD dR.out (Nat.le_refl _)⟩
theorem Own.set_eq {w : World} {p : Addr} {v u : Value} (h : Own w p v) : Own (w.setCell p u) p u :=
 ⟨World.cell?_setCell_same _ _ _ h.1, by rw [World.frozen?_setCell]; exact h.2⟩
theorem aI {w u : World} {lb : Nat} {a : Addr} {v : Value} (h : w.grownBy u (some lb)) (hb : a.block ≠ lb) (hc : w.cell? a = some v) : u.cell? a = some v :=
 (by
  have e := h.block a.block (World.block_lt_of_cell? _ _ hc) (fun e => hb (by injection e with e))
  simp only [World.cell?, e] : u.cell? a = w.cell? a).trans hc
theorem Qa {W0 W1 u : World} {lb : Nat} (h0 : Below W0.heap.size W0 W1) (hlb : W0.heap.size ≤ lb) (h : W1.grownBy u (some lb)) : Below W0.heap.size W0 u := h0.grown h h0.size (fun j hj => by cases hj; exact hlb)
abbrev YS (gb : Nat) : Value := .func (.func 92) #[] #[.pointer (some ⟨gb, 0, none⟩)]
theorem tF (P Q G : Int) (W0 W1 : World) (lb gb : Nat) (h0 : Hid (Below W0.heap.size W0 W1)) (hlb : Hid (W0.heap.size ≤ lb))
  (HG : Hid (∀ (x : FT) (u : World), W1.grownBy u (some lb) → dU u x → x.sh → x.at_ P Q G → Calls Tryz.prog 92 #[fV x, .pointer (some ⟨gb, 0, none⟩)] u (Rt u (.bool true)))) :
  ∀ (d : Nat) (f : FT) (dep left : Int) (w : World), f.dp ≤ d → 1 ≤ dep → dep + f.dp ≤ 7 → Hid (W1.grownBy w (some lb)) → Hid (dU W0 f) → f.sh → f.at_ P Q G → Hid (Own w ⟨lb, 0, none⟩ (.int .i64 left)) → f.nd ≤ left → left ≤ 30 →
   Calls Tryz.prog 91 #[fV f, .int .i64 dep, .pointer (some ⟨lb, 0, none⟩), YS gb] w (fun e w' => e = .returned (.bool true) ∧ W1.grownBy w' (some lb) ∧ Own w' ⟨lb, 0, none⟩ (.int .i64 (left - f.nd)))
 | 0, f, _, _, _, h, _, _, _, _, _, _, _, _, _ => by have := f.dp_eq; omega
 | d + 1, f, dep, left, w, hd, hp1, hp2, hgw, hF, hs, ha, hO, hn1, hn2 => by
  have hnp := uq f
  have HS := aa f.sh_eq
  have HA := aa (f.at_eq (P := P) (Q := Q) (G := G))
  have HCG := aa (fun u h => HG.out f u h)
  have hnd := f.nd_eq
  have Xu := f.dp_eq
  obtain ⟨kind, Y, yn, yc, ys, B, bn, bc, rows, L, ln, lc, l⟩ := f
  obtain ⟨hyn, hbn, hln, UZ⟩ := hF.out.lens
  dsimp only at hyn hbn hln UZ HS HA hnd Xu
  have hbl : lb < w.heap.size := World.block_lt_of_cell? _ _ hO.out.1
  obtain ⟨w0, HW, av, kC⟩ := st1 (fO kind Y yn yc B bn bc L ln lc) qQ w
  have Gn := aa (hO.out.below av.out)
  have Gp : Hid (∀ k, k < l.length → (l.getD k aY).sh ∧ (l.getD k aY).at_ P Q G) := aa (fun k hk => by
   rcases HS.out.1 hs with ⟨k1, k2⟩ | ⟨k1, k2, k3, k4, k5⟩
   · subst k2; simp at hk
   ·
    rcases HA.out.1 ha with ⟨m1, _⟩ | ⟨_, m2⟩
    · omega
    · exact ⟨k5 k hk, m2 k hk⟩)
  clear hO HS HA
  go_in
  go_upto_region 1 with (fail)
  rw [show w.alloc (fO kind Y yn yc B bn bc L ln lc) = w0 from HW.out]
  obtain ⟨l0, l1⟩ := Gn.out
  have hl1 : 1 ≤ left := by omega
  go_upto_region 2 with (fail)
  obtain ⟨c0, c1, c2, c3⟩ := kC.out _ (dS w0)
  obtain ⟨w1, hw1⟩ : ∃ u, w0.setCell ⟨lb, 0, none⟩ (.int .i64 (left - 1)) = u := ⟨_, rfl⟩
  have u_ : Hid (Own w1 ⟨lb, 0, none⟩ (.int .i64 (left - 1))) := aa (by rw [← hw1]; exact Gn.out.set_eq)
  have hg1 : w0.grownBy w1 (some lb) := by rw [← hw1]; exact eF lb 0 _
  have hne : w.heap.size ≠ lb := by omega
  have k0 := aI hg1 hne c0
  have k1 := aI hg1 hne c1
  have k2 := aI hg1 hne c2
  have k3 := aI hg1 hne c3
  have M9 : Hid (W1.grownBy w1 (some lb)) := aa (ax (ax hgw.out (aC av.out _)) hg1)
  have YG := aa (dU.below (Qa h0.out hlb.out M9.out) hF.out)
  rw [hw1]
  clear c0 c1 c2 c3 l0 l1 Gn hg1 hw1 kC HW av hgw hbl
  obtain ⟨l0, l1⟩ := u_.out
  have d1 : decide (left - 1 < 0) = false := by simp; omega
  have d2 : decide (6 < dep) = false := by simp; omega
  go_wp2_with fail
  refine (HCG.out _ M9.out YG.out hs ha).mono ?_
  rintro e w2 ⟨rfl, hb2⟩
  have HG2 := aa (ax M9.out (aC hb2 (some lb)))
  have sH := aa (u_.out.below hb2)
  have m3 := cell_below k3 hb2
  clear k0 k1 k2 k3 l0 l1 d1 d2 M9 u_ YG hb2 hs ha
  have HE : Hid (left - 1 - (lQ l : Int) = left - (((⟨kind, Y, yn, yc, ys, B, bn, bc, rows, L, ln, lc, l⟩ : FT).nd : Nat) : Int)) := aa (by omega)
  go_wp2_with fail
  clear m3
  go_loopw [33] (fun vi u => ∃ k : Nat, k ≤ ln ∧ vi = .int .i64 k ∧ Hid (W1.grownBy u (some lb)) ∧ Hid (Own u ⟨lb, 0, none⟩ (.int .i64 (left - 1 - lQ (l.take k))))) (fun vi _ => ln - (intOf vi).toNat)
  case atStart => exact ⟨0, by omega, rfl, HG2, aa (by simpa [lQ] using sH.out)⟩
  case round =>
   obtain ⟨k, hk, rfl, iq, HOr⟩ := hrel
   by_cases hlt : k < ln
   case neg =>
    obtain rfl : k = ln := by omega
    rw [List.take_of_length_le (by omega)] at HOr
    rw [HE.out] at HOr
    go_wp2
    go_ret
    exact ⟨rfl, iq.out, HOr.out⟩
   have hkl : k < l.length := by omega
   obtain ⟨-, -, -, -, -, -, -, hX0⟩ := hF.out.kid (k := k) hlt
   obtain ⟨b, o, hL, i0, i1, i2, i3, -⟩ := (dU.below (Qa h0.out hlb.out iq.out) hF.out).kid (k := k) hlt
   dsimp only at hL i0 i1 i2 i3 hX0
   subst hL
   have htk := pq hkl
   have hle := jU (l := l) (k + 1)
   obtain ⟨hsx, hax⟩ := Gp.out k hkl
   have hdl := yM hkl
   obtain ⟨x, hx⟩ : ∃ x, l.getD k aY = x := ⟨_, rfl⟩
   rw [hx] at i0 i1 i2 i3 hX0 htk hsx hax hdl
   have hnx := uq x
   have Zt : dep ≤ 6 := by omega
   have fQ := aa (fun u hg hO => tF P Q G W0 W1 lb gb h0 hlb HG d x (dep + 1) (left - 1 - lQ (l.take k)) u (by omega) (by omega) (by omega) hg (aa hX0) hsx hax hO (by omega) (by omega))
   have hval : left - 1 - (lQ (l.take k) : Int) - (x.nd : Nat) = left - 1 - (lQ (l.take (k + 1)) : Int) := by omega
   rw [hval] at fQ
   clear hX0 hx hkl htk hle hsx hax hdl hnx hval hd hnd Xu
   obtain ⟨xk, xY, jL, jM, xys, xB, jN, jO, fE, xL, jm, jo, xl⟩ := x
   dsimp only at i0 i1 i2 i3
   go_upto_region 7 with (fail)
   obtain ⟨w3, hw3, HB3, _, _, kz⟩ := su (fO xk xY jL jM xB jN jO xL jm jo) qQ wr
   rw [hw3]
   clear hw3
   obtain ⟨z0, z1, z2, z3⟩ := kz.out _ (dS w3)
   clear i0 i1 i2 i3
   go_wp2_with fail
   refine (fQ.out _ (aa (ax iq.out (aC HB3.out (some lb)))) (aa (HOr.out.below HB3.out))).mono ?_
   rintro e w4 ⟨rfl, hg4, KI⟩
   have GH := aa hg4
   have sG := aa KI
   clear hg4 KI z0 z1 z2 z3
   go_wp2
   go_roundw
   case rel => exact ⟨k + 1, by omega, by go_num, GH, sG⟩
   case measure => simp [intOf]; omega
theorem EY (P Q G : Int) (gb : Nat) (pb : Nat) (x : FT) (u : World) (hc : u.cell? ⟨gb, 0, none⟩ = some (.func (.func 47) #[] #[.pointer (some ⟨pb, 0, none⟩)]))
  (hR : Hid (∀ w2 : World, Below u.heap.size u w2 → x.kind = 1 → Calls Tryz.prog 47 #[dm x.Y x.yn x.yc x.B x.bn x.bc, .pointer (some ⟨pb, 0, none⟩)] w2 (Rt w2 (.bool true))))
  (hF : Hid (dU u x)) (hs : x.sh) :
  Calls Tryz.prog 92 #[fV x, .pointer (some ⟨gb, 0, none⟩)] u (Rt u (.bool true)) := by
 have HS := x.sh_eq.1 hs
 obtain ⟨kind, Y, yn, yc, ys, B, bn, bc, rows, L, ln, lc, l⟩ := x
 obtain ⟨hyn, hbn, hln, hlb⟩ := hF.out.lens
 dsimp only at hyn hbn hln hlb HS hR
 obtain ⟨w0, HW, av, kC⟩ := st1 (fO kind Y yn yc B bn bc L ln lc) qQ u
 have aA := dS w0
 have hc0 := cell_below hc av.out
 clear hF hs hc
 go_in
 go_upto_region 1 with (fail)
 rw [show u.alloc (fO kind Y yn yc B bn bc L ln lc) = w0 from HW.out]
 obtain ⟨c0, c1, c2, c3⟩ := kC.out _ aA
 rcases HS with ⟨h1, h2⟩ | ⟨h1, h2, h3, h4, _⟩
 ·
  have hl0 : ln = 0 := by subst h2; simpa using hln.symm
  have HR := aa (hR.out w0 av.out h1)
  subst hl0 h1
  clear hln hR
  go_wp2_with fail
  refine HR.out.mono ?_
  rintro e w2 ⟨rfl, hb2⟩
  have HB2 := cZ aA hb2
  clear hb2 c0 c1 c2 c3 hc0
  go_wp2
  go_ret
  exact ⟨rfl, gN av HB2⟩
 ·
  have hy0 : yn = 0 := by subst h2; simpa using hyn.symm
  have hb0 : bn = 0 := by subst h3; simpa using hbn.symm
  have d1 : decide ((1 : Int) ≤ (ln : Int)) = true := by simp; omega
  have d2 : decide ((ln : Int) ≤ 8) = true := by simp; omega
  subst hy0 hb0
  clear hyn hbn hR
  rcases h1 with rfl | rfl
  ·
   go_wp2
   go_ret
   exact ⟨rfl, gN av aA⟩
  ·
   go_wp2
   go_ret
   exact ⟨rfl, gN av aA⟩
theorem EZ (P Q G : Int) (gb : Nat) (x : FT) (u : World) (hc : u.cell? ⟨gb, 0, none⟩ = some (.func (.func 106) #[] #[]))
  (hR : Hid (∀ w2 : World, Below u.heap.size u w2 → x.kind = 1 → Calls Tryz.prog 106 #[dm x.Y x.yn x.yc x.B x.bn x.bc] w2 (Rt w2 (.bool true))))
  (hF : Hid (dU u x)) (hs : x.sh) :
  Calls Tryz.prog 92 #[fV x, .pointer (some ⟨gb, 0, none⟩)] u (Rt u (.bool true)) := by
 have HS := x.sh_eq.1 hs
 obtain ⟨kind, Y, yn, yc, ys, B, bn, bc, rows, L, ln, lc, l⟩ := x
 obtain ⟨hyn, hbn, hln, hlb⟩ := hF.out.lens
 dsimp only at hyn hbn hln hlb HS hR
 obtain ⟨w0, HW, av, kC⟩ := st1 (fO kind Y yn yc B bn bc L ln lc) qQ u
 have aA := dS w0
 have hc0 := cell_below hc av.out
 clear hF hs hc
 go_in
 go_upto_region 1 with (fail)
 rw [show u.alloc (fO kind Y yn yc B bn bc L ln lc) = w0 from HW.out]
 obtain ⟨c0, c1, c2, c3⟩ := kC.out _ aA
 rcases HS with ⟨h1, h2⟩ | ⟨h1, h2, h3, h4, _⟩
 ·
  have hl0 : ln = 0 := by subst h2; simpa using hln.symm
  have HR := aa (hR.out w0 av.out h1)
  subst hl0 h1
  clear hln hR
  go_wp2_with fail
  refine HR.out.mono ?_
  rintro e w2 ⟨rfl, hb2⟩
  have HB2 := cZ aA hb2
  clear hb2 c0 c1 c2 c3 hc0
  go_wp2
  go_ret
  exact ⟨rfl, gN av HB2⟩
 ·
  have hy0 : yn = 0 := by subst h2; simpa using hyn.symm
  have hb0 : bn = 0 := by subst h3; simpa using hbn.symm
  have d1 : decide ((1 : Int) ≤ (ln : Int)) = true := by simp; omega
  have d2 : decide ((ln : Int) ≤ 8) = true := by simp; omega
  subst hy0 hb0
  clear hyn hbn hR
  rcases h1 with rfl | rfl
  ·
   go_wp2
   go_ret
   exact ⟨rfl, gN av aA⟩
  ·
   go_wp2
   go_ret
   exact ⟨rfl, gN av aA⟩
theorem Hq (P Q G : Int) (pb : Nat) (f : FT) (w : World)
  (hR : Hid (∀ (x : FT) (w2 : World), Below w.heap.size w w2 → dU w2 x → x.at_ P Q G → x.kind = 1 → Calls Tryz.prog 47 #[dm x.Y x.yn x.yc x.B x.bn x.bc, .pointer (some ⟨pb, 0, none⟩)] w2 (Rt w2 (.bool true))))
  (hF : Hid (dU w f)) (hs : f.sh) (ha : f.at_ P Q G) (hn : f.nd ≤ 30) (hd : f.dp ≤ 6) :
  Calls Tryz.prog 46 #[fV f, .func (.func 47) #[] #[.pointer (some ⟨pb, 0, none⟩)]] w (Rt w (.bool true)) := by
 obtain ⟨dd, hdd⟩ : ∃ z, f.dp = z := ⟨_, rfl⟩
 obtain ⟨nn, hnn⟩ : ∃ z, f.nd = z := ⟨_, rfl⟩
 have VN := aa (fun (W1 : World) (lb gb : Nat) (h0 : Hid (Below w.heap.size w W1)) (hlb : Hid (w.heap.size ≤ lb)) HG (u : World) h1 h2 => tF P Q G w W1 lb gb h0 hlb HG dd f 1 30 u (by omega) (by omega) (by omega) h1 hF hs ha h2 (by omega) (by omega))
 clear hdd hnn
 obtain ⟨kind, Y, yn, yc, ys, B, bn, bc, rows, L, ln, lc, l⟩ := f
 obtain ⟨w0, HW, av, kC⟩ := st2 (fO kind Y yn yc B bn bc L ln lc) KN (.cells #[.func (.func 47) #[] #[.pointer (some ⟨pb, 0, none⟩)]] 84) Nv w
 have hsz : w.heap.size + 2 ≤ w0.heap.size := by rw [← HW.out]; simp
 go_in
 go_upto_region 1 with (fail)
 rw [show (w.alloc (fO kind Y yn yc B bn bc L ln lc)).alloc (.cells #[.func (.func 47) #[] #[.pointer (some ⟨pb, 0, none⟩)]] 84) = w0 from HW.out]
 go_upto_region 2 with (fail)
 obtain ⟨w1, hw1, HB1, -, -, kL⟩ := su (C := fun u b => Own u ⟨b, 0, none⟩ (.int .i64 30)) (.cells #[.int .i64 30] 3) (fun u b h => XZ h) w0
 rw [hw1]
 clear hw1
 obtain ⟨c0, c1, c2, c3, c4⟩ := kC.out _ HB1
 have h0 := aa (gN av HB1)
 have hlb : Hid (w.heap.size ≤ w0.heap.size) := aa (by omega)
 have HG : Hid (∀ (x : FT) (u : World), w1.grownBy u (some w0.heap.size) → dU u x → x.sh → x.at_ P Q G → Calls Tryz.prog 92 #[fV x, .pointer (some ⟨w.heap.size + 1, 0, none⟩)] u (Rt u (.bool true))) := aa (fun x u hg KM hsx hax =>
  EY P Q G (w.heap.size + 1) pb x u (aI hg (show w.heap.size + 1 ≠ w0.heap.size by omega) c4) (aa (fun w2 hb2 hk => hR.out x w2 (af (Qa h0.out hlb.out hg) hb2) (dU.below hb2 KM) hax hk)) (aa KM) hsx)
 have fQ := aa (VN.out w1 w0.heap.size (w.heap.size + 1) h0 hlb HG w1 (aa (aC (Below.refl _ _) _)) (kL.out _ (dS w1)))
 clear HG
 have l0 := (kL.out _ (dS w1)).1
 go_wp2_with fail
 refine fQ.out.mono ?_
 rintro e w2 ⟨rfl, hg2, -⟩
 have hb2 := Qa h0.out hlb.out hg2
 clear hg2 c0 c1 c2 c3 c4 l0
 go_wp2
 go_ret
 exact ⟨rfl, hb2⟩
theorem Hr (P Q G : Int) (f : FT) (w : World)
  (hR : Hid (∀ (x : FT) (w2 : World), Below w.heap.size w w2 → dU w2 x → x.at_ P Q G → x.kind = 1 → Calls Tryz.prog 106 #[dm x.Y x.yn x.yc x.B x.bn x.bc] w2 (Rt w2 (.bool true))))
  (hF : Hid (dU w f)) (hs : f.sh) (ha : f.at_ P Q G) (hn : f.nd ≤ 30) (hd : f.dp ≤ 6) :
  Calls Tryz.prog 46 #[fV f, .func (.func 106) #[] #[]] w (Rt w (.bool true)) := by
 obtain ⟨dd, hdd⟩ : ∃ z, f.dp = z := ⟨_, rfl⟩
 obtain ⟨nn, hnn⟩ : ∃ z, f.nd = z := ⟨_, rfl⟩
 have VN := aa (fun (W1 : World) (lb gb : Nat) (h0 : Hid (Below w.heap.size w W1)) (hlb : Hid (w.heap.size ≤ lb)) HG (u : World) h1 h2 => tF P Q G w W1 lb gb h0 hlb HG dd f 1 30 u (by omega) (by omega) (by omega) h1 hF hs ha h2 (by omega) (by omega))
 clear hdd hnn
 obtain ⟨kind, Y, yn, yc, ys, B, bn, bc, rows, L, ln, lc, l⟩ := f
 obtain ⟨w0, HW, av, kC⟩ := st2 (fO kind Y yn yc B bn bc L ln lc) KN (.cells #[.func (.func 106) #[] #[]] 84) Nv w
 have hsz : w.heap.size + 2 ≤ w0.heap.size := by rw [← HW.out]; simp
 go_in
 go_upto_region 1 with (fail)
 rw [show (w.alloc (fO kind Y yn yc B bn bc L ln lc)).alloc (.cells #[.func (.func 106) #[] #[]] 84) = w0 from HW.out]
 go_upto_region 2 with (fail)
 obtain ⟨w1, hw1, HB1, -, -, kL⟩ := su (C := fun u b => Own u ⟨b, 0, none⟩ (.int .i64 30)) (.cells #[.int .i64 30] 3) (fun u b h => XZ h) w0
 rw [hw1]
 clear hw1
 obtain ⟨c0, c1, c2, c3, c4⟩ := kC.out _ HB1
 have h0 := aa (gN av HB1)
 have hlb : Hid (w.heap.size ≤ w0.heap.size) := aa (by omega)
 have HG : Hid (∀ (x : FT) (u : World), w1.grownBy u (some w0.heap.size) → dU u x → x.sh → x.at_ P Q G → Calls Tryz.prog 92 #[fV x, .pointer (some ⟨w.heap.size + 1, 0, none⟩)] u (Rt u (.bool true))) := aa (fun x u hg KM hsx hax =>
  EZ P Q G (w.heap.size + 1) x u (aI hg (show w.heap.size + 1 ≠ w0.heap.size by omega) c4) (aa (fun w2 hb2 hk => hR.out x w2 (af (Qa h0.out hlb.out hg) hb2) (dU.below hb2 KM) hax hk)) (aa KM) hsx)
 have fQ := aa (VN.out w1 w0.heap.size (w.heap.size + 1) h0 hlb HG w1 (aa (aC (Below.refl _ _) _)) (kL.out _ (dS w1)))
 clear HG
 have l0 := (kL.out _ (dS w1)).1
 go_wp2_with fail
 refine fQ.out.mono ?_
 rintro e w2 ⟨rfl, hg2, -⟩
 have hb2 := Qa h0.out hlb.out hg2
 clear hg2 c0 c1 c2 c3 c4 l0
 go_wp2
 go_ret
 exact ⟨rfl, hb2⟩
theorem Mr (P Q G : Int) (pb : Nat) (x : FT) (hQ : Q < 9223372036854775808) (u : World) (hv : Hid (Vars u)) (hg : Hid (eO u pb P Q G)) (hF : Hid (dU u x)) (hr : Hid (aP P Q G x.ys x.rows = true)) :
  Calls Tryz.prog 47 #[dm x.Y x.yn x.yc x.B x.bn x.bc, .pointer (some ⟨pb, 0, none⟩)] u (Rt u (.bool true)) := by
 obtain ⟨kind, Y, yn, yc, ys, B, bn, bc, rows, L, ln, lc, l⟩ := x
 obtain ⟨hyn, hbn, -, -⟩ := hF.out.lens
 have hY := hF.out.rel.1
 have hB := hF.out.rel.2
 dsimp only at hyn hbn hr hY hB ⊢
 obtain ⟨w0, HW, av, kC⟩ := st1 (dW Y yn yc B bn bc) TS u
 have aA := dS w0
 have HC := aa (bH P Q G Y ys yn yc B rows bn bc true hr (aa hyn) (aa hbn) hQ w0 (aa (hv.out.below av.out)) (aa (hY.below av.out)) (aa (hB.below av.out)))
 obtain ⟨g0, g1, g2⟩ := hg.out.below av.out
 clear hF hr hY hB hyn hbn
 go_in
 go_upto_region 1 with (fail)
 rw [show u.alloc (dW Y yn yc B bn bc) = w0 from HW.out]
 have zc := kC.out _ aA
 go_wp2_with fail
 refine HC.out.mono ?_
 rintro e w2 ⟨rfl, hb2⟩
 have HB2 := cZ aA hb2
 clear hb2 zc g0 g1 g2
 go_wp2
 go_ret
 exact ⟨rfl, gN av HB2⟩
theorem uN (P Q G : Int) (f : FT) (hQ : Q < 9223372036854775808) (w : World) (hv : Hid (Vars w)) (hF : Hid (dU w f)) (hV : Hid (VF P Q G f)) :
  Calls Tryz.prog 17 #[gv P Q G, fV f] w (Rt w (.bool true)) := by
 have HGV := aa hV.out.g
 have VW := aa (fun (pb : Nat) (u : World) hR hF => Hq P Q G pb f u hR hF hV.out.s hV.out.a hV.out.n hV.out.d)
 obtain ⟨kind, Y, yn, yc, ys, B, bn, bc, rows, L, ln, lc, l⟩ := f
 obtain ⟨w0, HW, av, kC⟩ := st2 (aN P Q G) vw (fO kind Y yn yc B bn bc L ln lc) qQ w
 have kF := sM av hF
 have kV := mkV av hv
 have aA := dS w0
 clear hF hv hV
 go_in
 go_upto_region 1 with (fail)
 rw [show (w.alloc (aN P Q G)).alloc (fO kind Y yn yc B bn bc L ln lc) = w0 from HW.out]
 have zc := kC.out _ aA
 go_wp2_with fail
 refine JM kC aA (bK P Q G true HGV hQ _ (kV.out _ aA)) fun w1 bF zc => ?_
 have fQ := aa (VW.out w.heap.size w1 (aa (fun x w2 hb KM hax hk => Mr P Q G w.heap.size x hQ w2 (kV.out _ (cZ bF hb)) (by
  obtain ⟨g0, g1, g2, -⟩ := kC.out _ (cZ bF hb)
  exact aa ⟨g0, g1, g2⟩) (aa KM) (aa (VF.rel hax hk)))) (kF.out _ bF))
 go_wp2_with fail
 refine fQ.out.mono ?_
 rintro e w2 ⟨rfl, hb2⟩
 have HB2 := cZ bF hb2
 clear hb2 zc
 go_wp2
 go_ret
 exact ⟨rfl, gN av HB2⟩
theorem I5 (p : Int → Bool) (A : Option Addr) (xs : List Int) (n c : Nat) (hn : Hid (xs.length = n)) (hbig : Hid (n < 1000000)) (w : World) (hs : Hid (Sl w A xs)) (hp : Hid (Says 132 #[] p w)) :
  Calls Tryz.prog 105 #[.slice A n c, .func (.func 132) #[] #[]] w (uX p xs w) := by
 have hn0 : n < 1000000 := hbig.out
 go_in
 go_wp2
 go_loopw [8] (fun i wr => ∃ k : Nat, k ≤ n ∧ i = .int .i64 k ∧ Hid (xs.any p = (xs.drop k).any p) ∧ Hid (Below w.heap.size w wr)) (fun i _ => n - (intOf i).toNat)
 case atStart => exact ⟨0, by omega, rfl, aa rfl, aa (Below.refl _ _)⟩
 case round =>
  obtain ⟨k, hk, rfl, HR, aF⟩ := hrel
  by_cases hlt : k < n
  ·
   have hkl : k < xs.length := by rw [hn.out]; exact hlt
   obtain ⟨b, o, hA, hi0⟩ := hs.out k hkl
   subst hA
   have hi := (aF.out.cell (World.block_lt_of_cell? _ _ hi0)).trans hi0
   cases hpx : p (xs.getD k 0) with
   | false =>
    have HN : Hid (xs.any p = (xs.drop (k + 1)).any p) := aa (HR.out.trans (fZ hkl hpx))
    obtain ⟨x, hx⟩ : ∃ x, xs.getD k 0 = x := ⟨_, rfl⟩
    rw [hx] at hi hpx
    have HC := aa (hp.out x wr aF.out)
    have ql := aa hpx
    clear hi0 hx hkl hpx HR
    go_wp2_with fail
    refine HC.out.mono ?_
    rintro e w2 ⟨rfl, hb0⟩
    rw [ql.out]
    have HB2 := aa (af aF.out hb0)
    clear hb0
    go_wp2
    go_roundw
    case rel => exact ⟨k + 1, by omega, by go_num, HN, HB2⟩
    case measure => simp [intOf]; omega
   | true =>
    have HN : Hid (decide ((0 : Int) ≤ (k : Int)) = xs.any p) := aa (by rw [HR.out, gZ hkl hpx]; simp)
    obtain ⟨x, hx⟩ : ∃ x, xs.getD k 0 = x := ⟨_, rfl⟩
    rw [hx] at hi hpx
    have HC := aa (hp.out x wr aF.out)
    have ql := aa hpx
    clear hi0 hx hkl hpx HR
    go_wp2_with fail
    refine HC.out.mono ?_
    rintro e w2 ⟨rfl, hb0⟩
    rw [ql.out]
    have HB2 := aa (af aF.out hb0)
    clear hb0
    go_wp2
    go_ret
    exact ⟨k, rfl, HN.out, HB2.out⟩
  ·
   obtain rfl : k = n := by omega
   have HN : Hid (decide ((0 : Int) ≤ (-1 : Int)) = xs.any p) := aa (by rw [HR.out, ← hn.out]; simp)
   clear HR hlt
   go_wp2
   go_ret
   exact ⟨-1, rfl, HN.out, aF.out⟩
theorem MH (p : Int → Bool) (r : Bool) (A : Option Addr) (xs : List Int) (n c : Nat) (hr : Hid (xs.any p = r)) (hn : Hid (xs.length = n)) (hbig : Hid (n < 1000000)) (w : World) (hs : Hid (Sl w A xs)) (hp : Hid (Says 132 #[] p w)) :
  Calls Tryz.prog 59 #[.slice A n c, .func (.func 132) #[] #[]] w fun e w' => e = .returned (.bool r) ∧ Below w.heap.size w w' := by
 go_in
 go_wp2_with fail
 refine (I5 p A xs n c hn hbig _ hs hp).mono ?_
 rintro e w1 ⟨i, rfl, hi, hb1⟩
 have hd : decide ((0 : Int) ≤ i) = r := hi.trans hr.out
 clear hi
 go_wp2
 go_ret
 exact ⟨by first | rfl | (rw [← hd]) | simp [hd], hb1⟩
theorem I4 (c0 : Value) (p : Int → Bool) (A : Option Addr) (xs : List Int) (n c : Nat) (hn : Hid (xs.length = n)) (hbig : Hid (n < 1000000)) (w : World) (hs : Hid (Sl w A xs)) (hp : Hid (Says 60 #[c0] p w)) :
  Calls Tryz.prog 105 #[.slice A n c, .func (.func 60) #[] #[c0]] w (uX p xs w) := by
 have hn0 : n < 1000000 := hbig.out
 go_in
 go_wp2
 go_loopw [8] (fun i wr => ∃ k : Nat, k ≤ n ∧ i = .int .i64 k ∧ Hid (xs.any p = (xs.drop k).any p) ∧ Hid (Below w.heap.size w wr)) (fun i _ => n - (intOf i).toNat)
 case atStart => exact ⟨0, by omega, rfl, aa rfl, aa (Below.refl _ _)⟩
 case round =>
  obtain ⟨k, hk, rfl, HR, aF⟩ := hrel
  by_cases hlt : k < n
  ·
   have hkl : k < xs.length := by rw [hn.out]; exact hlt
   obtain ⟨b, o, hA, hi0⟩ := hs.out k hkl
   subst hA
   have hi := (aF.out.cell (World.block_lt_of_cell? _ _ hi0)).trans hi0
   cases hpx : p (xs.getD k 0) with
   | false =>
    have HN : Hid (xs.any p = (xs.drop (k + 1)).any p) := aa (HR.out.trans (fZ hkl hpx))
    obtain ⟨x, hx⟩ : ∃ x, xs.getD k 0 = x := ⟨_, rfl⟩
    rw [hx] at hi hpx
    have HC := aa (hp.out x wr aF.out)
    have ql := aa hpx
    clear hi0 hx hkl hpx HR
    go_wp2_with fail
    refine HC.out.mono ?_
    rintro e w2 ⟨rfl, hb0⟩
    rw [ql.out]
    have HB2 := aa (af aF.out hb0)
    clear hb0
    go_wp2
    go_roundw
    case rel => exact ⟨k + 1, by omega, by go_num, HN, HB2⟩
    case measure => simp [intOf]; omega
   | true =>
    have HN : Hid (decide ((0 : Int) ≤ (k : Int)) = xs.any p) := aa (by rw [HR.out, gZ hkl hpx]; simp)
    obtain ⟨x, hx⟩ : ∃ x, xs.getD k 0 = x := ⟨_, rfl⟩
    rw [hx] at hi hpx
    have HC := aa (hp.out x wr aF.out)
    have ql := aa hpx
    clear hi0 hx hkl hpx HR
    go_wp2_with fail
    refine HC.out.mono ?_
    rintro e w2 ⟨rfl, hb0⟩
    rw [ql.out]
    have HB2 := aa (af aF.out hb0)
    clear hb0
    go_wp2
    go_ret
    exact ⟨k, rfl, HN.out, HB2.out⟩
  ·
   obtain rfl : k = n := by omega
   have HN : Hid (decide ((0 : Int) ≤ (-1 : Int)) = xs.any p) := aa (by rw [HR.out, ← hn.out]; simp)
   clear HR hlt
   go_wp2
   go_ret
   exact ⟨-1, rfl, HN.out, aF.out⟩
theorem MG (c0 : Value) (p : Int → Bool) (r : Bool) (A : Option Addr) (xs : List Int) (n c : Nat) (hr : Hid (xs.any p = r)) (hn : Hid (xs.length = n)) (hbig : Hid (n < 1000000)) (w : World) (hs : Hid (Sl w A xs)) (hp : Hid (Says 60 #[c0] p w)) :
  Calls Tryz.prog 59 #[.slice A n c, .func (.func 60) #[] #[c0]] w fun e w' => e = .returned (.bool r) ∧ Below w.heap.size w w' := by
 go_in
 go_wp2_with fail
 refine (I4 c0 p A xs n c hn hbig _ hs hp).mono ?_
 rintro e w1 ⟨i, rfl, hi, hb1⟩
 have hd : decide ((0 : Int) ≤ i) = r := hi.trans hr.out
 clear hi
 go_wp2
 go_ret
 exact ⟨by first | rfl | (rw [← hd]) | simp [hd], hb1⟩
theorem IZ (c0 : Value) (p : Row → Bool) (A : Option Addr) (xs : List Row) (n c : Nat) (hn : Hid (xs.length = n)) (hbig : Hid (n < 1000000)) (w : World) (hs : Hid (Rw w A xs)) (hp : Hid (xz 108 #[c0] p w)) :
  Calls Tryz.prog 126 #[.slice A n c, .func (.func 108) #[] #[c0]] w (Ep p xs w) := by
 have hn0 : n < 1000000 := hbig.out
 go_in
 go_wp2
 go_loopw [8] (fun i wr => ∃ k : Nat, k ≤ n ∧ i = .int .i64 k ∧ Hid (xs.any p = (xs.drop k).any p) ∧ Hid (Below w.heap.size w wr)) (fun i _ => n - (intOf i).toNat)
 case atStart => exact ⟨0, by omega, rfl, aa rfl, aa (Below.refl _ _)⟩
 case round =>
  obtain ⟨k, hk, rfl, HR, aF⟩ := hrel
  by_cases hlt : k < n
  ·
   have hkl : k < xs.length := by rw [hn.out]; exact hlt
   obtain ⟨⟨b, o, hA, hi⟩, hok⟩ := hs.out.below aF.out k hkl
   subst hA
   cases hpx : p (xs.getD k aG) with
   | false =>
    have HN : Hid (xs.any p = (xs.drop (k + 1)).any p) := aa (HR.out.trans (xw hkl hpx))
    obtain ⟨x, hx⟩ : ∃ x, xs.getD k aG = x := ⟨_, rfl⟩
    rw [hx] at hi hpx hok
    have HC := aa (hp.out x wr aF.out hok)
    have ql := aa hpx
    obtain ⟨xp, xn, xc, xl⟩ := x
    dsimp only [Row.val] at hi
    clear hx hkl hpx HR hok
    go_wp2_with fail
    refine HC.out.mono ?_
    rintro e w2 ⟨rfl, hb0⟩
    rw [ql.out]
    have HB2 := aa (af aF.out hb0)
    clear hb0
    go_wp2
    go_roundw
    case rel => exact ⟨k + 1, by omega, by go_num, HN, HB2⟩
    case measure => simp [intOf]; omega
   | true =>
    have HN : Hid (decide ((0 : Int) ≤ (k : Int)) = xs.any p) := aa (by rw [HR.out, Bc hkl hpx]; simp)
    obtain ⟨x, hx⟩ : ∃ x, xs.getD k aG = x := ⟨_, rfl⟩
    rw [hx] at hi hpx hok
    have HC := aa (hp.out x wr aF.out hok)
    have ql := aa hpx
    obtain ⟨xp, xn, xc, xl⟩ := x
    dsimp only [Row.val] at hi
    clear hx hkl hpx HR hok
    go_wp2_with fail
    refine HC.out.mono ?_
    rintro e w2 ⟨rfl, hb0⟩
    rw [ql.out]
    have HB2 := aa (af aF.out hb0)
    clear hb0
    go_wp2
    go_ret
    exact ⟨k, rfl, HN.out, HB2.out⟩
  ·
   obtain rfl : k = n := by omega
   have HN : Hid (decide ((0 : Int) ≤ (-1 : Int)) = xs.any p) := aa (by rw [HR.out, ← hn.out]; simp)
   clear HR hlt
   go_wp2
   go_ret
   exact ⟨-1, rfl, HN.out, aF.out⟩
theorem ME (c0 : Value) (p : Row → Bool) (r : Bool) (A : Option Addr) (xs : List Row) (n c : Nat) (hr : Hid (xs.any p = r)) (hn : Hid (xs.length = n)) (hbig : Hid (n < 1000000)) (w : World) (hs : Hid (Rw w A xs)) (hp : Hid (xz 108 #[c0] p w)) :
  Calls Tryz.prog 94 #[.slice A n c, .func (.func 108) #[] #[c0]] w (Rt w (.bool r)) := by
 go_in
 go_wp2_with fail
 refine (IZ c0 p A xs n c hn hbig _ hs hp).mono ?_
 rintro e w1 ⟨i, rfl, hi, hb1⟩
 have hd : decide ((0 : Int) ≤ i) = r := hi.trans hr.out
 clear hi
 go_wp2
 go_ret
 exact ⟨by first | rfl | (rw [← hd]) | simp [hd], hb1⟩
def ja (x : Int) : Bool := decide (1 ≤ x) && decide (x < 2305843009213693952)
theorem zW {x : Int} (h : vQ x) : ja x = true := by simp only [ja, Bool.and_eq_true, decide_eq_true_eq]; exact h
theorem Fb (W : World) : Says 132 #[] (fun x => !ja x) W := fun x w1 hb => by
 show Calls Tryz.prog 132 #[.int .i64 x] w1 fun e w' => e = .returned (.bool (!ja x)) ∧ Below w1.heap.size w1 w'
 clear hb
 by_cases h0 : x < 1
 ·
  have e : ja x = false := by simp [ja]; omega
  rw [e]
  have d0 : decide (x < 1) = true := by simp; omega
  clear e
  go_in
  go_wp2
  go_ret
  exact ⟨rfl, Below.refl _ _⟩
 ·
  have d0 : decide (x < 1) = false := by simp; omega
  by_cases h1 : 2305843009213693952 ≤ x
  ·
   have e : ja x = false := by simp [ja]; omega
   rw [e]
   have d1 : decide (2305843009213693952 ≤ x) = true := by simp; omega
   clear e
   go_in
   go_wp2
   go_ret
   exact ⟨rfl, Below.refl _ _⟩
  ·
   have e : ja x = true := by simp [ja]; omega
   rw [e]
   have d1 : decide (2305843009213693952 ≤ x) = false := by simp; omega
   clear e
   go_in
   go_wp2
   go_ret
   exact ⟨rfl, Below.refl _ _⟩
theorem pX (A : Option Addr) (xs : List Int) (n c : Nat) (r : Bool) (hr : Hid (xs.all ja = r)) (hn : Hid (xs.length = n)) (hbig : Hid (n < 1000000)) (w : World) (hs : Hid (Sl w A xs)) :
  Calls Tryz.prog 107 #[.slice A n c] w (Rt w (.bool r)) := by
 have Kk := aa (Fb w)
 have HP : Hid ((xs.any fun x => !ja x) = !r) := aa (by rw [jZ, hr.out])
 go_in
 go_wp2_with fail
 refine (MH (fun x => !ja x) (!r) A xs n c HP hn hbig _ hs Kk).mono ?_
 rintro e w1 ⟨rfl, hb0⟩
 go_wp2
 go_ret
 exact ⟨by simp, hb0⟩
def nQ (n : Nat) (r : Row) : Bool := decide (r.n = n) && r.xs.all ja
theorem Hz (a n : Nat) (UW : n ≤ 12) (W : World) (hx : Hid (W.cell? ⟨a, 0, none⟩ = some (.int .i64 n))) : xz 108 #[.pointer (some ⟨a, 0, none⟩)] (fun r => !nQ n r) W := fun r w1 hb hok => by
 show Calls Tryz.prog 108 #[r.val, .pointer (some ⟨a, 0, none⟩)] w1 fun e w' => e = .returned (.bool (!nQ n r)) ∧ Below w1.heap.size w1 w'
 have c0 := cell_below hx.out hb
 obtain ⟨p, rn, c, xs⟩ := r
 obtain ⟨h1, h2⟩ := hok
 dsimp only at h1 h2
 by_cases hne : rn = n
 ·
  subst hne
  obtain ⟨q, hq⟩ : ∃ z, xs.all ja = z := ⟨_, rfl⟩
  have e : nQ rn ⟨p, rn, c, xs⟩ = q := by simp [nQ, hq]
  rw [e]
  have HC := aa (pX p xs rn c q (aa hq) (aa h1) (aa (by omega)) w1 (aa h2))
  have d0 : ((rn : Int) != (rn : Int)) = false := by simp
  clear hb e hq h1 h2
  go_in
  go_wp2_with fail
  refine HC.out.mono ?_
  rintro e w2 ⟨rfl, hb2⟩
  go_wp2
  go_ret
  exact ⟨rfl, hb2⟩
 ·
  have e : nQ n ⟨p, rn, c, xs⟩ = false := by simp [nQ, hne]
  rw [e]
  have d0 : ((rn : Int) != (n : Int)) = true := by simp; omega
  clear hb e h1 h2
  go_in
  go_wp2
  go_ret
  exact ⟨rfl, Below.refl _ _⟩
theorem Ms (x : FT) (u : World) (hF : Hid (dU u x)) (hE : Hid (GM x.ys x.rows)) :
  Calls Tryz.prog 106 #[dm x.Y x.yn x.yc x.B x.bn x.bc] u (Rt u (.bool true)) := by
 obtain ⟨kind, Y, yn, yc, ys, B, bn, bc, rows, L, ln, lc, l⟩ := x
 obtain ⟨hyn, hbn, -, -⟩ := hF.out.lens
 have hY := aa hF.out.rel.1
 have hB := aa hF.out.rel.2
 dsimp only at hyn hbn hE hY hB ⊢
 obtain ⟨⟨e1, e2, e3, e4, e5⟩, e6⟩ := hE.out
 have UQ : Hid (ys.all ja = true) := aa (by
  rw [List.all_eq_true]
  intro x hx
  obtain ⟨i, hi, rfl⟩ := List.mem_iff_getElem.1 hx
  have h := (e6 i hi).1
  rw [List.getD_eq_getElem?_getD, List.getElem?_eq_getElem hi] at h
  exact zW h)
 obtain ⟨nr, hnr⟩ : ∃ z, aU rows = z := ⟨_, rfl⟩
 have hrow : Hid (rows.any (fun r => !nQ nr r) = false) := aa (by
  rw [List.any_eq_false]
  intro r hr
  obtain ⟨i, hi, rfl⟩ := List.mem_iff_getElem.1 hr
  have h := (e6 i (by omega)).2
  have hg : rows.getD i aG = rows[i] := by rw [List.getD_eq_getElem?_getD, List.getElem?_eq_getElem hi]; rfl
  rw [hg, hnr] at h
  have hl := (hB.out i hi).2.1
  rw [hg] at hl
  have : nQ nr rows[i] = true := by
   simp only [nQ, Bool.and_eq_true, decide_eq_true_eq]
   refine ⟨h.1, ?_⟩
   rw [List.all_eq_true]
   intro y hy
   obtain ⟨j, hj, rfl⟩ := List.mem_iff_getElem.1 hy
   have h2 := h.2 j (by omega)
   rw [List.getD_eq_getElem?_getD, List.getElem?_eq_getElem hj] at h2
   exact zW h2
  simp [this])
 rw [hnr] at e4 e5
 obtain ⟨w0, HW, av, kC⟩ := st1 (dW Y yn yc B bn bc) TS u
 have kY := mkS av hY
 have kB := vH (fun u => Rw u B rows) av hB (·.below)
 have aA := dS w0
 have Rq := aa hbn
 have UJ := aa hyn
 obtain rfl : bn = yn := by omega
 have M5 := aa hnr
 clear hF hE hY hB e6 hnr hbn
 have d1 : decide ((bn : Int) < 1) = false := by simp; omega
 have d2 : decide ((8 : Int) < (bn : Int)) = false := by simp; omega
 have d3 : ((bn : Int) != (bn : Int)) = false := by simp
 have d4 : decide ((1 : Int) ≤ (nr : Int)) = true := by simp; omega
 have d5 : decide ((nr : Int) ≤ 12) = true := by simp; omega
 have TH : bn ≤ 8 := by omega
 have hb1 : 1 ≤ bn := by omega
 clear hyn e3 e1 e2
 go_in
 go_upto_region 1 with (fail)
 rw [show u.alloc (dW Y bn yc B bn bc) = w0 from HW.out]
 have zc := kC.out _ aA
 go_wp2_with fail
 refine JM kC aA (pX Y ys bn yc true UQ UJ (aa (by omega)) _ (kY.out _ aA)) fun w1 bF zc => ?_
 obtain ⟨⟨b, o, Qg, m0⟩, -, -⟩ := (kB.out _ bF).out 0 (by have := Rq.out; omega)
 rw [show (rows.getD 0 aG).val = .slice (rows.getD 0 aG).p nr (rows.getD 0 aG).c by rw [← M5.out]; rfl] at m0
 subst Qg
 obtain ⟨WZ, Ai⟩ : ∃ z, (rows.getD 0 aG).p = z := ⟨_, rfl⟩
 obtain ⟨W9, Aj⟩ : ∃ z, (rows.getD 0 aG).c = z := ⟨_, rfl⟩
 rw [Ai, Aj, Nat.add_zero] at m0
 clear Ai Aj
 go_upto_region 4 with (fail)
 obtain ⟨w2, hw2, HB2, -, -, kN⟩ := su (.cells #[.int .i64 nr] 3) Nv w1
 rw [hw2]
 clear hw2 zc m0
 have fD := nK bF HB2
 have zc := kC.out _ fD
 have zn := kN.out _ (dS w2)
 have Kk := aa (Hz w1.heap.size nr e5 w2 (aa zn))
 go_wp2_with fail
 refine (ME _ (fun r => !nQ nr r) false _ rows bn bc hrow Rq (aa (by omega)) _ (kB.out _ fD) Kk).mono ?_
 rintro e w3 ⟨rfl, hb3⟩
 have fC := cZ fD hb3
 clear hb3 zc zn
 go_wp2
 go_ret
 exact ⟨rfl, gN av fC⟩
theorem CO {P Q G : Int} (f : FT) (w : World) (hF : Hid (dU w f)) (hV : Hid (VF P Q G f)) :
  Calls Tryz.prog 65 #[fV f] w (Rt w (.bool true)) := by
 have VW := aa (fun (u : World) hR hF => Hr P Q G f u hR hF hV.out.s hV.out.a hV.out.n hV.out.d)
 obtain ⟨kind, Y, yn, yc, ys, B, bn, bc, rows, L, ln, lc, l⟩ := f
 obtain ⟨w0, HW, av, kC⟩ := st1 (fO kind Y yn yc B bn bc L ln lc) qQ w
 have kF := sM av hF
 have aA := dS w0
 clear hF hV
 have fQ := aa (VW.out w0 (aa (fun x w2 hb KM hax hk => Ms x w2 (aa KM) (aa (JE (VF.rel hax hk) KM.rel.2)))) (kF.out _ aA))
 go_in
 go_upto_region 1 with (fail)
 rw [show w.alloc (fO kind Y yn yc B bn bc L ln lc) = w0 from HW.out]
 have zc := kC.out _ aA
 go_wp2_with fail
 refine fQ.out.mono ?_
 rintro e w2 ⟨rfl, hb2⟩
 have HB2 := cZ aA hb2
 clear hb2 zc
 go_wp2
 go_ret
 exact ⟨rfl, gN av HB2⟩
theorem Fx (P Q G : Int) (Y : Option Addr) (ys : List Int) (n yc : Nat) (B : Option Addr) (rows : List Row) (bc : Nat) (A : Option Addr) (al : List Int) (na ca : Nat) (C : Int) (Z : Option Addr) (zs : List Int) (nz cz : Nat) (cB : Hid (aP P Q G ys rows = true)) (hyn : Hid (ys.length = n)) (hbn : Hid (rows.length = n)) (iV : Hid (al.length = na)) (hzn : Hid (zs.length = nz)) (hQ : Q < 9223372036854775808) (hne : na ≠ n) (w : World) (hv : Hid (Vars w)) (hY : Hid (Sl w Y ys)) (hB : Hid (Rw w B rows)) (hA : Hid (Sl w A al)) (hZ : Hid (Sl w Z zs)) :
  Calls Tryz.prog 50 #[gv P Q G, dm Y n yc B n bc, jR A na ca C Z nz cz] w (Rt w (.bool false)) := by
 obtain ⟨v1, v2, v3, v4, v5, v6, v7, v8⟩ := ak cB.out
 have hnp : 0 < n := by rw [← hyn.out]; omega
 obtain ⟨nu, hnu⟩ : ∃ k, aU rows = k := ⟨_, rfl⟩
 have HN := aa hnu
 clear v1 v2 v3 v4 v5 v6 v7 v8 hnu
 have e1 : ((na : Int) != (n : Int)) = true := by simp; omega
 obtain ⟨w0, HW, av, kC⟩ := xQ (aN P Q G) vw (dW Y n yc B n bc) Gx (gD A na ca C Z nz cz) Bt w
 have kV := mkV av hv
 have kY := mkS av hY
 have kB := vH (fun u => Rw u B rows) av hB (·.below)
 have kA := mkS av hA
 have kZ := mkS av hZ
 have aA := dS w0
 clear hv hY hB hA hZ
 go_in
 go_wp2_with fail
 rw [HW.out]
 have hO := kC
 refine je [] aA (fun hHeld => ?_)
 refine aQ 0 ?_
 refine aQ 1 ?_
 refine dO 2 fun K hK => ?_
 go_simp
 (with_reducible refine (bH P Q G Y ys n yc B rows n bc true cB hyn hbn hQ _ ?_ ?_ ?_).mono ?_); (go_split_ands; exact kV.out _ (by assumption)); (go_split_ands; exact kY.out _ (by assumption)); (go_split_ands; exact kB.out _ (by assumption)); rintro e wA ⟨rfl, bA⟩
 refine hK.out _ _ (cZ hHeld bA) (fun hHeld => ?_)
 clear hK K
 try simp only [qq]
 refine aX 3 4 5 6 ?_
 refine aX 7 8 9 10 ?_
 refine aQ 11 ?_
 refine aQ 12 ?_
 refine aQ 13 ?_
 refine gz 14 15 16 17 ?_
 refine kH 18 ?_
 refine kH 19 ?_
 refine aQ 20 ?_
 refine aQ 21 ?_
 refine gz 22 23 24 25 ?_
 refine kH 26 ?_
 refine kH 27 ?_
 refine aQ 28 ?_
 refine aQ 29 ?_
 refine gz 30 31 32 33 ?_
 refine kH 34 ?_
 refine aQ 35 ?_
 refine jf ?_
 have fH := hHeld
 have dw := af av.out fH.out
 go_wp2
 go_ret
 exact ⟨rfl, dw⟩
theorem Fw (P Q G : Int) (Y : Option Addr) (ys : List Int) (n yc : Nat) (B : Option Addr) (rows : List Row) (bc : Nat) (A : Option Addr) (al : List Int) (na ca : Nat) (C : Int) (Z : Option Addr) (zs : List Int) (nz cz : Nat) (cB : Hid (aP P Q G ys rows = true)) (hyn : Hid (ys.length = n)) (hbn : Hid (rows.length = n)) (iV : Hid (al.length = na)) (hzn : Hid (zs.length = nz)) (hQ : Q < 9223372036854775808) (heq : na = n) (hne : nz ≠ aU rows) (w : World) (hv : Hid (Vars w)) (hY : Hid (Sl w Y ys)) (hB : Hid (Rw w B rows)) (hA : Hid (Sl w A al)) (hZ : Hid (Sl w Z zs)) :
  Calls Tryz.prog 50 #[gv P Q G, dm Y n yc B n bc, jR A na ca C Z nz cz] w (Rt w (.bool false)) := by
 obtain ⟨v1, v2, v3, v4, v5, v6, v7, v8⟩ := ak cB.out
 have hnp : 0 < n := by rw [← hyn.out]; omega
 obtain ⟨nu, hnu⟩ : ∃ k, aU rows = k := ⟨_, rfl⟩
 have HN := aa hnu
 clear v1 v2 v3 v4 v5 v6 v7 v8 hnu
 have e1 : ((na : Int) != (n : Int)) = false := by simp; omega
 have e2 : ((nz : Int) != (nu : Int)) = true := by have := HN.out; simp; omega
 clear heq hne
 obtain ⟨w0, HW, av, kC⟩ := xQ (aN P Q G) vw (dW Y n yc B n bc) Gx (gD A na ca C Z nz cz) Bt w
 have kV := mkV av hv
 have kY := mkS av hY
 have kB := vH (fun u => Rw u B rows) av hB (·.below)
 have kA := mkS av hA
 have kZ := mkS av hZ
 have aA := dS w0
 clear hv hY hB hA hZ
 go_in
 go_wp2_with fail
 rw [HW.out]
 have hO := kC
 refine je [] aA (fun hHeld => ?_)
 refine aQ 0 ?_
 refine aQ 1 ?_
 refine dO 2 fun K hK => ?_
 go_simp
 (with_reducible refine (bH P Q G Y ys n yc B rows n bc true cB hyn hbn hQ _ ?_ ?_ ?_).mono ?_); (go_split_ands; exact kV.out _ (by assumption)); (go_split_ands; exact kY.out _ (by assumption)); (go_split_ands; exact kB.out _ (by assumption)); rintro e wA ⟨rfl, bA⟩
 refine hK.out _ _ (cZ hHeld bA) (fun hHeld => ?_)
 clear hK K
 try simp only [qq]
 refine aX 3 4 5 6 ?_
 refine aX 7 8 9 10 ?_
 refine aX 11 12 13 14 ?_
 refine aQ 15 ?_
 refine aQ 16 ?_
 refine aQ 17 ?_
 refine dO 18 fun K hK => ?_
 go_simp
 (with_reducible refine (bJ Y n yc B rows n bc nu hbn hnp HN _ ?_).mono ?_); (go_split_ands; exact kB.out _ (by assumption)); rintro e wA ⟨rfl, bA⟩
 refine hK.out _ _ (cZ hHeld bA) (fun hHeld => ?_)
 clear hK K
 try simp only [qq]
 refine aQ 19 ?_
 refine aQ 20 ?_
 refine aQ 21 ?_
 refine gz 22 23 24 25 ?_
 refine kH 26 ?_
 refine kH 27 ?_
 refine aQ 28 ?_
 refine aQ 29 ?_
 refine gz 30 31 32 33 ?_
 refine kH 34 ?_
 refine aQ 35 ?_
 refine jf ?_
 have fH := hHeld
 have dw := af av.out fH.out
 go_wp2
 go_ret
 exact ⟨rfl, dw⟩
theorem Aa (P Q G : Int) (Y : Option Addr) (ys : List Int) (n yc : Nat) (B : Option Addr) (rows : List Row) (bc : Nat) (A : Option Addr) (al : List Int) (na ca : Nat) (C : Int) (Z : Option Addr) (zs : List Int) (nz cz : Nat) (cB : Hid (aP P Q G ys rows = true)) (hyn : Hid (ys.length = n)) (hbn : Hid (rows.length = n)) (iV : Hid (al.length = na)) (hzn : Hid (zs.length = nz)) (hQ : Q < 9223372036854775808) (r : Bool) (hr : Hid (bN P Q C ys rows al zs = r)) (w : World) (hv : Hid (Vars w)) (hY : Hid (Sl w Y ys)) (hB : Hid (Rw w B rows)) (hA : Hid (Sl w A al)) (hZ : Hid (Sl w Z zs)) :
  Calls Tryz.prog 50 #[gv P Q G, dm Y n yc B n bc, jR A na ca C Z nz cz] w (Rt w (.bool r)) := by
 obtain ⟨-, -, v3, v4, -, -, v7, -⟩ := ak cB.out
 have e1 := hyn.out
 have e2 := hbn.out
 by_cases h1 : na = n
 ·
  by_cases h2 : nz = aU rows
  · exact Ab P Q G Y ys n yc B rows bc A al na ca C Z zs nz cz cB hyn hbn iV hzn (by omega) (by omega) hQ r hr w hv hY hB hA hZ
  ·
   obtain rfl : r = false := by
    rw [← hr.out]; unfold bN
    rw [show decide (zs.length = aU rows) = false by simp; have := hzn.out; omega]; simp
   exact Fw P Q G Y ys n yc B rows bc A al na ca C Z zs nz cz cB hyn hbn iV hzn hQ h1 h2 w hv hY hB hA hZ
 ·
  obtain rfl : r = false := by
   rw [← hr.out]; unfold bN
   rw [show decide (al.length = rows.length) = false by simp; have := iV.out; omega]; simp
  exact Fx P Q G Y ys n yc B rows bc A al na ca C Z zs nz cz cB hyn hbn iV hzn hQ h1 w hv hY hB hA hZ
mutual
def FT.unk : FT → Nat
 | ⟨kind, _, _, _, _, _, _, _, rows, _, _, _, l⟩ => if kind = 1 then aU rows else j5 l
def j5 : List FT → Nat
 | [] => 0
 | f :: l => max f.unk (j5 l)
end
theorem FT.unk_eq (f : FT) : f.unk = if f.kind = 1 then aU f.rows else j5 f.l := by cases f; rw [FT.unk]
theorem zG : ∀ (a b : List FT), j5 (a ++ b) = max (j5 a) (j5 b)
 | [], b => by simp [j5]
 | x :: a, b => by simp only [List.cons_append, j5, zG a b]; omega
theorem EO {l : List FT} {k : Nat} (h : k < l.length) : j5 (l.take (k + 1)) = max (j5 (l.take k)) (l.getD k aY).unk := by
 rw [nk h, zG]; simp only [j5]; omega
theorem tH : ∀ {l : List FT} {k : Nat}, k < l.length → (l.getD k aY).unk ≤ j5 l
 | f :: l, 0, _ => by rw [j5]; exact Nat.le_max_left _ _
 | f :: l, k + 1, hk => by
  rw [j5, List.getD_cons_succ]
  exact Nat.le_trans (tH (by simpa using hk)) (Nat.le_max_right _ _)
theorem Dx {m : Nat} : ∀ (l : List FT), (∀ k, k < l.length → (l.getD k aY).unk ≤ m) → j5 l ≤ m
 | [], _ => by simp [j5]
 | f :: l, h => by
  rw [j5]
  refine Nat.max_le.2 ⟨h 0 (by simp), Dx l fun k hk => ?_⟩
  have := h (k + 1) (by simpa using hk)
  rwa [List.getD_cons_succ] at this
theorem xN {P Q G : Int} : ∀ (d : Nat) (f : FT), f.dp ≤ d → f.at_ P Q G → f.unk ≤ 12
 | 0, f, h, _ => by have := f.dp_eq; omega
 | d + 1, f, h, ha => by
  rw [f.unk_eq]
  rcases f.at_eq.1 ha with ⟨m1, m2⟩ | ⟨m1, m2⟩
  · rw [if_pos m1]; exact (ak m2).2.2.2.2.2.2.1
  ·
   rw [if_neg m1]
   exact Dx _ fun k hk => xN d _ (FT.kid_dp h hk) (m2 k hk)
theorem mU (P Q G : Int) : ∀ (d : Nat) (f : FT) (w : World), f.dp ≤ d → Hid (dU w f) → f.at_ P Q G → Calls Tryz.prog 25 #[fV f] w (Rt w (.int .i64 f.unk))
 | 0, f, _, h, _, _ => by have := f.dp_eq; omega
 | d + 1, f, w, hd, hF, ha => by
  have HA := f.at_eq.1 ha
  have FL := aa f.unk_eq
  have Mc := xN (d + 1) f hd ha
  obtain ⟨un, hun⟩ : ∃ z, f.unk = z := ⟨_, rfl⟩
  rw [hun] at FL Mc ⊢
  clear hun ha
  obtain ⟨kind, Y, yn, yc, ys, B, bn, bc, rows, L, ln, lc, l⟩ := f
  obtain ⟨hyn, hbn, hln, hlb⟩ := hF.out.lens
  dsimp only at hyn hbn hln hlb HA FL
  obtain ⟨w0, HW, av, kC⟩ := st1 (fO kind Y yn yc B bn bc L ln lc) qQ w
  have kF := sM av hF
  have aA := dS w0
  clear hF
  go_in
  go_upto_region 1 with (fail)
  rw [show w.alloc (fO kind Y yn yc B bn bc L ln lc) = w0 from HW.out]
  obtain ⟨c0, c1, c2, c3⟩ := kC.out _ aA
  rcases HA with ⟨h1, h2⟩ | ⟨h1, h2⟩
  ·
   have d1 : (kind == 1) = true := by simp [h1]
   have he : aU rows = un := by rw [FL.out, if_pos h1]
   obtain ⟨-, v2, -, v4, -⟩ := ak h2
   obtain ⟨⟨b, o, Qg, m0⟩, -, -⟩ := (kF.out _ aA).out.rel.2 0 (by dsimp only; omega)
   dsimp only at Qg m0
   rw [show (rows.getD 0 aG).val = .slice (rows.getD 0 aG).p un (rows.getD 0 aG).c by rw [← he]; rfl] at m0
   subst Qg
   obtain ⟨WZ, Ai⟩ : ∃ z, (rows.getD 0 aG).p = z := ⟨_, rfl⟩
   obtain ⟨W9, Aj⟩ : ∃ z, (rows.getD 0 aG).c = z := ⟨_, rfl⟩
   rw [Ai, Aj, Nat.add_zero] at m0
   have hb1 : 1 ≤ bn := by omega
   clear Ai Aj he FL h2 h1 v2 v4
   go_wp2
   go_ret
   exact ⟨rfl, gN av aA⟩
  have d1 : (kind == 1) = false := by simp [h1]
  have HU : Hid (j5 l = un) := aa (by rw [FL.out, if_neg h1])
  have HK := aa h2
  clear FL h2 h1
  go_wp2_with fail
  clear d1 c0 c1 c2 c3
  go_loopw [3, 18] (fun vn vi wr => ∃ (k v : Nat), k ≤ ln ∧ vi = .int .i64 k ∧ vn = .int .i64 v ∧ v ≤ 12 ∧ Hid (v = j5 (l.take k)) ∧ Hid (Below w0.heap.size w0 wr)) (fun _ vi _ => ln - (intOf vi).toNat)
  case atStart => exact ⟨0, 0, by omega, rfl, rfl, by omega, aa (by simp [j5]), aA⟩
  case round =>
   obtain ⟨k, v, hk, rfl, rfl, v1, HV, aF⟩ := hrel
   by_cases hlt : k < ln
   case neg =>
    obtain rfl : k = ln := by omega
    have hm : v = un := by rw [HV.out, List.take_of_length_le (by omega)]; exact HU.out
    clear HV HU
    subst hm
    go_wp2
    go_ret
    exact ⟨rfl, gN av aF⟩
   have hkl : k < l.length := by omega
   obtain ⟨b, o, hL, i0, i1, i2, i3, gV⟩ := (kF.out _ aF).out.kid (k := k) hlt
   dsimp only at hL i0 i1 i2 i3 gV
   subst hL
   have htk := EO hkl
   have hax := HK.out k hkl
   obtain ⟨x, hx⟩ : ∃ x, l.getD k aY = x := ⟨_, rfl⟩
   have hdp : x.dp ≤ d := by rw [← hx]; exact FT.kid_dp hd hkl
   rw [hx] at i0 i1 i2 i3 gV htk hax
   have HX := aa gV
   have Q3 := xN d x hdp hax
   have fQ := aa (fun w2 h => mU P Q G d x w2 hdp h hax)
   obtain ⟨r, hr⟩ : ∃ r, x.unk = r := ⟨_, rfl⟩
   rw [hr] at fQ htk Q3
   have ko : Hid (max v r = j5 (l.take (k + 1))) := aa (by rw [htk, HV.out])
   have hmx : max (v : Int) (r : Int) = ((max v r : Nat) : Int) := by omega
   have hmd : max v r ≤ 12 := by omega
   obtain ⟨mv, hmv⟩ : ∃ z, max v r = z := ⟨_, rfl⟩
   rw [hmv] at hmx hmd ko
   clear gV hx hkl HV htk hr hmv hax hdp
   obtain ⟨xk, xY, jL, jM, xys, xB, jN, jO, fE, xL, jm, jo, xl⟩ := x
   dsimp only at i0 i1 i2 i3
   go_upto_region 7 with (fail)
   obtain ⟨w3, hw3, HB3, -, -, kz⟩ := su (fO xk xY jL jM xB jN jO xL jm jo) qQ wr
   rw [hw3]
   obtain ⟨z0, z1, z2, z3⟩ := kz.out _ (dS w3)
   clear i0 i1 i2 i3 hw3
   go_wp2_with fail
   refine (fQ.out _ (aa (dU.below HB3.out HX.out))).mono ?_
   rintro e w4 ⟨rfl, hb4⟩
   have gI := cZ (nK aF HB3) hb4
   clear hb4 z0 z1 z2 z3
   go_wp2
   go_roundw
   case rel => exact ⟨k + 1, mv, by omega, by go_num, rfl, hmd, ko, gI⟩
   case measure => simp [intOf]; omega
theorem rq (P Q G x : Int) (r : Bool) (hr : Hid (cu Q x = r)) (w : World) : Calls Tryz.prog 49 #[gv P Q G, .int .i64 x] w (Rt w (.bool r)) := by
 obtain ⟨w0, HW, av, kC⟩ := st1 (aN P Q G) Bt w
 have aA := dS w0
 go_in
 go_upto_region 1 with (fail)
 rw [show w.alloc (aN P Q G) = w0 from HW.out]
 obtain ⟨c0, c1, c2⟩ := kC.out _ aA
 by_cases h0 : 0 ≤ x
 ·
  have d0 : decide ((0 : Int) ≤ x) = true := by simp [h0]
  obtain ⟨t, ht⟩ : ∃ z, decide (x < Q) = z := ⟨_, rfl⟩
  obtain rfl : t = r := by rw [← hr.out, cu, d0, ht]; rfl
  clear hr
  go_wp2
  go_ret
  exact ⟨by first | rfl | rw [ht], gN av aA⟩
 ·
  have d0 : decide ((0 : Int) ≤ x) = false := by simp; omega
  obtain rfl : r = false := by rw [← hr.out, cu, d0]; rfl
  clear hr
  go_wp2
  go_ret
  exact ⟨rfl, gN av aA⟩
theorem Fa (P Q G : Int) (a : Nat) (W : World) (hx : Hid (eO W a P Q G)) :
  Says 60 #[.pointer (some ⟨a, 0, none⟩)] (fun x => !cu Q x) W := fun x w1 hb => by
 show Calls Tryz.prog 60 #[.int .i64 x, .pointer (some ⟨a, 0, none⟩)] w1 fun e w' => e = .returned (.bool (!cu Q x)) ∧ Below w1.heap.size w1 w'
 obtain ⟨c0, c1, c2⟩ := hx.out.below hb
 obtain ⟨r, hr⟩ : ∃ r, cu Q x = r := ⟨_, rfl⟩
 have HR := aa hr
 rw [hr]
 clear hr hb
 go_in
 go_wp2_with fail
 refine (rq P Q G x r HR _).mono ?_
 rintro e w2 ⟨rfl, hb0⟩
 go_wp2
 go_ret
 exact ⟨rfl, hb0⟩
theorem pU (P Q G : Int) (A : Option Addr) (xs : List Int) (n c : Nat) (r : Bool) (hr : Hid (xs.all (cu Q) = r)) (hn : Hid (xs.length = n)) (hbig : Hid (n < 1000000)) (w : World) (hs : Hid (Sl w A xs)) :
  Calls Tryz.prog 26 #[gv P Q G, .slice A n c] w (Rt w (.bool r)) := by
 have HX0 := aa (az w P Q G)
 have sD := aa (hs.out.below (ai w (aN P Q G)))
 have Kk := aa (Fa P Q G w.heap.size _ HX0)
 have HP : Hid ((xs.any fun x => !cu Q x) = !r) := aa (by rw [jZ, hr.out])
 clear hs
 go_in
 go_wp2_with fail
 refine (MG (.pointer (some ⟨w.heap.size, 0, none⟩)) (fun x => !cu Q x) (!r) A xs n c HP hn hbig _ sD Kk).mono ?_
 rintro e w1 ⟨rfl, hb0⟩
 have hb1 := af (ai _ _) hb0
 clear hb0
 go_wp2
 go_ret
 exact ⟨by simp, hb1⟩
def JF (na nz : Nat) (pc : Int) : Bool := decide (na = 0) && (decide (pc = 0) && decide (nz = 0))
abbrev pO (A : Option Addr) (na ca : Nat) (C : Int) (Z : Option Addr) (nz cz : Nat) : Obj := .cells #[.slice A na ca, .int .i64 C, .slice Z nz cz] 36
theorem CP (A : Option Addr) (na ca : Nat) (C : Int) (Z : Option Addr) (nz cz : Nat) (r : Bool) (hr : Hid (JF na nz C = r)) (w : World) : Calls Tryz.prog 51 #[jR A na ca C Z nz cz] w (Rt w (.bool r)) := by
 obtain ⟨w0, HW, av, kC⟩ := st1 (pO A na ca C Z nz cz) Bt w
 have aA := dS w0
 go_in
 go_upto_region 1 with (fail)
 rw [show w.alloc (pO A na ca C Z nz cz) = w0 from HW.out]
 obtain ⟨c0, c1, c2⟩ := kC.out _ aA
 have HR := hr.out
 clear hr
 by_cases h0 : na = 0
 ·
  have d0 : ((na : Int) == 0) = true := by simp [h0]
  by_cases h1 : C = 0
  ·
   have d1 : (C == 0) = true := by simp [h1]
   by_cases h2 : nz = 0
   ·
    have d2 : ((nz : Int) == 0) = true := by simp [h2]
    obtain rfl : r = true := by rw [← HR, JF]; simp [h0, h1, h2]
    clear HR h0 h1 h2
    go_wp2
    go_ret
    exact ⟨rfl, gN av aA⟩
   ·
    have d2 : ((nz : Int) == 0) = false := by simp; omega
    obtain rfl : r = false := by rw [← HR, JF]; simp [h2]
    clear HR h0 h1 h2
    go_wp2
    go_ret
    exact ⟨rfl, gN av aA⟩
  ·
   have d1 : (C == 0) = false := by simp [h1]
   obtain rfl : r = false := by rw [← HR, JF]; simp [h1]
   clear HR h0 h1
   go_wp2
   go_ret
   exact ⟨rfl, gN av aA⟩
 ·
  have d0 : ((na : Int) == 0) = false := by simp; omega
  obtain rfl : r = false := by rw [← HR, JF]; simp [h0]
  clear HR h0
  go_wp2
  go_ret
  exact ⟨rfl, gN av aA⟩
theorem BM (A : Option Addr) (na ca : Nat) (C : Int) (Z : Option Addr) (nz cz : Nat) (r : Bool) (hr : Hid (JF na nz C = r)) (w : World) : Calls Tryz.prog 53 #[jR A na ca C Z nz cz] w (Rt w (.bool r)) := by
 obtain ⟨w0, HW, av, kC⟩ := st1 (pO A na ca C Z nz cz) Bt w
 have aA := dS w0
 go_in
 go_upto_region 1 with (fail)
 rw [show w.alloc (pO A na ca C Z nz cz) = w0 from HW.out]
 obtain ⟨c0, c1, c2⟩ := kC.out _ aA
 have HR := hr.out
 clear hr
 by_cases h0 : na = 0 ∧ C = 0 ∧ nz = 0
 ·
  obtain ⟨h0, h1, h2⟩ := h0
  have d0 : ((na : Int) == 0) = true := by simp [h0]
  have d1 : (C == 0) = true := by simp [h1]
  have d2 : ((nz : Int) == 0) = true := by simp [h2]
  obtain rfl : r = true := by rw [← HR, JF]; simp [h0, h1, h2]
  clear HR h0 h1 h2
  go_wp2
  go_ret
  exact ⟨rfl, gN av aA⟩
 ·
  obtain rfl : r = false := by rw [← HR, JF]; simp; omega
  clear HR
  by_cases e0 : na = 0
  ·
   have d0 : ((na : Int) == 0) = true := by simp [e0]
   by_cases e1 : C = 0
   ·
    have d1 : (C == 0) = true := by simp [e1]
    have d2 : ((nz : Int) == 0) = false := by simp; omega
    clear e0 e1 h0
    go_wp2
    go_ret
    exact ⟨rfl, gN av aA⟩
   ·
    have d1 : (C == 0) = false := by simp [e1]
    clear e0 e1 h0
    go_wp2
    go_ret
    exact ⟨rfl, gN av aA⟩
  ·
   have d0 : ((na : Int) == 0) = false := by simp; omega
   clear e0 h0
   go_wp2
   go_ret
   exact ⟨rfl, gN av aA⟩
theorem ES {l : List TT} {k : Nat} (h : k < l.length) : l.take (k + 1) = l.take k ++ [l.getD k noT] := by
 rw [List.take_add_one, List.getElem?_eq_getElem h, List.getD_eq_getElem?_getD, List.getElem?_eq_getElem h]; rfl
theorem jg {Q : Int} {l : List TT} {k : Nat} (h : k < l.length) : fu Q (l.take (k + 1)) = (fu Q (l.take k) + (l.getD k noT).c) % Q := by
 rw [ES h, fu, fu, List.foldl_append]; rfl
theorem bI.prf {w : World} {t : TT} (h : bI w t) : Sl w t.A t.al ∧ Sl w t.Z t.zs := by
 cases t; rw [bI] at h; exact ⟨h.2.1, h.2.2.1⟩
theorem Ef {na nz : Nat} {pc : Int} {al zs : List Int} (h1 : al.length = na) (h2 : zs.length = nz) : JF na nz pc = true ↔ al = [] ∧ pc = 0 ∧ zs = [] := by
 simp only [JF, Bool.and_eq_true, decide_eq_true_eq]
 constructor
 · rintro ⟨a, b, c⟩; exact ⟨List.eq_nil_of_length_eq_zero (by omega), b, List.eq_nil_of_length_eq_zero (by omega)⟩
 · rintro ⟨a, b, c⟩; subst a c; exact ⟨by simpa using h1.symm, b, by simpa using h2.symm⟩
theorem En {P Q : Int} {f : FT} {t : TT} (h : f.acc P Q t) : 0 ≤ t.c ∧ t.c < Q := ((f.acc_eq t).1 h).1
theorem MP (P Q G : Int) (hQ : Q < 9223372036854775808) (hG : Hid (aJ P Q G = true)) : ∀ (d : Nat) (f : FT) (t : TT) (w : World), f.dp ≤ d → Hid (Vars w) → Hid (dU w f) → Hid (bI w t) → f.sh → f.at_ P Q G →
  Calls Tryz.prog 18 #[gv P Q G, fV f, tV t] w (vR (f.acc P Q t) (f.acc P Q t) w) := by
 intro d
 induction d with
 | zero => intro f _ _ h; have := f.dp_eq; omega
 | succ d ih =>
  intro f t w hd hv hF hT hs ha
  have ih := aa ih
  have HP := aa (f.acc_eq (P := P) (Q := Q) t)
  obtain ⟨p, hp⟩ : ∃ z, f.acc P Q t = z := ⟨_, rfl⟩
  rw [hp] at HP ⊢
  have HS := aa (f.sh_eq.1 hs)
  have HA := aa (f.at_eq.1 ha)
  clear hp hs ha
  obtain ⟨kind, Y, yn, yc, ys, B, bn, bc, rows, L, ln, lc, l⟩ := f
  obtain ⟨tc, A, na, ca, al, pc, Zp, nz, cz, zs, TL, tn, fU, tl⟩ := t
  obtain ⟨hyn, hbn, hln, hlb⟩ := hF.out.lens
  obtain ⟨iV, hzn, htn, htb⟩ := hT.out.lens
  dsimp only at hyn hbn hln hlb iV hzn htn htb HP HS HA
  obtain ⟨p1, p2, p3, p4⟩ := aM hG.out
  obtain ⟨w0, HW, av, kC⟩ := xQ (aN P Q G) vw (fO kind Y yn yc B bn bc L ln lc) KN (tO tc A na ca pc Zp nz cz TL tn fU) Br w
  have kF := sM av hF
  have kT := Gu av hT
  have kV := mkV av hv
  have aA := dS w0
  clear hF hT hv
  go_in
  go_upto_region 1 with (fail)
  rw [show ((w.alloc (aN P Q G)).alloc (fO kind Y yn yc B bn bc L ln lc)).alloc (tO tc A na ca pc Zp nz cz TL tn fU) = w0 from HW.out]
  have zc := kC.out _ aA
  obtain ⟨sb, hsb⟩ : ∃ z, cu Q tc = z := ⟨_, rfl⟩
  go_wp2_with fail
  refine JM kC aA (rq P Q G tc sb (aa hsb) _) fun w1 bF zc => ?_
  cases sb with
  | false =>
   have hn : Hid (¬ p) := aa (fun h => by
    have h1 := (HP.out.1 h).1
    rw [show cu Q tc = true by simp [cu]; omega] at hsb
    cases hsb)
   go_wp2
   go_ret
   exact eD av bF hn.out
  | true =>
  have t0 := lH hsb
  have t1 := qC hsb
  clear hsb
  by_cases hk1 : kind = 1
  ·
   have d1 : (kind == 1) = true := by simp [hk1]
   have kr : aP P Q G ys rows = true := by
    rcases HA.out with ⟨-, h⟩ | ⟨h, -⟩
    · exact h
    · omega
   have hP2 : Hid (p ↔ (0 ≤ tc ∧ tc < Q) ∧ tl = [] ∧ pc = tc ∧ bN P Q pc ys rows al zs = true) := aa (by
    rw [HP.out]
    constructor
    ·
     rintro ⟨a, ⟨-, b⟩ | ⟨b, -⟩⟩
     · exact ⟨a, b⟩
     · omega
    · rintro ⟨a, b⟩; exact ⟨a, .inl ⟨hk1, b⟩⟩)
   clear HP HS HA
   by_cases hl0 : tn = 0
   case neg =>
    have d2 : ((tn : Int) == 0) = false := by simp; omega
    have hn : Hid (¬ p) := aa (fun h => by have h1 := (hP2.out.1 h).2.1; subst h1; simp at htn; omega)
    go_wp2
    go_ret
    exact eD av bF hn.out
   have d2 : ((tn : Int) == 0) = true := by simp [hl0]
   have htl : Hid (tl = []) := aa (List.eq_nil_of_length_eq_zero (by omega))
   by_cases hpc : pc = tc
   case neg =>
    have d3 : (pc == tc) = false := by simp [hpc]
    have hn : Hid (¬ p) := aa (fun h => hpc (hP2.out.1 h).2.2.1)
    go_wp2
    go_ret
    exact eD av bF hn.out
   have d3 : (pc == tc) = true := by simp [hpc]
   have Bg := aa hpc
   have VQ := aa kr
   obtain ⟨-, -, -, v4, -⟩ := ak kr
   have hyb : Hid (rows.length = yn) := aa (by omega)
   obtain rfl : bn = yn := by omega
   clear hpc kr v4 hl0
   obtain ⟨r, hr⟩ : ∃ z, bN P Q pc ys rows al zs = z := ⟨_, rfl⟩
   have Nb := aa (Aa P Q G Y ys bn yc B rows bc A al na ca pc Zp zs nz cz VQ (aa hyn) hyb (aa iV) (aa hzn) hQ r (aa hr) w1 (kV.out _ bF) (aa (kF.out _ bF).out.rel.1) (aa (kF.out _ bF).out.rel.2) (aa (kT.out _ bF).out.prf.1) (aa (kT.out _ bF).out.prf.2))
   have HR := aa hr
   clear hr
   go_wp2_with fail
   refine Nb.out.mono ?_
   rintro e w2 ⟨rfl, hb2⟩
   have fD := cZ bF hb2
   clear hb2 zc d1 d2 d3
   go_wp2
   go_ret
   exact ⟨r, rfl, fun h => by rw [← HR.out]; exact (hP2.out.1 h).2.2.2, fun h => hP2.out.2 ⟨⟨t0, t1⟩, htl.out, Bg.out, by rw [HR.out]; exact h⟩, gN av fD⟩
  have d1 : (kind == 1) = false := by simp [hk1]
  have hP2 : Hid (p ↔ (al = [] ∧ pc = 0 ∧ zs = []) ∧ tl.length = l.length ∧ (∀ k, k < l.length → (l.getD k aY).acc P Q (tl.getD k noT)) ∧ (kind = 2 → ∀ k, k < l.length → (tl.getD k noT).c = tc) ∧ (kind = 2 ∨ fu Q tl = tc)) := aa (by
   rw [HP.out]
   constructor
   ·
    rintro ⟨a, ⟨b, -⟩ | ⟨-, b⟩⟩
    · omega
    · exact b
   · intro b; exact ⟨⟨t0, t1⟩, .inr ⟨hk1, b⟩⟩)
  have Gp : Hid (∀ k, k < l.length → (l.getD k aY).sh ∧ (l.getD k aY).at_ P Q G) := aa (fun k hk => by
   rcases HS.out with ⟨k1, k2⟩ | ⟨k1, k2, k3, k4, k5⟩
   · omega
   ·
    rcases HA.out with ⟨m1, _⟩ | ⟨_, m2⟩
    · omega
    · exact ⟨k5 k hk, m2 k hk⟩)
  clear HP HS HA
  obtain ⟨eb, U6⟩ : ∃ z, JF na nz pc = z := ⟨_, rfl⟩
  have Uo := aa (Ef (pc := pc) iV hzn)
  rw [U6] at Uo
  go_wp2_with fail
  refine JM kC bF (CP A na ca pc Zp nz cz eb (aa U6) _) fun w2 fD zc => ?_
  clear U6
  cases eb with
  | false =>
   have hn : Hid (¬ p) := aa (fun h => by have := Uo.out.2 (hP2.out.1 h).1; cases this)
   go_wp2
   go_ret
   exact eD av fD hn.out
  | true =>
  have hem := aa (Uo.out.1 rfl)
  clear Uo
  by_cases hlen : tn = ln
  case neg =>
   have d2 : ((tn : Int) != (ln : Int)) = true := by simp; omega
   have hn : Hid (¬ p) := aa (fun h => by have := (hP2.out.1 h).2.1; omega)
   go_wp2
   go_ret
   exact eD av fD hn.out
  subst hlen
  have d2 : ((tn : Int) != (tn : Int)) = false := by simp
  go_wp2_with fail
  clear zc d1 d2 hk1
  go_loopw [7, 54] (fun vs vi wr => ∃ (k : Nat) (sm : Int), k ≤ tn ∧ vi = .int .i64 k ∧ vs = .int .i64 sm ∧ 0 ≤ sm ∧ sm < Q ∧ Hid (sm = fu Q (tl.take k)) ∧ Hid (∀ j, j < k → (l.getD j aY).acc P Q (tl.getD j noT)) ∧ Hid (kind = 2 → ∀ j, j < k → (tl.getD j noT).c = tc) ∧ Hid (Below w0.heap.size w0 wr)) (fun _ vi _ => tn - (intOf vi).toNat)
  case atStart => exact ⟨0, 0, by omega, rfl, rfl, by omega, by omega, aa (by simp [fu]), aa (fun j hj => by omega), aa (fun _ j hj => by omega), fD⟩
  case round =>
   obtain ⟨k, sm, hk, rfl, rfl, s0, s1, xG, qx, Qp, aF⟩ := hrel
   have zc := kC.out _ aF
   by_cases hlt : k < tn
   case neg =>
    obtain rfl : k = tn := by omega
    have hsm : Hid (fu Q tl = sm) := aa (by rw [xG.out, List.take_of_length_le (by omega)])
    by_cases hk2 : kind = 2
    ·
     have d3 : (kind == 2) = true := by simp [hk2]
     have hq : Hid p := aa (hP2.out.2 ⟨hem.out, by omega, fun j hj => qx.out j (by omega), fun h j hj => Qp.out h j (by omega), .inl hk2⟩)
     clear xG qx Qp hk2
     go_wp2
     go_ret
     exact sO av aF hq.out
    ·
     have d3 : (kind == 2) = false := by simp [hk2]
     obtain ⟨q, hq⟩ : ∃ z, (sm == tc) = z := ⟨_, rfl⟩
     have HQ := aa hq
     have hfin : Hid (p ↔ sm = tc) := aa ⟨fun h => by
      rcases (hP2.out.1 h).2.2.2.2 with h | h
      · exact absurd h hk2
      · rw [← hsm.out]; exact h, fun h => hP2.out.2 ⟨hem.out, by omega, fun j hj => qx.out j (by omega), fun h j hj => Qp.out h j (by omega), .inr (by rw [hsm.out]; exact h)⟩⟩
     clear xG qx Qp hk2 hsm
     go_wp2
     go_ret
     exact ⟨q, rfl, fun h => by rw [← HQ.out]; simpa using hfin.out.1 h, fun h => hfin.out.2 (by rw [h] at HQ; simpa using HQ.out), gN av aF⟩
   have hkl : k < l.length := by omega
   have hkt : k < tl.length := by omega
   obtain ⟨b, o, hL, i0, i1, i2, i3, gV⟩ := (kF.out _ aF).out.kid (k := k) hlt
   dsimp only at hL i0 i1 i2 i3 gV
   subst hL
   have hst := jg (Q := Q) hkt
   rw [← xG.out] at hst
   obtain ⟨hsx, hax⟩ := Gp.out k hkl
   have Bq : Hid (p → (l.getD k aY).acc P Q (tl.getD k noT) ∧ (kind = 2 → (tl.getD k noT).c = tc)) := aa (fun h => ⟨(hP2.out.1 h).2.2.1 k hkl, fun h2 => (hP2.out.1 h).2.2.2.1 h2 k hkl⟩)
   have hnx : (l.getD k aY).acc P Q (tl.getD k noT) → ∀ j, j < k + 1 → (l.getD j aY).acc P Q (tl.getD j noT) := fun h1 j hj => by
    by_cases e : j = k
    · subst e; exact h1
    · exact qx.out j (by omega)
   have hcx : (kind = 2 → (tl.getD k noT).c = tc) → kind = 2 → ∀ j, j < k + 1 → (tl.getD j noT).c = tc := fun h1 h2 j hj => by
    by_cases e : j = k
    · subst e; exact h1 h2
    · exact Qp.out h2 j (by omega)
   obtain ⟨x, hx⟩ : ∃ x, l.getD k aY = x := ⟨_, rfl⟩
   obtain ⟨y, hy⟩ : ∃ y, tl.getD k noT = y := ⟨_, rfl⟩
   have hdp : x.dp ≤ d := by rw [← hx]; exact FT.kid_dp hd hkl
   have hnx2 : Hid (x.acc P Q y → ∀ j, j < k + 1 → (l.getD j aY).acc P Q (tl.getD j noT)) := aa (by rw [← hx, ← hy]; exact hnx)
   have OC : Hid ((kind = 2 → y.c = tc) → kind = 2 → ∀ j, j < k + 1 → (tl.getD j noT).c = tc) := aa (by rw [← hy]; exact hcx)
   rw [hx] at i0 i1 i2 i3 gV hsx hax
   rw [hx, hy] at Bq
   rw [hy] at hst
   have HX := aa gV
   have fQ := aa (fun u hv hF hT => ih.out x y u hdp hv hF hT hsx hax)
   have TW := aa (fun h => En (P := P) (Q := Q) (f := x) (t := y) h)
   obtain ⟨ap, hap⟩ : ∃ z, x.acc P Q y = z := ⟨_, rfl⟩
   rw [hap] at Bq hnx2 fQ TW
   have HST := aa hst
   have gu : Hid (∀ u : World, Hid (Below w0.heap.size w0 u) → ∃ b o, TL = some ⟨b, o, none⟩ ∧ u.cell? ⟨b, o + k * 5, none⟩ = some (.int .i64 y.c) ∧ u.cell? ⟨b, o + k * 5 + 1, none⟩ = some (.slice y.A y.na y.ca) ∧ u.cell? ⟨b, o + k * 5 + 2, none⟩ = some (.int .i64 y.pc) ∧ u.cell? ⟨b, o + k * 5 + 3, none⟩ = some (.slice y.Z y.nz y.cz) ∧ u.cell? ⟨b, o + k * 5 + 4, none⟩ = some (.slice y.L y.ln y.lc) ∧ bI u y) := aa (fun u hu => by
    have h := (kT.out _ hu).out.kid (k := k) hlt
    dsimp only at h
    rw [hy] at h
    exact h)
   clear gV hx hy hkl hkt hst hsx hax hnx hcx hap hdp qx Qp xG
   obtain ⟨xk, xY, jL, jM, xys, xB, jN, jO, fE, xL, jm, jo, xl⟩ := x
   dsimp only at i0 i1 i2 i3
   clear zc
   go_upto_region 11 with (fail)
   obtain ⟨w3, hw3, HB3, -, -, kz⟩ := su (fO xk xY jL jM xB jN jO xL jm jo) qQ wr
   rw [hw3]
   clear hw3 i0 i1 i2 i3
   have fC := nK aF HB3
   obtain ⟨z0, z1, z2, z3⟩ := kz.out _ (dS w3)
   obtain ⟨g0, g1, g2, c0, c1, c2, c3, e0, e1, e2, e3, e4⟩ := kC.out _ fC
   obtain ⟨bt, ot, hTL, j0, j1, j2, j3, j4, hTy⟩ := gu.out _ fC
   subst hTL
   have sw : Hid (∀ u : World, Hid (Below w3.heap.size w3 u) → Hid (Vars u)) := aa (fun u hu => kV.out _ (nK fC hu))
   have m_ := sM HB3 HX
   have Dh := Gu (dS w3) (aa hTy)
   clear hTy HX kz
   obtain ⟨nI, yA, Ux, UB, UC, Uv, yZ, Uw, UA, Uu, yL, Uy, Uz, yl⟩ := y
   dsimp only at j0 j1 j2 j3 j4 Bq OC HST TW gu
   have JJ : Hid (∀ u : World, Hid (Below w0.heap.size w0 u) → u.cell? ⟨bt, ot + k * 5, none⟩ = some (.int .i64 nI)) := aa (fun u hu => by
    obtain ⟨b', o', e1, e2, -⟩ := gu.out u hu
    injection e1 with e1
    injection e1 with e3 e4
    subst e3 e4
    exact e2)
   clear gu
   by_cases hk2 : kind = 2
   ·
    have d3 : (kind == 2) = true := by simp [hk2]
    have GG := aa hk2
    clear hk2
    obtain ⟨q, hq⟩ : ∃ z, (nI != tc) = z := ⟨_, rfl⟩
    have HQ := aa hq
    have hO := aa (fun (u : World) (hu : Hid (Below w3.heap.size w3 u)) => And.intro (cell_below g0 hu.out) (And.intro (cell_below g1 hu.out) (And.intro (cell_below g2 hu.out) (And.intro (cell_below c0 hu.out) (And.intro (cell_below c1 hu.out) (And.intro (cell_below c2 hu.out) (And.intro (cell_below c3 hu.out) (And.intro (cell_below e0 hu.out) (And.intro (cell_below e1 hu.out) (And.intro (cell_below e2 hu.out) (And.intro (cell_below e3 hu.out) (And.intro (cell_below e4 hu.out) (And.intro (cell_below z0 hu.out) (And.intro (cell_below z1 hu.out) (And.intro (cell_below z2 hu.out) (And.intro (cell_below z3 hu.out) (And.intro (cell_below j0 hu.out) (And.intro (cell_below j1 hu.out) (And.intro (cell_below j2 hu.out) (And.intro (cell_below j3 hu.out) (cell_below j4 hu.out)))))))))))))))))))))
    clear g0 g1 g2 c0 c1 c2 c3 e0 e1 e2 e3 e4 z0 z1 z2 z3 j0 j1 j2 j3 j4
    refine je [] (dS w3) (fun hHeld => ?_)
    refine aX 0 1 2 3 ?_
    refine aQ 4 ?_
    refine aQ 5 ?_
    refine aQ 6 ?_
    refine dO 7 fun K hK => ?_
    go_simp
    refine (fQ.out _ (sw.out _ hHeld) (m_.out _ hHeld) (Dh.out _ hHeld)).mono ?_
    rintro e wA ⟨r, rfl, hr1, hr2, bA⟩
    refine hK.out _ _ (cZ hHeld bA) (fun hHeld => ?_)
    clear hK K
    cases r with
    | false =>
     have hn : Hid (¬ p) := aa (fun h => absurd (hr1 (Bq.out h).1) (by simp))
     clear hr1 hr2
     refine aQ 8 ?_
     refine aQ 9 ?_
     refine gz 10 11 12 13 ?_
     refine gz 14 15 16 17 ?_
     refine gz 18 19 20 21 ?_
     refine kH 22 ?_
     refine kH 23 ?_
     refine aQ 24 ?_
     refine jf ?_
     clear hO
     have gI := nK fC hHeld
     clear hHeld
     clear d3 hq
     go_wp2
     go_ret
     exact eD av gI hn.out
    | true =>
     have hac := aa (hr2 rfl)
     clear hr1 hr2
     refine aX 8 9 10 11 ?_
     refine aX 12 13 14 15 ?_
     refine aX 16 17 18 19 ?_
     refine aX 20 21 22 23 ?_
     refine aQ 24 ?_
     refine jf ?_
     clear hO
     have gI := nK fC hHeld
     clear hHeld
     cases q with
     | true =>
      have hn : Hid (¬ p) := aa (fun h => by have e := (Bq.out h).2 GG.out; have := HQ.out; simp [e] at this)
      clear d3 hq
      go_wp2
      go_ret
      exact eD av gI hn.out
     | false =>
      have KR := aa (OC.out (fun _ => by have := HQ.out; simpa using this))
      clear hq
      have Wh := aa (hnx2.out hac.out)
      have hyb := TW.out hac.out
      obtain ⟨jv, fK⟩ : ∃ z, (sm + nI) % Q = z := ⟨_, rfl⟩
      have n0 : 0 ≤ jv := by rw [← fK]; exact Int.emod_nonneg _ (by omega)
      have n1 : jv < Q := by rw [← fK]; exact Int.emod_lt_of_pos _ (by omega)
      have uY : Hid (jv = fu Q (tl.take (k + 1))) := aa (by rw [HST.out, fK])
      have D5 : (sm + nI).tmod Q = jv := by rw [Int.tmod_eq_emod_of_nonneg (by omega), fK]
      have hsum : IntKind.i64.wrap (sm + nI) = sm + nI := IntWalk.i64_in _ (by omega)
      have hwt : IntKind.i64.wrap jv = jv := IntWalk.i64_in _ (by omega)
      have hQn : ¬ (Q = 0) := by omega
      have KA := aa (fun q => ay gI.out q)
      obtain ⟨g0, g1, g2, c0, c1, c2, c3, e0, e1, e2, e3, e4⟩ := kC.out _ gI
      have j0 := JJ.out _ gI
      clear fK d3
      go_wp2
      go_quiet (fail)
      clear hsum D5
      go_wp2
      go_roundw
      case rel => exact ⟨k + 1, jv, by omega, by go_num, rfl, n0, n1, uY, Wh, KR, aa (KA.out _)⟩
      case measure => simp [intOf]; omega
   ·
    have d3 : (kind == 2) = false := by simp [hk2]
    have hO := aa (fun (u : World) (hu : Hid (Below w3.heap.size w3 u)) => And.intro (cell_below g0 hu.out) (And.intro (cell_below g1 hu.out) (And.intro (cell_below g2 hu.out) (And.intro (cell_below c0 hu.out) (And.intro (cell_below c1 hu.out) (And.intro (cell_below c2 hu.out) (And.intro (cell_below c3 hu.out) (And.intro (cell_below e0 hu.out) (And.intro (cell_below e1 hu.out) (And.intro (cell_below e2 hu.out) (And.intro (cell_below e3 hu.out) (And.intro (cell_below e4 hu.out) (And.intro (cell_below z0 hu.out) (And.intro (cell_below z1 hu.out) (And.intro (cell_below z2 hu.out) (And.intro (cell_below z3 hu.out) (And.intro (cell_below j0 hu.out) (And.intro (cell_below j1 hu.out) (And.intro (cell_below j2 hu.out) (And.intro (cell_below j3 hu.out) (cell_below j4 hu.out)))))))))))))))))))))
    clear g0 g1 g2 c0 c1 c2 c3 e0 e1 e2 e3 e4 z0 z1 z2 z3 j0 j1 j2 j3 j4
    refine je [] (dS w3) (fun hHeld => ?_)
    refine aX 0 1 2 3 ?_
    refine aQ 4 ?_
    refine aQ 5 ?_
    refine aQ 6 ?_
    refine dO 7 fun K hK => ?_
    go_simp
    refine (fQ.out _ (sw.out _ hHeld) (m_.out _ hHeld) (Dh.out _ hHeld)).mono ?_
    rintro e wA ⟨r, rfl, hr1, hr2, bA⟩
    refine hK.out _ _ (cZ hHeld bA) (fun hHeld => ?_)
    clear hK K
    cases r with
    | false =>
     have hn : Hid (¬ p) := aa (fun h => absurd (hr1 (Bq.out h).1) (by simp))
     clear hr1 hr2
     refine aQ 8 ?_
     refine aQ 9 ?_
     refine gz 10 11 12 13 ?_
     refine gz 14 15 16 17 ?_
     refine gz 18 19 20 21 ?_
     refine kH 22 ?_
     refine kH 23 ?_
     refine aQ 24 ?_
     refine jf ?_
     clear hO
     have gI := nK fC hHeld
     clear hHeld
     clear d3
     go_wp2
     go_ret
     exact eD av gI hn.out
    | true =>
     have hac := aa (hr2 rfl)
     clear hr1 hr2
     refine aX 8 9 10 11 ?_
     refine aQ 12 ?_
     refine aQ 13 ?_
     refine gz 14 15 16 17 ?_
     refine gz 18 19 20 21 ?_
     refine kH 22 ?_
     refine aQ 23 ?_
     refine aQ 24 ?_
     refine jf ?_
     clear hO
     have gI := nK fC hHeld
     clear hHeld
     have KR := aa (OC.out (fun h => absurd h hk2))
     have Wh := aa (hnx2.out hac.out)
     have hyb := TW.out hac.out
     obtain ⟨jv, fK⟩ : ∃ z, (sm + nI) % Q = z := ⟨_, rfl⟩
     have n0 : 0 ≤ jv := by rw [← fK]; exact Int.emod_nonneg _ (by omega)
     have n1 : jv < Q := by rw [← fK]; exact Int.emod_lt_of_pos _ (by omega)
     have uY : Hid (jv = fu Q (tl.take (k + 1))) := aa (by rw [HST.out, fK])
     have D5 : (sm + nI).tmod Q = jv := by rw [Int.tmod_eq_emod_of_nonneg (by omega), fK]
     have hsum : IntKind.i64.wrap (sm + nI) = sm + nI := IntWalk.i64_in _ (by omega)
     have hwt : IntKind.i64.wrap jv = jv := IntWalk.i64_in _ (by omega)
     have hQn : ¬ (Q = 0) := by omega
     have KA := aa (fun q => ay gI.out q)
     obtain ⟨g0, g1, g2, c0, c1, c2, c3, e0, e1, e2, e3, e4⟩ := kC.out _ gI
     have j0 := JJ.out _ gI
     clear fK d3
     go_wp2
     go_quiet (fail)
     clear hsum D5
     go_wp2
     go_roundw
     case rel => exact ⟨k + 1, jv, by omega, by go_num, rfl, n0, n1, uY, Wh, KR, aa (KA.out _)⟩
     case measure => simp [intOf]; omega
theorem lM {w : World} {p : Addr} {v : Value} {a : Nat} {cs : Array Value} (h : Own w p v) (hne : p.block ≠ a) : Own (w.setRow a cs) p v := by
 have hb := setRow_other w a p.block cs hne
 exact ⟨(World.cell?_of_block hb).trans h.1, by
  have h2 := h.2
  simp only [World.frozen?] at h2 ⊢
  rw [hb]
  exact h2⟩
def Ca (l : List Int) : Prop := l.length ≤ 1000 ∧ ∀ x ∈ l, -9223372036854775808 ≤ x ∧ x < 9223372036854775808
theorem Ca.fits {l : List Int} (h : Ca l) : Hid (fits 7 (.lst (l.map .int))) := aa (by
 refine ⟨by rw [List.length_map]; exact h.1, fun x hx => ?_⟩
 obtain ⟨y, hy, rfl⟩ := List.mem_map.1 hx
 exact h.2 y hy)
theorem FZ (l : List Int) : (iw (l.map .int)).length = 9 * l.length := by
 induction l with
 | nil => rfl
 | cons x l ih => rw [List.map_cons, iw, List.length_append, ih, sP, List.length_cons, iJ, List.length_cons]; omega
theorem Ca.len {l : List Int} (h : Ca l) : Hid ((enc (.lst (l.map .int))).length ≤ 14000) := aa (by
 rw [lT, List.length_cons, List.length_append, jY, FZ]
 have := h.1
 omega)
def yY (h s l : List Int) : List Int := Bd h s (.lst (l.map .int))
theorem J8 (h s l : List Int) : (yY h s l).length = 32 := qf _ _ _
theorem Df (h s l : List Int) : aH (yY h s l) = true := jh _
def nA : ByteArray := { data := #[103, 114, 111, 117, 112] }
def kK : ByteArray := { data := #[99, 111, 109, 109, 105, 116] }
def Ac : ByteArray := { data := #[99, 104, 97, 108, 108, 101, 110, 103, 101] }
theorem IW : Hid (jB (bP nA) = true) := aa (by kernel_rfl)
theorem FJ : Hid (jB (bP kK) = true) := aa (by kernel_rfl)
theorem QK : Hid (jB (bP Ac) = true) := aa (by kernel_rfl)
def y9 (h : List Int) : Prop := h.length = 32 ∧ aH h = true
theorem He (h s l : List Int) : y9 (yY h s l) := ⟨J8 _ _ _, Df _ _ _⟩
theorem G_ (l : List Int) : y9 (newL l) := ⟨gB _ _, jh _⟩
def Gz (W : World) (a : Nat) (h : List Int) (c : Int) (x : Int) (u : World) : Prop := eT u a h c ∧ Own u ⟨a + 1, 0, none⟩ (.int .i64 x) ∧ Below W.heap.size W u
theorem Gz.alloc {W : World} {a : Nat} {h : List Int} {c x : Int} {u : World} (hI : Gz W a h c x u) (o : Obj) : Gz W a h c x (u.alloc o) :=
 ⟨hI.1.below (ai _ _), hI.2.1.below (ai _ _), af hI.2.2 (ai _ _)⟩
theorem Gz.below {W : World} {a : Nat} {h : List Int} {c x : Int} {u u' : World} (hI : Gz W a h c x u) (hb : Below u.heap.size u u') : Gz W a h c x u' :=
 ⟨hI.1.below hb, hI.2.1.below hb, af hI.2.2 hb⟩
theorem MI (w : World) (T : TypeId) (a b c : Int) : Cells (w.alloc (.cells #[.int .i64 a, .int .i64 b, .int .i64 c] T)) w.heap.size [a, b, c] := by
 intro k hk
 rw [World.cell?_alloc_at _ _ _ _ rfl]
 match k, hk with
 | 0, _ => rfl
 | 1, _ => rfl
 | 2, _ => rfl
theorem EP {w1 : World} {S0 : List Int} {c x : Int} (hl : S0.length = 32) :
  Gz w1 w1.heap.size S0 c x ((((w1.alloc (.cells #[.int .u8 0, .int .u8 0, .int .u8 0, .int .u8 0, .int .u8 0, .int .u8 0, .int .u8 0, .int .u8 0, .int .u8 0, .int .u8 0, .int .u8 0, .int .u8 0, .int .u8 0, .int .u8 0, .int .u8 0, .int .u8 0, .int .u8 0, .int .u8 0, .int .u8 0, .int .u8 0, .int .u8 0, .int .u8 0, .int .u8 0, .int .u8 0, .int .u8 0, .int .u8 0, .int .u8 0, .int .u8 0, .int .u8 0, .int .u8 0, .int .u8 0, .int .u8 0, .int .i64 0] 58)).alloc (.cells #[.int .i64 0] 45)).setRow w1.heap.size (aT S0 c)).setCell ⟨w1.heap.size + 1, 0, none⟩ (.int .i64 x)) := by
 have hT : eT ((w1.alloc (.cells #[.int .u8 0, .int .u8 0, .int .u8 0, .int .u8 0, .int .u8 0, .int .u8 0, .int .u8 0, .int .u8 0, .int .u8 0, .int .u8 0, .int .u8 0, .int .u8 0, .int .u8 0, .int .u8 0, .int .u8 0, .int .u8 0, .int .u8 0, .int .u8 0, .int .u8 0, .int .u8 0, .int .u8 0, .int .u8 0, .int .u8 0, .int .u8 0, .int .u8 0, .int .u8 0, .int .u8 0, .int .u8 0, .int .u8 0, .int .u8 0, .int .u8 0, .int .u8 0, .int .i64 0] 58)).alloc (.cells #[.int .i64 0] 45)) w1.heap.size (aZ 32) 0 := by rw [Du]; exact heap_alloc2_old _ _ _
 have hE : Own ((w1.alloc (.cells #[.int .u8 0, .int .u8 0, .int .u8 0, .int .u8 0, .int .u8 0, .int .u8 0, .int .u8 0, .int .u8 0, .int .u8 0, .int .u8 0, .int .u8 0, .int .u8 0, .int .u8 0, .int .u8 0, .int .u8 0, .int .u8 0, .int .u8 0, .int .u8 0, .int .u8 0, .int .u8 0, .int .u8 0, .int .u8 0, .int .u8 0, .int .u8 0, .int .u8 0, .int .u8 0, .int .u8 0, .int .u8 0, .int .u8 0, .int .u8 0, .int .u8 0, .int .u8 0, .int .i64 0] 58)).alloc (.cells #[.int .i64 0] 45)) ⟨w1.heap.size + 1, 0, none⟩ (.int .i64 0) := ⟨aj (heap_alloc2_new _ _ _) 0, aS (heap_alloc2_new _ _ _) 0⟩
 have hb : Below w1.heap.size w1 ((w1.alloc (.cells #[.int .u8 0, .int .u8 0, .int .u8 0, .int .u8 0, .int .u8 0, .int .u8 0, .int .u8 0, .int .u8 0, .int .u8 0, .int .u8 0, .int .u8 0, .int .u8 0, .int .u8 0, .int .u8 0, .int .u8 0, .int .u8 0, .int .u8 0, .int .u8 0, .int .u8 0, .int .u8 0, .int .u8 0, .int .u8 0, .int .u8 0, .int .u8 0, .int .u8 0, .int .u8 0, .int .u8 0, .int .u8 0, .int .u8 0, .int .u8 0, .int .u8 0, .int .u8 0, .int .i64 0] 58)).alloc (.cells #[.int .i64 0] 45)) := aB (Below.refl _ _)
 refine ⟨(heap_setCell_other _ _ _ _ (show w1.heap.size ≠ w1.heap.size + 1 by omega)).trans hT.setRow, jT (lM hE (show w1.heap.size + 1 ≠ w1.heap.size by omega)), (aD hb (Nat.le_refl _)).setCell (Nat.le_succ _) _⟩
def JO (P Q G C : Int) (ys : List Int) (rows : List Row) (al zs : List Int) : Bool := aP P Q G ys rows && bN P Q C ys rows al zs
theorem vY {P Q G : Int} (h : aJ P Q G = true) : Ca [P, Q, G] := by
 obtain ⟨h1, h2, h3, h4⟩ := aM h
 have h5 : 2 ≤ G ∧ G < P := by simp [aJ] at h; exact ⟨h.2.2.2.2.2.2.1, h.2.2.2.2.2.2.2.1⟩
 refine ⟨by simp, fun x hx => ?_⟩
 simp at hx
 rcases hx with rfl | rfl | rfl <;> omega
theorem Hg {P Q C : Int} {ys : List Int} {rows : List Row} {zs : List Int} (XH : 2 ≤ P) (hP : P < 2305843009213693952) (hl : rows.length ≤ 1000) : Ca (iX P Q C ys rows zs) :=
 ⟨by rw [bC]; exact hl, fun x hx => by
  obtain ⟨i, _, rfl⟩ := List.mem_map.1 hx
  unfold l6
  have h1 := Int.emod_nonneg (aO P 1 (rows.getD i aG).xs zs * pw (ys.getD i 0) ((Q - C) % Q) P) (show P ≠ 0 by omega)
  have h2 := Int.emod_lt_of_pos (aO P 1 (rows.getD i aG).xs zs * pw (ys.getD i 0) ((Q - C) % Q) P) (show 0 < P by omega)
  omega⟩
theorem IB (x y P : Int) : (x % P) * y % P = x * y % P := by rw [Int.mul_emod, Int.emod_emod, ← Int.mul_emod]
theorem IA (x y P : Int) : x * (y % P) % P = x * y % P := by rw [Int.mul_emod, Int.emod_emod, ← Int.mul_emod]
theorem Ij {Q c : Int} {ks xs : List Int} {n k : Nat} (h : k < n) : (lI Q c ks xs n).getD k 0 = (ks.getD k 0 + c * xs.getD k 0 % Q) % Q := by
 rw [List.getD_eq_getElem?_getD, List.getElem?_eq_getElem (by rw [jS]; exact h)]
 simp [lI]
theorem EC {P Q n m k x a b : Int} (hP : 2 ≤ P) (hQ : 1 ≤ Q) (hn : 0 ≤ n) (hk : 0 ≤ k) (hx : 0 ≤ x) (hm : a_ P Q m = true) :
  (a * pw b n P % P) * pw m ((k + n * x % Q) % Q) P % P = (a * pw m k P % P) * pw (b * pw m x P % P) n P % P := by
 have Xm : pw m Q P = 1 := pF hm
 have hnx : 0 ≤ n * x := Int.mul_nonneg hn hx
 have hr : 0 ≤ n * x % Q := Int.emod_nonneg _ (by omega)
 rw [← BQ hP hQ (by omega) Xm, BR _ _ _ _ hk hr, ← BQ hP hQ hnx Xm, DN, DL _ _ _ _ hx hn, Int.mul_comm x n]
 rw [IB, IB, IA, IA]
 congr 1
 ac_rfl
theorem ED {P Q n : Int} {row ks xs : List Int} {m : Nat} (hP : 2 ≤ P) (hQ : 1 ≤ Q) (hn : 0 ≤ n) (hl : row.length = m) (lk : ks.length = m) (lx : xs.length = m)
  (hm : row.all (a_ P Q) = true) (hk : ks.all (cu Q) = true) (hx : xs.all (cu Q) = true) :
  ∀ (d k : Nat) (a b : Int), m - k = d → k ≤ m → aO P (a * pw b n P % P) (row.drop k) ((lI Q n ks xs m).drop k) = aO P a (row.drop k) (ks.drop k) * pw (aO P b (row.drop k) (xs.drop k)) n P % P := by
 intro d
 induction d with
 | zero =>
  intro k a b hd hkm
  have e : row.drop k = [] := List.drop_eq_nil_of_le (by omega)
  rw [e, aO, aO, aO] <;> simp
 | succ d ih =>
  intro k a b hd hkm
  have h1 : k < row.length := by omega
  rw [jA h1 (by rw [jS]; omega), jA (acc := a) h1 (by omega), jA (acc := b) h1 (by omega), Ij (by omega),
   EC hP hQ hn (lH (eH hk (by omega))) (lH (eH hx (by omega))) (eH hm h1)]
  exact ih (k + 1) _ _ (by omega) (by omega)
theorem DK {P Q y n : Int} (hP : 2 ≤ P) (hQ : 1 ≤ Q) (hn0 : 0 ≤ n) (hn1 : n < Q) (hy : a_ P Q y = true) : pw y n P * pw y ((Q - n) % Q) P % P = 1 := by
 have Xd : pw y Q P = 1 := pF hy
 rw [← BQ hP hQ (by omega) Xd, ← BR _ _ _ _ hn0 (by omega)]
 have e : n + (Q - n) = Q := by omega
 rw [e, Xd]
theorem GN {P Q G n : Int} {ys : List Int} {rows : List Row} {ks xs : List Int} {m : Nat} (hv : aP P Q G ys rows = true) (hrm : aU rows = m) (hn0 : 0 ≤ n) (hn1 : n < Q) (lk : ks.length = m) (lx : xs.length = m)
  (hk : ks.all (cu Q) = true) (hx : xs.all (cu Q) = true) (hh : ((rows.map fun r => aO P 1 r.xs xs) == ys) = true) (hok : ∀ i, i < rows.length → (rows.getD i aG).xs.length = (rows.getD i aG).n) :
  iX P Q n ys rows (lI Q n ks xs m) = rows.map fun r => aO P 1 r.xs ks := by
 obtain ⟨v1, v2, v3, v4, v5, v6, v7, v8⟩ := ak hv
 obtain ⟨hp2, hp, hq3, wK⟩ := aM v1
 have hys : (rows.map fun r => aO P 1 r.xs xs) = ys := by simpa using hh
 apply List.ext_getElem (by rw [bC, List.length_map])
 intro i h1 h2
 rw [bC] at h1
 have e1 := mF (P := P) (Q := Q) (c := n) (ys := ys) (rows := rows) (zs := lI Q n ks xs m) h1
 rw [List.getD_eq_getElem?_getD, List.getElem?_eq_getElem (by rw [bC]; exact h1)] at e1
 have e2 := pG (f := fun r => aO P 1 r.xs ks) h1
 rw [List.getD_eq_getElem?_getD, List.getElem?_eq_getElem h2] at e2
 simp only [Option.getD_some] at e1 e2
 rw [e1, e2]
 have hy := pG (f := fun r => aO P 1 r.xs xs) h1
 rw [hys] at hy
 have hrb := lJ v8 h1
 have hlen := hok i h1
 simp only [jd, Bool.and_eq_true, decide_eq_true_eq] at hrb
 have uH := eH v5 (show i < ys.length by omega)
 unfold l6
 rw [hy] at uH ⊢
 have hz := ED (row := (rows.getD i aG).xs) (n := n) hp2 (by omega) hn0 (by omega) lk lx hrb.2 hk hx m 0 1 1 (by omega) (by omega)
 rw [List.drop_zero, List.drop_zero, List.drop_zero, List.drop_zero, xV _ _ hp2] at hz
 have e3 : (1 * 1 % P : Int) = 1 := Int.emod_eq_of_lt (by omega) (by omega)
 rw [e3] at hz
 rw [hz, IB, Int.mul_assoc, ← IA, DK hp2 (by omega) hn0 hn1 uH, Int.mul_one]
 obtain ⟨q0, q1⟩ := mG hp2 (rows.getD i aG).xs ks 1 (by omega) (by omega)
 exact Int.emod_eq_of_lt q0 q1
theorem QB (P Q G : Int) (Y : Option Addr) (ys : List Int) (yn yc : Nat) (B : Option Addr) (rows : List Row) (bn bc : Nat) (A : Option Addr) (al : List Int) (na ca : Nat) (C : Int) (Z : Option Addr) (zs : List Int) (nz cz : Nat) (hyn : Hid (ys.length = yn)) (hbn : Hid (rows.length = bn)) (iV : Hid (al.length = na)) (hzn : Hid (zs.length = nz)) (hna : na < 1000000) (hnz : nz < 1000000) (hQ : Q < 9223372036854775808) (cB : Hid (aP P Q G ys rows = false)) (w : World) (hY : Hid (Sl w Y ys)) (hB : Hid (Rw w B rows)) (hA : Hid (Sl w A al)) (hZ : Hid (Sl w Z zs)) :
  Calls Tryz.prog 52 #[gv P Q G, dm Y yn yc B bn bc, jR A na ca C Z nz cz] w (Rt w (.bool false)) := by
 obtain ⟨w0, HW, av, kC⟩ := xQ (aN P Q G) vw (dW Y yn yc B bn bc) Gx (gD A na ca C Z nz cz) Bt w
 have kY := mkS av hY
 have kB := vH (fun u => Rw u B rows) av hB (·.below)
 have kA := mkS av hA
 have kZ := mkS av hZ
 have aA := dS w0
 clear hY hB hA hZ
 go_in
 go_wp2_with fail
 rw [HW.out]
 have hO := kC
 refine je [] aA (fun hHeld => ?_)
 refine aQ 0 ?_
 refine aQ 1 ?_
 refine dO 2 fun K hK => ?_
 go_simp
 (with_reducible refine (fo P Q G Y ys yn yc B rows bn bc false cB hyn hbn hQ _ ?_ ?_).mono ?_); (go_split_ands; exact kY.out _ (by assumption)); (go_split_ands; exact kB.out _ (by assumption)); rintro e wA ⟨rfl, bA⟩
 refine hK.out _ _ (cZ hHeld bA) (fun hHeld => ?_)
 clear hK K
 try simp only [qq]
 refine aQ 3 ?_
 refine aQ 4 ?_
 refine gz 5 6 7 8 ?_
 refine kH 9 ?_
 refine kH 10 ?_
 refine kH 11 ?_
 refine aQ 12 ?_
 refine aQ 13 ?_
 refine gz 14 15 16 17 ?_
 refine kH 18 ?_
 refine kH 19 ?_
 refine aQ 20 ?_
 refine aQ 21 ?_
 refine gz 22 23 24 25 ?_
 refine kH 26 ?_
 refine aQ 27 ?_
 refine aQ 28 ?_
 refine gz 29 30 31 32 ?_
 refine kH 33 ?_
 refine kH 34 ?_
 refine aQ 35 ?_
 refine jf ?_
 have fH := hHeld
 have dw := af av.out fH.out
 go_wp2
 go_ret
 exact ⟨rfl, dw⟩
theorem QG (P Q G : Int) (Y : Option Addr) (ys : List Int) (n yc : Nat) (B : Option Addr) (rows : List Row) (bc : Nat) (A : Option Addr) (al : List Int) (na ca : Nat) (C : Int) (Z : Option Addr) (zs : List Int) (nz cz : Nat) (cB : Hid (aP P Q G ys rows = true)) (hyn : Hid (ys.length = n)) (hbn : Hid (rows.length = n)) (iV : Hid (al.length = na)) (hzn : Hid (zs.length = nz)) (hna : na < 1000000) (hnz : nz < 1000000) (hQ : Q < 9223372036854775808) (hne : na ≠ n) (w : World) (hY : Hid (Sl w Y ys)) (hB : Hid (Rw w B rows)) (hA : Hid (Sl w A al)) (hZ : Hid (Sl w Z zs)) :
  Calls Tryz.prog 52 #[gv P Q G, dm Y n yc B n bc, jR A na ca C Z nz cz] w (Rt w (.bool false)) := by
 obtain ⟨v1, v2, v3, v4, v5, v6, v7, v8⟩ := ak cB.out
 have hnp : 0 < n := by rw [← hyn.out]; omega
 obtain ⟨nu, hnu⟩ : ∃ k, aU rows = k := ⟨_, rfl⟩
 have HN := aa hnu
 clear v1 v2 v3 v4 v5 v6 v7 v8 hnu
 have e1 : ((na : Int) != (n : Int)) = true := by simp; omega
 obtain ⟨w0, HW, av, kC⟩ := xQ (aN P Q G) vw (dW Y n yc B n bc) Gx (gD A na ca C Z nz cz) Bt w
 have kY := mkS av hY
 have kB := vH (fun u => Rw u B rows) av hB (·.below)
 have kA := mkS av hA
 have kZ := mkS av hZ
 have aA := dS w0
 clear hY hB hA hZ
 go_in
 go_wp2_with fail
 rw [HW.out]
 have hO := kC
 refine je [] aA (fun hHeld => ?_)
 refine aQ 0 ?_
 refine aQ 1 ?_
 refine dO 2 fun K hK => ?_
 go_simp
 (with_reducible refine (fo P Q G Y ys n yc B rows n bc true cB hyn hbn hQ _ ?_ ?_).mono ?_); (go_split_ands; exact kY.out _ (by assumption)); (go_split_ands; exact kB.out _ (by assumption)); rintro e wA ⟨rfl, bA⟩
 refine hK.out _ _ (cZ hHeld bA) (fun hHeld => ?_)
 clear hK K
 try simp only [qq]
 refine aX 3 4 5 6 ?_
 refine aX 7 8 9 10 ?_
 refine aQ 11 ?_
 refine aQ 12 ?_
 refine aQ 13 ?_
 refine gz 14 15 16 17 ?_
 refine kH 18 ?_
 refine kH 19 ?_
 refine aQ 20 ?_
 refine aQ 21 ?_
 refine gz 22 23 24 25 ?_
 refine kH 26 ?_
 refine aQ 27 ?_
 refine aQ 28 ?_
 refine gz 29 30 31 32 ?_
 refine kH 33 ?_
 refine kH 34 ?_
 refine aQ 35 ?_
 refine jf ?_
 have fH := hHeld
 have dw := af av.out fH.out
 go_wp2
 go_ret
 exact ⟨rfl, dw⟩
theorem QF (P Q G : Int) (Y : Option Addr) (ys : List Int) (n yc : Nat) (B : Option Addr) (rows : List Row) (bc : Nat) (A : Option Addr) (al : List Int) (na ca : Nat) (C : Int) (Z : Option Addr) (zs : List Int) (nz cz : Nat) (cB : Hid (aP P Q G ys rows = true)) (hyn : Hid (ys.length = n)) (hbn : Hid (rows.length = n)) (iV : Hid (al.length = na)) (hzn : Hid (zs.length = nz)) (hna : na < 1000000) (hnz : nz < 1000000) (hQ : Q < 9223372036854775808) (heq : na = n) (hne : nz ≠ aU rows) (w : World) (hY : Hid (Sl w Y ys)) (hB : Hid (Rw w B rows)) (hA : Hid (Sl w A al)) (hZ : Hid (Sl w Z zs)) :
  Calls Tryz.prog 52 #[gv P Q G, dm Y n yc B n bc, jR A na ca C Z nz cz] w (Rt w (.bool false)) := by
 obtain ⟨v1, v2, v3, v4, v5, v6, v7, v8⟩ := ak cB.out
 have hnp : 0 < n := by rw [← hyn.out]; omega
 obtain ⟨nu, hnu⟩ : ∃ k, aU rows = k := ⟨_, rfl⟩
 have HN := aa hnu
 clear v1 v2 v3 v4 v5 v6 v7 v8 hnu
 have e1 : ((na : Int) != (n : Int)) = false := by simp; omega
 have e2 : ((nz : Int) != (nu : Int)) = true := by have := HN.out; simp; omega
 clear heq hne
 obtain ⟨w0, HW, av, kC⟩ := xQ (aN P Q G) vw (dW Y n yc B n bc) Gx (gD A na ca C Z nz cz) Bt w
 have kY := mkS av hY
 have kB := vH (fun u => Rw u B rows) av hB (·.below)
 have kA := mkS av hA
 have kZ := mkS av hZ
 have aA := dS w0
 clear hY hB hA hZ
 go_in
 go_wp2_with fail
 rw [HW.out]
 have hO := kC
 refine je [] aA (fun hHeld => ?_)
 refine aQ 0 ?_
 refine aQ 1 ?_
 refine dO 2 fun K hK => ?_
 go_simp
 (with_reducible refine (fo P Q G Y ys n yc B rows n bc true cB hyn hbn hQ _ ?_ ?_).mono ?_); (go_split_ands; exact kY.out _ (by assumption)); (go_split_ands; exact kB.out _ (by assumption)); rintro e wA ⟨rfl, bA⟩
 refine hK.out _ _ (cZ hHeld bA) (fun hHeld => ?_)
 clear hK K
 try simp only [qq]
 refine aX 3 4 5 6 ?_
 refine aX 7 8 9 10 ?_
 refine aX 11 12 13 14 ?_
 refine aQ 15 ?_
 refine aQ 16 ?_
 refine aQ 17 ?_
 refine dO 18 fun K hK => ?_
 go_simp
 (with_reducible refine (eB Y n yc B rows n bc nu hbn hnp HN _ ?_).mono ?_); (go_split_ands; exact kB.out _ (by assumption)); rintro e wA ⟨rfl, bA⟩
 refine hK.out _ _ (cZ hHeld bA) (fun hHeld => ?_)
 clear hK K
 try simp only [qq]
 refine aQ 19 ?_
 refine aQ 20 ?_
 refine aQ 21 ?_
 refine gz 22 23 24 25 ?_
 refine kH 26 ?_
 refine aQ 27 ?_
 refine aQ 28 ?_
 refine gz 29 30 31 32 ?_
 refine kH 33 ?_
 refine kH 34 ?_
 refine aQ 35 ?_
 refine jf ?_
 have fH := hHeld
 have dw := af av.out fH.out
 go_wp2
 go_ret
 exact ⟨rfl, dw⟩
theorem QE (P Q G : Int) (Y : Option Addr) (ys : List Int) (n yc : Nat) (B : Option Addr) (rows : List Row) (bc : Nat) (A : Option Addr) (al : List Int) (na ca : Nat) (C : Int) (Z : Option Addr) (zs : List Int) (nz cz : Nat) (cB : Hid (aP P Q G ys rows = true)) (hyn : Hid (ys.length = n)) (hbn : Hid (rows.length = n)) (iV : Hid (al.length = na)) (hzn : Hid (zs.length = nz)) (hna : na < 1000000) (hnz : nz < 1000000) (hQ : Q < 9223372036854775808) (heq : na = n) (heq2 : nz = aU rows) (Pk : Hid (zs.all (cu Q) = false)) (w : World) (hY : Hid (Sl w Y ys)) (hB : Hid (Rw w B rows)) (hA : Hid (Sl w A al)) (hZ : Hid (Sl w Z zs)) :
  Calls Tryz.prog 52 #[gv P Q G, dm Y n yc B n bc, jR A na ca C Z nz cz] w (Rt w (.bool false)) := by
 obtain ⟨v1, v2, v3, v4, v5, v6, v7, v8⟩ := ak cB.out
 have hnp : 0 < n := by rw [← hyn.out]; omega
 obtain ⟨nu, hnu⟩ : ∃ k, aU rows = k := ⟨_, rfl⟩
 have HN := aa hnu
 clear v1 v2 v3 v4 v5 v6 v7 v8 hnu
 have e1 : ((na : Int) != (n : Int)) = false := by simp; omega
 have e2 : ((nz : Int) != (nu : Int)) = false := by have := HN.out; simp; omega
 clear heq heq2
 obtain ⟨w0, HW, av, kC⟩ := xQ (aN P Q G) vw (dW Y n yc B n bc) Gx (gD A na ca C Z nz cz) Bt w
 have kY := mkS av hY
 have kB := vH (fun u => Rw u B rows) av hB (·.below)
 have kA := mkS av hA
 have kZ := mkS av hZ
 have aA := dS w0
 clear hY hB hA hZ
 go_in
 go_wp2_with fail
 rw [HW.out]
 have hO := kC
 refine je [] aA (fun hHeld => ?_)
 refine aQ 0 ?_
 refine aQ 1 ?_
 refine dO 2 fun K hK => ?_
 go_simp
 (with_reducible refine (fo P Q G Y ys n yc B rows n bc true cB hyn hbn hQ _ ?_ ?_).mono ?_); (go_split_ands; exact kY.out _ (by assumption)); (go_split_ands; exact kB.out _ (by assumption)); rintro e wA ⟨rfl, bA⟩
 refine hK.out _ _ (cZ hHeld bA) (fun hHeld => ?_)
 clear hK K
 try simp only [qq]
 refine aX 3 4 5 6 ?_
 refine aX 7 8 9 10 ?_
 refine aX 11 12 13 14 ?_
 refine aQ 15 ?_
 refine aQ 16 ?_
 refine aQ 17 ?_
 refine dO 18 fun K hK => ?_
 go_simp
 (with_reducible refine (eB Y n yc B rows n bc nu hbn hnp HN _ ?_).mono ?_); (go_split_ands; exact kB.out _ (by assumption)); rintro e wA ⟨rfl, bA⟩
 refine hK.out _ _ (cZ hHeld bA) (fun hHeld => ?_)
 clear hK K
 try simp only [qq]
 refine aX 19 20 21 22 ?_
 refine aQ 23 ?_
 refine aQ 24 ?_
 refine dO 25 fun K hK => ?_
 go_simp
 (with_reducible refine (gU P Q G Z zs nz cz false Pk hzn hnz _ ?_).mono ?_); (go_split_ands; exact kZ.out _ (by assumption)); rintro e wA ⟨rfl, bA⟩
 refine hK.out _ _ (cZ hHeld bA) (fun hHeld => ?_)
 clear hK K
 try simp only [qq]
 refine aQ 26 ?_
 refine aQ 27 ?_
 refine aQ 28 ?_
 refine gz 29 30 31 32 ?_
 refine kH 33 ?_
 refine kH 34 ?_
 refine aQ 35 ?_
 refine jf ?_
 have fH := hHeld
 have dw := af av.out fH.out
 go_wp2
 go_ret
 exact ⟨rfl, dw⟩
theorem QD (P Q G : Int) (Y : Option Addr) (ys : List Int) (n yc : Nat) (B : Option Addr) (rows : List Row) (bc : Nat) (A : Option Addr) (al : List Int) (na ca : Nat) (C : Int) (Z : Option Addr) (zs : List Int) (nz cz : Nat) (cB : Hid (aP P Q G ys rows = true)) (hyn : Hid (ys.length = n)) (hbn : Hid (rows.length = n)) (iV : Hid (al.length = na)) (hzn : Hid (zs.length = nz)) (hna : na < 1000000) (hnz : nz < 1000000) (hQ : Q < 9223372036854775808) (heq : na = n) (heq2 : nz = aU rows) (Pk : Hid (zs.all (cu Q) = true)) (hc : cu Q C = false) (w : World) (hY : Hid (Sl w Y ys)) (hB : Hid (Rw w B rows)) (hA : Hid (Sl w A al)) (hZ : Hid (Sl w Z zs)) :
  Calls Tryz.prog 52 #[gv P Q G, dm Y n yc B n bc, jR A na ca C Z nz cz] w (Rt w (.bool false)) := by
 obtain ⟨v1, v2, v3, v4, v5, v6, v7, v8⟩ := ak cB.out
 have hnp : 0 < n := by rw [← hyn.out]; omega
 obtain ⟨nu, hnu⟩ : ∃ k, aU rows = k := ⟨_, rfl⟩
 have HN := aa hnu
 clear v1 v2 v3 v4 v5 v6 v7 v8 hnu
 have e1 : ((na : Int) != (n : Int)) = false := by simp; omega
 have e2 : ((nz : Int) != (nu : Int)) = false := by have := HN.out; simp; omega
 have MW : Hid ([C].all (cu Q) = false) := aa (by simpa using hc)
 clear heq heq2 hc
 obtain ⟨w0, HW, av, kC⟩ := xQ (aN P Q G) vw (dW Y n yc B n bc) Gx (gD A na ca C Z nz cz) Bt w
 have kY := mkS av hY
 have kB := vH (fun u => Rw u B rows) av hB (·.below)
 have kA := mkS av hA
 have kZ := mkS av hZ
 have aA := dS w0
 clear hY hB hA hZ
 go_in
 go_wp2_with fail
 rw [HW.out]
 have hO := kC
 refine je [] aA (fun hHeld => ?_)
 refine aQ 0 ?_
 refine aQ 1 ?_
 refine dO 2 fun K hK => ?_
 go_simp
 (with_reducible refine (fo P Q G Y ys n yc B rows n bc true cB hyn hbn hQ _ ?_ ?_).mono ?_); (go_split_ands; exact kY.out _ (by assumption)); (go_split_ands; exact kB.out _ (by assumption)); rintro e wA ⟨rfl, bA⟩
 refine hK.out _ _ (cZ hHeld bA) (fun hHeld => ?_)
 clear hK K
 try simp only [qq]
 refine aX 3 4 5 6 ?_
 refine aX 7 8 9 10 ?_
 refine aX 11 12 13 14 ?_
 refine aQ 15 ?_
 refine aQ 16 ?_
 refine aQ 17 ?_
 refine dO 18 fun K hK => ?_
 go_simp
 (with_reducible refine (eB Y n yc B rows n bc nu hbn hnp HN _ ?_).mono ?_); (go_split_ands; exact kB.out _ (by assumption)); rintro e wA ⟨rfl, bA⟩
 refine hK.out _ _ (cZ hHeld bA) (fun hHeld => ?_)
 clear hK K
 try simp only [qq]
 refine aX 19 20 21 22 ?_
 refine aQ 23 ?_
 refine aQ 24 ?_
 refine dO 25 fun K hK => ?_
 go_simp
 (with_reducible refine (gU P Q G Z zs nz cz true Pk hzn hnz _ ?_).mono ?_); (go_split_ands; exact kZ.out _ (by assumption)); rintro e wA ⟨rfl, bA⟩
 refine hK.out _ _ (cZ hHeld bA) (fun hHeld => ?_)
 clear hK K
 try simp only [qq]
 refine aX 26 27 28 29 ?_
 refine aQ 30 ?_
 refine aQ 31 ?_
 refine dO 32 fun K hK => ?_
 go_simp
 refine hK.out _ _ (cZ hHeld (ai _ _)) (fun hHeld => ?_)
 clear hK K
 try simp only [qq]
 refine dO 33 fun K hK => ?_
 go_simp
 (with_reducible refine (gU P Q G (some ⟨wA.heap.size, 0, none⟩) [C] 1 1 false MW (aa rfl) (by omega) _ (aa (dL (jI wA _ C)))).mono ?_); rintro e wB ⟨rfl, bA⟩
 refine hK.out _ _ (cZ hHeld bA) (fun hHeld => ?_)
 clear hK K
 try simp only [qq]
 refine aQ 34 ?_
 refine aQ 35 ?_
 refine jf ?_
 have fH := hHeld
 have dw := af av.out fH.out
 go_wp2
 go_ret
 exact ⟨rfl, dw⟩
def j6 (P Q C : Int) (ys : List Int) (rows : List Row) (al zs : List Int) (i : Nat) : Bool := a_ P Q (al.getD i 0) && (aO P 1 (rows.getD i aG).xs zs == al.getD i 0 * pw (ys.getD i 0) C P % P)
theorem wD {P Q : Int} (hP : 2 ≤ P) (hQ : 1 ≤ Q) : ∀ (xs es : List Int) (acc : Int), a_ P Q acc = true → xs.all (a_ P Q) = true → es.all (cu Q) = true → a_ P Q (aO P acc xs es) = true
 | [], es, acc, h, _, _ => by cases es <;> exact h
 | x :: xs, [], acc, h, _, _ => h
 | x :: xs, e :: es, acc, h, h1, h2 => by
  simp only [List.all_cons, Bool.and_eq_true] at h1 h2
  exact wD hP hQ xs es _ (DW hP hQ h (Cf hP hQ (lH h2.1) h1.1)) h1.2 h2.2
theorem AY {P Q G C : Int} {ys : List Int} {rows : List Row} {al zs : List Int} (hv : aP P Q G ys rows = true) (hl : al.length = rows.length) (hz : zs.length = aU rows) (hzs : zs.all (cu Q) = true) (hc : cu Q C = true) :
  bN P Q C ys rows al zs = true ↔ ∀ i, i < rows.length → j6 P Q C ys rows al zs i = true := by
 obtain ⟨v1, v2, v3, v4, v5, v6, v7, v8⟩ := ak hv
 obtain ⟨hp2, hp, hq3, wK⟩ := aM v1
 have hC : 0 ≤ C ∧ C < Q := by simp [cu] at hc; exact hc
 have key : ∀ i, i < rows.length → (j6 P Q C ys rows al zs i = true ↔ l6 P Q C ys rows zs i = al.getD i 0) := by
  intro i hi
  have hy : a_ P Q (ys.getD i 0) = true := eH v5 (by omega)
  have hr := lJ v8 hi
  simp only [jd, Bool.and_eq_true] at hr
  have hm := wD (P := P) (Q := Q) hp2 (by omega) (rows.getD i aG).xs zs 1 (LM hp2) hr.2 hzs
  have hu := DK hp2 (by omega) hC.1 hC.2 hy
  unfold j6 l6
  obtain ⟨p, Md⟩ : ∃ p, aO P 1 (rows.getD i aG).xs zs = p := ⟨_, rfl⟩
  obtain ⟨u, Xj⟩ : ∃ u, pw (ys.getD i 0) C P = u := ⟨_, rfl⟩
  obtain ⟨t, hpt⟩ : ∃ t, pw (ys.getD i 0) ((Q - C) % Q) P = t := ⟨_, rfl⟩
  obtain ⟨a, ha⟩ : ∃ a, al.getD i 0 = a := ⟨_, rfl⟩
  have hmt : a_ P Q t = true := by rw [← hpt]; exact Cf hp2 (by omega) (Int.emod_nonneg _ (by omega)) hy
  rw [Xj, hpt] at hu
  rw [Md] at hm ⊢
  rw [Xj, hpt, ha]
  have p1 := d_ hm
  have p2 := ek hm
  constructor
  ·
   intro h
   simp only [Bool.and_eq_true, beq_iff_eq] at h
   have a1 := d_ h.1
   have a2 := ek h.1
   rw [h.2, IB, Int.mul_assoc, ← IA, hu, Int.mul_one]
   exact Int.emod_eq_of_lt (by omega) a2
  ·
   intro h
   have hma : a_ P Q a = true := by rw [← h]; exact DW hp2 (by omega) hm hmt
   simp only [Bool.and_eq_true, beq_iff_eq]
   refine ⟨hma, ?_⟩
   rw [← h, IB, Int.mul_assoc, Int.mul_comm t u, ← IA, hu, Int.mul_one]
   exact (Int.emod_eq_of_lt (by omega) p2).symm
 constructor
 ·
  intro h i hi
  have hs := (gY h).2.2.2.2
  rw [key i hi, ← hs, mF hi]
 ·
  intro h
  have hs : iX P Q C ys rows zs = al := by
   apply List.ext_getElem (by rw [bC, hl])
   intro i h1 h2
   have e1 := (key i (by rw [bC] at h1; exact h1)).1 (h i (by rw [bC] at h1; exact h1))
   have e2 := mF (P := P) (Q := Q) (c := C) (ys := ys) (zs := zs) (rows := rows) (show i < rows.length by rw [bC] at h1; exact h1)
   rw [List.getD_eq_getElem?_getD, List.getElem?_eq_getElem h1] at e2
   rw [List.getD_eq_getElem?_getD, List.getElem?_eq_getElem h2] at e1
   simp only [Option.getD_some] at e1 e2
   rw [e2, e1]
  simp only [bN, Bool.and_eq_true, decide_eq_true_eq]
  exact ⟨hl, hz, hc, hzs, by rw [hs]; simp⟩
theorem QC (P Q G : Int) (Y : Option Addr) (ys : List Int) (n yc : Nat) (B : Option Addr) (rows : List Row) (bc : Nat) (A : Option Addr) (al : List Int) (na ca : Nat) (C : Int) (Z : Option Addr) (zs : List Int) (nz cz : Nat) (cB : Hid (aP P Q G ys rows = true)) (hyn : Hid (ys.length = n)) (hbn : Hid (rows.length = n)) (iV : Hid (al.length = na)) (hzn : Hid (zs.length = nz)) (hna : na < 1000000) (hnz : nz < 1000000) (hQ : Q < 9223372036854775808) (heq : na = n) (heq2 : nz = aU rows) (Pk : Hid (zs.all (cu Q) = true)) (hc : cu Q C = true) (r : Bool) (hr : Hid (bN P Q C ys rows al zs = r)) (w : World) (hY : Hid (Sl w Y ys)) (hB : Hid (Rw w B rows)) (hA : Hid (Sl w A al)) (hZ : Hid (Sl w Z zs)) :
  Calls Tryz.prog 52 #[gv P Q G, dm Y n yc B n bc, jR A na ca C Z nz cz] w (Rt w (.bool r)) := by
 have SK : Hid (bN P Q C ys rows al zs = true ↔ ∀ i, i < rows.length → j6 P Q C ys rows al zs i = true) := aa (AY cB.out (by rw [iV.out, hbn.out, heq]) (by rw [hzn.out, heq2]) Pk.out hc)
 have hC : 0 ≤ C ∧ C < Q := by simp [cu] at hc; exact hc
 obtain ⟨hC0, hC1⟩ := hC
 obtain ⟨v1, v2, v3, v4, v5, v6, v7, v8⟩ := ak cB.out
 obtain ⟨hp2, hp, hq3, wK⟩ := aM v1
 have R4 := aa v5
 have vT : Hid (rows.all (jd P Q nz) = true) := aa (by rw [heq2]; exact v8)
 have UT : n ≤ 8 := by rw [← hyn.out]; exact v3
 clear v1 v2 v3 v4 v5 v6 v7 v8
 obtain ⟨v1, v2, v3, v4, v5, v6, v7, v8⟩ := ak cB.out
 have hnp : 0 < n := by rw [← hyn.out]; omega
 obtain ⟨nu, hnu⟩ : ∃ k, aU rows = k := ⟨_, rfl⟩
 have HN := aa hnu
 clear v1 v2 v3 v4 v5 v6 v7 v8 hnu
 have e1 : ((na : Int) != (n : Int)) = false := by simp; omega
 have e2 : ((nz : Int) != (nu : Int)) = false := by have := HN.out; simp; omega
 have MW : Hid ([C].all (cu Q) = true) := aa (by simpa using hc)
 have GJ := aa heq
 clear heq heq2 hc
 obtain ⟨w0, HW, av, kC⟩ := xQ (aN P Q G) vw (dW Y n yc B n bc) Gx (gD A na ca C Z nz cz) Bt w
 have kY := mkS av hY
 have kB := vH (fun u => Rw u B rows) av hB (·.below)
 have kA := mkS av hA
 have kZ := mkS av hZ
 have aA := dS w0
 clear hY hB hA hZ
 go_in
 go_wp2_with fail
 rw [HW.out]
 have hS := aa (show ∀ u1 u2 : World, Hid (Below w0.heap.size w0 u1) → Below u1.heap.size u1 u2 → (u2.cell? ⟨w.heap.size, 0, none⟩ = some (.int .i64 P) ∧ u2.cell? ⟨w.heap.size, 1, none⟩ = some (.int .i64 Q) ∧ u2.cell? ⟨w.heap.size, 2, none⟩ = some (.int .i64 G) ∧ u2.cell? ⟨w.heap.size + 1, 0, none⟩ = some (.slice Y n yc) ∧ u2.cell? ⟨w.heap.size + 1, 1, none⟩ = some (.slice B n bc) ∧ u2.cell? ⟨w.heap.size + 2, 0, none⟩ = some (.slice A na ca) ∧ u2.cell? ⟨w.heap.size + 2, 1, none⟩ = some (.int .i64 C) ∧ u2.cell? ⟨w.heap.size + 2, 2, none⟩ = some (.slice Z nz cz) ∧ Hid (Below w0.heap.size w0 u2)) from fun u1 u2 h1 h2 => by
  have h3 := aa (af h1.out h2)
  obtain ⟨y0, y1, y2, y3, y4, y5, y6, y7⟩ := kC.out _ h3
  exact ⟨y0, y1, y2, y3, y4, y5, y6, y7, h3⟩)
 refine dZ (S := fun w' => w'.cell? ⟨w.heap.size, 0, none⟩ = some (.int .i64 P) ∧ w'.cell? ⟨w.heap.size, 1, none⟩ = some (.int .i64 Q) ∧ w'.cell? ⟨w.heap.size, 2, none⟩ = some (.int .i64 G) ∧ w'.cell? ⟨w.heap.size + 1, 0, none⟩ = some (.slice Y n yc) ∧ w'.cell? ⟨w.heap.size + 1, 1, none⟩ = some (.slice B n bc) ∧ w'.cell? ⟨w.heap.size + 2, 0, none⟩ = some (.slice A na ca) ∧ w'.cell? ⟨w.heap.size + 2, 1, none⟩ = some (.int .i64 C) ∧ w'.cell? ⟨w.heap.size + 2, 2, none⟩ = some (.slice Z nz cz) ∧ Hid (Below w0.heap.size w0 w')) (E := []) (by kernel_rfl) (hS.out _ _ aA ((Below.refl _ _).drew)) (fun hHeld => ?_)
 refine eZ 0 ?_
 refine eZ 1 ?_
 refine dO 2 fun K hK => ?_
 go_simp
 (with_reducible refine (fo P Q G Y ys n yc B rows n bc true cB hyn hbn hQ _ ?_ ?_).mono ?_); (go_split_ands; exact kY.out _ (by assumption)); (go_split_ands; exact kB.out _ (by assumption)); rintro e wA ⟨rfl, bA⟩
 refine hK.out _ _ ?_ (fun hHeld => ?_)
 · (go_split_ands; exact hS.out _ _ (by assumption) bA)
 clear hK K
 try simp only [qq]
 refine eZ 3 ?_
 refine eZ 4 ?_
 refine eZ 5 ?_
 refine eZ 6 ?_
 refine eZ 7 ?_
 refine eZ 8 ?_
 refine eZ 9 ?_
 refine eZ 10 ?_
 refine eZ 11 ?_
 refine eZ 12 ?_
 refine eZ 13 ?_
 refine eZ 14 ?_
 refine eZ 15 ?_
 refine eZ 16 ?_
 refine eZ 17 ?_
 refine dO 18 fun K hK => ?_
 go_simp
 (with_reducible refine (eB Y n yc B rows n bc nu hbn hnp HN _ ?_).mono ?_); (go_split_ands; exact kB.out _ (by assumption)); rintro e wA ⟨rfl, bA⟩
 refine hK.out _ _ ?_ (fun hHeld => ?_)
 · (go_split_ands; exact hS.out _ _ (by assumption) bA)
 clear hK K
 try simp only [qq]
 refine eZ 19 ?_
 refine eZ 20 ?_
 refine eZ 21 ?_
 refine eZ 22 ?_
 refine eZ 23 ?_
 refine eZ 24 ?_
 refine dO 25 fun K hK => ?_
 go_simp
 (with_reducible refine (gU P Q G Z zs nz cz true Pk hzn hnz _ ?_).mono ?_); (go_split_ands; exact kZ.out _ (by assumption)); rintro e wA ⟨rfl, bA⟩
 refine hK.out _ _ ?_ (fun hHeld => ?_)
 · (go_split_ands; exact hS.out _ _ (by assumption) bA)
 clear hK K
 try simp only [qq]
 refine eZ 26 ?_
 refine eZ 27 ?_
 refine eZ 28 ?_
 refine eZ 29 ?_
 refine eZ 30 ?_
 refine eZ 31 ?_
 refine dO 32 fun K hK => ?_
 go_simp
 refine hK.out _ _ ?_ (fun hHeld => ?_)
 · (go_split_ands; exact hS.out _ _ (by assumption) (ai _ _))
 clear hK K
 try simp only [qq]
 refine dO 33 fun K hK => ?_
 go_simp
 (with_reducible refine (gU P Q G (some ⟨wA.heap.size, 0, none⟩) [C] 1 1 true MW (aa rfl) (by omega) _ (aa (dL (jI wA _ C)))).mono ?_); rintro e wB ⟨rfl, bA⟩
 refine hK.out _ _ ?_ (fun hHeld => ?_)
 · (go_split_ands; exact hS.out _ _ (by assumption) bA)
 clear hK K
 try simp only [qq]
 refine eZ 34 ?_
 refine eZ 35 ?_
 refine jf ?_
 obtain ⟨x0, x1, x2, x3, x4, x5, x6, x7, bF⟩ := hHeld
 go_wp2_with fail
 clear x0 x1 x2 x3 x4 x5 x6 x7 hS
 go_loopw [7] (fun i u => ∃ k : Nat, k ≤ n ∧ i = .int .i64 k ∧ Hid (∀ j, j < k → j6 P Q C ys rows al zs j = true) ∧ Hid (Below w0.heap.size w0 u)) (fun i _ => n - (intOf i).toNat)
 case atStart => exact ⟨0, by omega, rfl, aa (fun j hj => absurd hj (Nat.not_lt_zero _)), bF⟩
 case round =>
  obtain ⟨k, hk, rfl, Tx, aF⟩ := hrel
  obtain ⟨y0, y1, y2, y3, y4, y5, y6, y7⟩ := kC.out _ aF
  by_cases hlt : k < n
  ·
   have hka : k < al.length := by have := GJ.out; have := iV.out; omega
   have Zk : k < na := by have := GJ.out; omega
   have Xo : k < ys.length := by rw [hyn.out]; exact hlt
   have hkr : k < rows.length := by rw [hbn.out]; exact hlt
   obtain ⟨ba, oa, ZU, ia⟩ := (kA.out _ aF).out k hka
   obtain ⟨by', oy, ZE, iy⟩ := (kY.out _ aF).out k Xo
   obtain ⟨⟨br, or', ZR, ir⟩, hok⟩ := (kB.out _ aF).out k hkr
   subst ZU
   subst ZE
   subst ZR
   have hrc : j6 P Q C ys rows al zs k = (a_ P Q (al.getD k 0) && (aO P 1 (rows.getD k aG).xs zs == al.getD k 0 * pw (ys.getD k 0) C P % P)) := rfl
   have uH := eH R4.out Xo
   have hrb := lJ vT.out hkr
   have SX : Hid (j6 P Q C ys rows al zs k = false → r = false) := aa (fun h => by
    rw [← hr.out]
    cases hcb : bN P Q C ys rows al zs with
    | false => rfl
    | true =>
     have h2 := SK.out.1 hcb k hkr
     rw [h] at h2
     cases h2)
   have SE : Hid (j6 P Q C ys rows al zs k = true → ∀ j, j < k + 1 → j6 P Q C ys rows al zs j = true) := aa (fun h j hj => by
    by_cases hjk : j = k
    · subst hjk; exact h
    · exact Tx.out j (by omega))
   obtain ⟨a, Xx⟩ : ∃ a, al.getD k 0 = a := ⟨_, rfl⟩
   obtain ⟨y, QU⟩ : ∃ a, ys.getD k 0 = a := ⟨_, rfl⟩
   obtain ⟨RR, hRR⟩ : ∃ R, rows.getD k aG = R := ⟨_, rfl⟩
   rw [Xx] at ia hrc
   rw [QU] at iy hrc uH
   rw [hRR] at ir hok hrc hrb
   obtain ⟨p, rn, rc, xs⟩ := RR
   simp only [jd, Bool.and_eq_true, decide_eq_true_eq] at hrb
   obtain ⟨hrn, hmx⟩ := hrb
   subst hrn
   have HXL := aa hok.1
   have HXS : Hid (Sl wr p xs) := aa hok.2
   have Wj := aa hmx
   dsimp only [Row.val] at ir hrc
   have Yp := aa uH
   have hs2 := aa (show ∀ u1 u2 : World, Hid (Below wr.heap.size wr u1) → Below u1.heap.size u1 u2 → (u2.cell? ⟨w.heap.size, 0, none⟩ = some (.int .i64 P) ∧ u2.cell? ⟨w.heap.size, 1, none⟩ = some (.int .i64 Q) ∧ u2.cell? ⟨w.heap.size, 2, none⟩ = some (.int .i64 G) ∧ u2.cell? ⟨w.heap.size + 1, 0, none⟩ = some (.slice (some ⟨by', oy, none⟩) n yc) ∧ u2.cell? ⟨w.heap.size + 1, 1, none⟩ = some (.slice (some ⟨br, or', none⟩) n bc) ∧ u2.cell? ⟨w.heap.size + 2, 0, none⟩ = some (.slice (some ⟨ba, oa, none⟩) na ca) ∧ u2.cell? ⟨w.heap.size + 2, 1, none⟩ = some (.int .i64 C) ∧ u2.cell? ⟨w.heap.size + 2, 2, none⟩ = some (.slice Z rn cz) ∧ u2.cell? ⟨ba, oa + k, none⟩ = some (.int .i64 a) ∧ u2.cell? ⟨by', oy + k, none⟩ = some (.int .i64 y) ∧ u2.cell? ⟨br, or' + k, none⟩ = some (.slice p rn rc) ∧ Hid (Below wr.heap.size wr u2)) from fun u1 u2 h1 h2 => by
    have h3 := af h1.out h2
    exact ⟨cell_below y0 h3, cell_below y1 h3, cell_below y2 h3, cell_below y3 h3, cell_below y4 h3, cell_below y5 h3, cell_below y6 h3, cell_below y7 h3, cell_below ia h3, cell_below iy h3, cell_below ir h3, aa h3⟩)
   have kX := aa (show ∀ u : World, Hid (Below wr.heap.size wr u) → Hid (Sl u p xs) from fun u h => aa (HXS.out.below h.out))
   have Y6 := aa (show ∀ u : World, Hid (Below wr.heap.size wr u) → Hid (Sl u Z zs) from fun u h => kZ.out _ (aa (af aF.out h.out)))
   have WK : Hid (Below wr.heap.size wr wr) := aa (Below.refl _ _)
   have Pv := aa hrc
   clear Xx QU hRR hok hmx uH hrc
   go_wp2_with fail
   clear y0 y1 y2 y3 y4 y5 y6 y7 ia iy ir
   obtain ⟨m, hm⟩ : ∃ m, a_ P Q a = m := ⟨_, rfl⟩
   have HM := aa hm
   clear hm
   refine dZ (S := fun w' => w'.cell? ⟨w.heap.size, 0, none⟩ = some (.int .i64 P) ∧ w'.cell? ⟨w.heap.size, 1, none⟩ = some (.int .i64 Q) ∧ w'.cell? ⟨w.heap.size, 2, none⟩ = some (.int .i64 G) ∧ w'.cell? ⟨w.heap.size + 1, 0, none⟩ = some (.slice (some ⟨by', oy, none⟩) n yc) ∧ w'.cell? ⟨w.heap.size + 1, 1, none⟩ = some (.slice (some ⟨br, or', none⟩) n bc) ∧ w'.cell? ⟨w.heap.size + 2, 0, none⟩ = some (.slice (some ⟨ba, oa, none⟩) na ca) ∧ w'.cell? ⟨w.heap.size + 2, 1, none⟩ = some (.int .i64 C) ∧ w'.cell? ⟨w.heap.size + 2, 2, none⟩ = some (.slice Z rn cz) ∧ w'.cell? ⟨ba, oa + k, none⟩ = some (.int .i64 a) ∧ w'.cell? ⟨by', oy + k, none⟩ = some (.int .i64 y) ∧ w'.cell? ⟨br, or' + k, none⟩ = some (.slice p rn rc) ∧ Hid (Below wr.heap.size wr w')) (E := []) (by kernel_rfl) (hs2.out _ _ WK ((Below.refl _ _).drew)) (fun hHeld => ?_)
   refine eZ 0 ?_
   refine eZ 1 ?_
   refine eZ 2 ?_
   refine eZ 3 ?_
   refine eZ 4 ?_
   refine eZ 5 ?_
   refine dO 6 fun K hK => ?_
   go_simp
   (with_reducible refine (gL P Q G a m HM hp (by omega) hQ _).mono ?_); rintro e wA ⟨rfl, bA⟩
   refine hK.out _ _ ?_ (fun hHeld => ?_)
   · exact hs2.out _ _ (hHeld.2.2.2.2.2.2.2.2.2.2.2) bA
   clear hK K
   try simp only [qq]
   refine eZ 7 ?_
   refine jf ?_
   obtain ⟨x0, x1, x2, x3, x4, x5, x6, x7, x8, x9, Qu, iT⟩ := hHeld
   clear x0 x1 x2 x3 x4 x5 x6 x7 x8 x9 Qu
   have Vd := iT.out
   cases hmc : m with
   | false =>
    obtain rfl : r = false := SX.out (by rw [Pv.out, HM.out, hmc]; rfl)
    have dw := af av.out (af aF.out iT.out)
    go_wp2
    go_ret
    exact ⟨rfl, dw⟩
   | true =>
    have hma : a_ P Q a = true := HM.out.trans hmc
    have a1 := d_ hma
    have a2 := ek hma
    have b1 := d_ Yp.out
    have b2 := ek Yp.out
    obtain ⟨u, hu⟩ : ∃ u, pw y C P = u := ⟨_, rfl⟩
    obtain ⟨u0, u1⟩ : 0 ≤ u ∧ u < P := by rw [← hu]; exact tX _ _ _ (by omega)
    obtain ⟨v, hv'⟩ : ∃ v, a * u % P = v := ⟨_, rfl⟩
    obtain ⟨q, hq'⟩ : ∃ q, aO P 1 xs zs = q := ⟨_, rfl⟩
    have HU := aa hu
    have HV := aa hv'
    have HQ := aa hq'
    have Sn : Hid (j6 P Q C ys rows al zs k = (q == v)) := aa (by rw [Pv.out, hma, hu, hv', hq', Bool.true_and])
    clear hu hv' hq' hma Vd
    go_wp2_with fail
    refine dZ (S := fun w' => w'.cell? ⟨w.heap.size, 0, none⟩ = some (.int .i64 P) ∧ w'.cell? ⟨w.heap.size, 1, none⟩ = some (.int .i64 Q) ∧ w'.cell? ⟨w.heap.size, 2, none⟩ = some (.int .i64 G) ∧ w'.cell? ⟨w.heap.size + 1, 0, none⟩ = some (.slice (some ⟨by', oy, none⟩) n yc) ∧ w'.cell? ⟨w.heap.size + 1, 1, none⟩ = some (.slice (some ⟨br, or', none⟩) n bc) ∧ w'.cell? ⟨w.heap.size + 2, 0, none⟩ = some (.slice (some ⟨ba, oa, none⟩) na ca) ∧ w'.cell? ⟨w.heap.size + 2, 1, none⟩ = some (.int .i64 C) ∧ w'.cell? ⟨w.heap.size + 2, 2, none⟩ = some (.slice Z rn cz) ∧ w'.cell? ⟨ba, oa + k, none⟩ = some (.int .i64 a) ∧ w'.cell? ⟨by', oy + k, none⟩ = some (.int .i64 y) ∧ w'.cell? ⟨br, or' + k, none⟩ = some (.slice p rn rc) ∧ Hid (Below wr.heap.size wr w')) (E := []) (by kernel_rfl) (hs2.out _ _ iT ((Below.refl _ _).drew)) (fun hHeld => ?_)
    refine eZ 0 ?_
    refine eZ 1 ?_
    refine eZ 2 ?_
    refine eZ 3 ?_
    refine eZ 4 ?_
    refine eZ 5 ?_
    refine eZ 6 ?_
    refine eZ 7 ?_
    refine eZ 8 ?_
    refine eZ 9 ?_
    refine eZ 10 ?_
    refine eZ 11 ?_
    refine eZ 12 ?_
    refine eZ 13 ?_
    refine eZ 15 ?_
    refine eZ 16 ?_
    refine dO 14 fun K hK => ?_
    go_simp
    (with_reducible refine (jw y C P u HU (by omega) hp (by omega) b2 hC0 (by omega) _).mono ?_); rintro e wA ⟨rfl, rfl⟩
    refine hK.out _ _ ?_ (fun hHeld => ?_)
    · exact hs2.out _ _ (hHeld.2.2.2.2.2.2.2.2.2.2.2) (Below.refl _ _)
    clear hK K
    try simp only [qq]
    refine dO 17 fun K hK => ?_
    go_simp
    (with_reducible refine (jy a u P v HV hp (by omega) a2 u0 u1 _).mono ?_); rintro e wA ⟨rfl, rfl⟩
    refine hK.out _ _ ?_ (fun hHeld => ?_)
    · exact hs2.out _ _ (hHeld.2.2.2.2.2.2.2.2.2.2.2) (Below.refl _ _)
    clear hK K
    try simp only [qq]
    refine eZ 18 ?_
    refine jf ?_
    obtain ⟨x0, x1, x2, x3, x4, x5, x6, x7, x8, x9, Qu, PX⟩ := hHeld
    clear x0 x1 x2 x3 x4 x5 x6 x7 x8 x9 Qu
    go_wp2_with fail
    refine dZ (S := fun w' => w'.cell? ⟨w.heap.size, 0, none⟩ = some (.int .i64 P) ∧ w'.cell? ⟨w.heap.size, 1, none⟩ = some (.int .i64 Q) ∧ w'.cell? ⟨w.heap.size, 2, none⟩ = some (.int .i64 G) ∧ w'.cell? ⟨w.heap.size + 1, 0, none⟩ = some (.slice (some ⟨by', oy, none⟩) n yc) ∧ w'.cell? ⟨w.heap.size + 1, 1, none⟩ = some (.slice (some ⟨br, or', none⟩) n bc) ∧ w'.cell? ⟨w.heap.size + 2, 0, none⟩ = some (.slice (some ⟨ba, oa, none⟩) na ca) ∧ w'.cell? ⟨w.heap.size + 2, 1, none⟩ = some (.int .i64 C) ∧ w'.cell? ⟨w.heap.size + 2, 2, none⟩ = some (.slice Z rn cz) ∧ w'.cell? ⟨ba, oa + k, none⟩ = some (.int .i64 a) ∧ w'.cell? ⟨by', oy + k, none⟩ = some (.int .i64 y) ∧ w'.cell? ⟨br, or' + k, none⟩ = some (.slice p rn rc) ∧ Hid (Below wr.heap.size wr w')) (E := []) (by kernel_rfl) (hs2.out _ _ PX ((Below.refl _ _).drew)) (fun hHeld => ?_)
    refine eZ 0 ?_
    refine eZ 1 ?_
    refine eZ 2 ?_
    refine eZ 3 ?_
    refine eZ 4 ?_
    refine eZ 5 ?_
    refine eZ 6 ?_
    refine eZ 7 ?_
    refine eZ 9 ?_
    refine dO 8 fun K hK => ?_
    go_simp
    (with_reducible refine (xR P Q G p xs rn rc Z zs rn cz q HQ HXL hzn (Nat.le_refl _) (by omega) Wj Pk hp2 hp hQ _ ?_ ?_).mono ?_); (exact kX.out _ (hHeld.2.2.2.2.2.2.2.2.2.2.2)); (exact Y6.out _ (hHeld.2.2.2.2.2.2.2.2.2.2.2)); rintro e wA ⟨rfl, bA⟩
    refine hK.out _ _ ?_ (fun hHeld => ?_)
    · exact hs2.out _ _ (hHeld.2.2.2.2.2.2.2.2.2.2.2) bA
    clear hK K
    try simp only [qq]
    refine eZ 10 ?_
    refine jf ?_
    obtain ⟨x0, x1, x2, x3, x4, x5, x6, x7, x8, x9, Qu, Ur⟩ := hHeld
    clear x0 x1 x2 x3 x4 x5 x6 x7 x8 x9 Qu
    cases TE : q == v with
    | false =>
     obtain rfl : r = false := SX.out (by rw [Sn.out, TE])
     have hne : (q != v) = true := by simp only [bne, TE, Bool.not_false]
     have dw := af av.out (af aF.out Ur.out)
     go_wp2
     go_ret
     exact ⟨rfl, dw⟩
    | true =>
     have hne : (q != v) = false := by simp only [bne, TE, Bool.not_true]
     have Tw := aa (SE.out (by rw [Sn.out, TE]))
     have HBn := aa (af aF.out Ur.out)
     go_wp2
     go_roundw
     case rel => exact ⟨k + 1, by omega, by go_num, Tw, HBn⟩
     case measure => simp [intOf]; omega
  ·
   obtain rfl : k = n := by omega
   obtain rfl : r = true := by
    rw [← hr.out]
    exact SK.out.2 (fun i hi => Tx.out i (by rw [hbn.out] at hi; exact hi))
   have dw := af av.out aF.out
   go_wp2
   go_ret
   exact ⟨rfl, dw⟩
theorem BP (P Q G : Int) (Y : Option Addr) (ys : List Int) (yn yc : Nat) (B : Option Addr) (rows : List Row) (bn bc : Nat) (A : Option Addr) (al : List Int) (na ca : Nat) (C : Int) (Z : Option Addr) (zs : List Int) (nz cz : Nat) (hyn : Hid (ys.length = yn)) (hbn : Hid (rows.length = bn)) (iV : Hid (al.length = na)) (hzn : Hid (zs.length = nz)) (hna : na < 1000000) (hnz : nz < 1000000) (hQ : Q < 9223372036854775808) (r : Bool) (hr : Hid (JO P Q G C ys rows al zs = r)) (w : World) (hY : Hid (Sl w Y ys)) (hB : Hid (Rw w B rows)) (hA : Hid (Sl w A al)) (hZ : Hid (Sl w Z zs)) :
  Calls Tryz.prog 52 #[gv P Q G, dm Y yn yc B bn bc, jR A na ca C Z nz cz] w (Rt w (.bool r)) := by
 cases hg : aP P Q G ys rows with
 | false =>
  obtain rfl : r = false := by rw [← hr.out, JO, hg]; rfl
  exact QB P Q G Y ys yn yc B rows bn bc A al na ca C Z zs nz cz hyn hbn iV hzn hna hnz hQ (aa hg) w hY hB hA hZ
 | true =>
  have he : bn = yn := by rw [← hbn.out, ← hyn.out]; exact (ak hg).2.2.2.1
  subst he
  have hr' : bN P Q C ys rows al zs = r := by rw [← hr.out, JO, hg]; rfl
  by_cases h1 : na = bn
  ·
   by_cases h2 : nz = aU rows
   ·
    cases h3 : zs.all (cu Q) with
    | false =>
     obtain rfl : r = false := by rw [← hr']; unfold bN; rw [h3]; simp
     exact QE P Q G Y ys bn yc B rows bc A al na ca C Z zs nz cz (aa hg) hyn hbn iV hzn hna hnz hQ h1 h2 (aa h3) w hY hB hA hZ
    | true =>
     cases h4 : cu Q C with
     | false =>
      obtain rfl : r = false := by rw [← hr']; unfold bN; rw [h4]; simp
      exact QD P Q G Y ys bn yc B rows bc A al na ca C Z zs nz cz (aa hg) hyn hbn iV hzn hna hnz hQ h1 h2 (aa h3) h4 w hY hB hA hZ
     | true => exact QC P Q G Y ys bn yc B rows bc A al na ca C Z zs nz cz (aa hg) hyn hbn iV hzn hna hnz hQ h1 h2 (aa h3) h4 r (aa hr') w hY hB hA hZ
   ·
    obtain rfl : r = false := by rw [← hr']; unfold bN; rw [hzn.out, decide_eq_false h2]; simp
    exact QF P Q G Y ys bn yc B rows bc A al na ca C Z zs nz cz (aa hg) hyn hbn iV hzn hna hnz hQ h1 h2 w hY hB hA hZ
  ·
   obtain rfl : r = false := by rw [← hr']; unfold bN; rw [iV.out, hbn.out, decide_eq_false h1]; simp
   exact QG P Q G Y ys bn yc B rows bc A al na ca C Z zs nz cz (aa hg) hyn hbn iV hzn hna hnz hQ h1 w hY hB hA hZ
theorem Ik {Q n : Int} {ks xs : List Int} {m : Nat} (hQ : 1 ≤ Q) : (lI Q n ks xs m).all (cu Q) = true := by
 rw [List.all_eq_true]
 intro z hz
 simp only [lI, List.mem_map] at hz
 obtain ⟨i, _, rfl⟩ := hz
 have h0 := Int.emod_nonneg (ks.getD i 0 + n * xs.getD i 0 % Q) (show Q ≠ 0 by omega)
 have h1 := Int.emod_lt_of_pos (ks.getD i 0 + n * xs.getD i 0 % Q) (show 0 < Q by omega)
 simp only [cu, Bool.and_eq_true, decide_eq_true_eq]
 exact ⟨h0, h1⟩
theorem MB {P Q G : Int} {ys : List Int} {rows : List Row} {ls os : List Int} (h1 : aP P Q G ys rows = true) (h2 : ls.length = aU rows) (h3 : ls.all (cu Q) = true) (h4 : os.all (cu Q) = true) : p9 P Q G ys rows ls os = 0 := by
 unfold p9
 rw [if_pos h1, if_pos h2, if_pos h3, if_pos h4]
end Go.Proofs.YtbljkkpnpcgjfaaGreatDoor