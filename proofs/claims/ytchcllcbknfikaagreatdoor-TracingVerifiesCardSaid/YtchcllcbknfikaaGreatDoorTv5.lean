/- Contracts and lemmas: TrC, TrD, TrE, TrF, TrG, TrH, DrA, DrC, Two, TruD, Cmb, LcA, LcB, LinG, LinI, LinJ, LinK, LinO. -/
import Derived.Laws.AppendOwnNone
import Derived.Deep.AppendLies
import Derived.Deep.MidRow
import Derived.Test.YtchcllcbknfikaaGreatDoorTv4
set_option linter.unusedVariables false
set_option linter.unusedSimpArgs false
set_option maxRecDepth 100000
set_option maxHeartbeats 25600000
namespace Go.Proofs.YtchcllcbknfikaaGreatDoor
open Go.RowKit rQ
theorem qP {w : World} {base : Nat} {v : Value} {cs : List Ic} {l : List It} {n : Nat} (h : dM w base v cs) (hc : cs.length = n) (hl : l.length = n) (hpos : 0 < n) (hr : ∀ k, k < n → nO w (l.getD k default) (cs.getD k default)) :
  ∃ g cap, v = .slice (some ⟨g, 0, none⟩) n cap ∧ nO w (.lst l) ⟨3, 0, none, 0, 0, some ⟨g, 0, none⟩, n, cap⟩ := by
 obtain ⟨g, cap, e, _, _, hf⟩ := h.four (by omega)
 rw [hc] at e hf
 exact ⟨g, cap, e, .lst l _ rfl rfl rfl hl.symm (fun k => cs.getD k default) (fun k hk => ⟨g, 0, rfl, hf k (by omega)⟩) (fun k hk => hr k (by omega))⟩
def aL (A : Option Addr) (n c : Nat) : Ic := ⟨2, 0, A, n, c, none, 0, 0⟩
theorem iY {w : World} {A : Option Addr} {n c : Nat} {b : List Int} (h : Sk .u8 w A b) (hn : b.length = n) : nO w (.byt b) (aL A n c) := .byt b _ rfl rfl hn.symm rfl h
theorem uE (w : World) (a b : Ic) : dM (w.alloc (.cells #[.int .i64 a.kind, .int .i64 a.n, .slice a.B a.nb a.cb, .slice a.L a.nl a.cl, .int .i64 b.kind, .int .i64 b.n, .slice b.B b.nb b.cb, .slice b.L b.nl b.cl] 117)) w.heap.size (.slice (some ⟨w.heap.size, 0, none⟩) 2 2) [a, b] :=
 ⟨rfl, Or.inr ⟨w.heap.size, 2, _, rfl, Nat.le_refl _, heap_alloc_new _ _, Nat.le_refl _, by decide, rfl, rfl⟩⟩
theorem Ay {w : World} {b : Nat} {c : Ic} (h : Four w b 0 c) (j : Nat) (u : Value) (hj : (aS c)[j]? = some u) : w.cell? ((⟨b, 0, none⟩ : Addr).add j) = some u := by
 obtain ⟨h0, h1, h2, h3⟩ := h
 match j, hj with
 | 0, e => simp [aS] at e; subst e; exact h0
 | 1, e => simp [aS] at e; subst e; exact h1
 | 2, e => simp [aS] at e; subst e; exact h2
 | 3, e => simp [aS] at e; subst e; exact h3
 | j + 4, e => simp [aS] at e
theorem sj (c : Ic) : ∀ u ∈ aS c, u.oneCell' = true := by
 intro u hu
 simp [aS] at hu
 rcases hu with rfl | rfl | rfl | rfl <;> rfl
theorem Fa {K : IntKind} {w w' : World} {B b : Nat} {l : List Int} (h : Sk K w (some ⟨b, 0, none⟩) l) (hb : Below B w w') (hl : b < B) : Sk K w' (some ⟨b, 0, none⟩) l := by
 intro j hj
 obtain ⟨b1, o, e, hc⟩ := h j hj
 injection e with e
 injection e with e1 e2 e3
 subst e1
 subst e2
 exact ⟨b, 0, rfl, (hb.cell (p := ⟨b, 0 + j, none⟩) hl).trans hc⟩
theorem Jy (tg : ByteArray) (ht1 : 1 ≤ tg.size) (ht2 : tg.size ≤ 100) (h : List Int) (hl : Hid (h.length = 32)) (hb : Hid (az h = true)) (c : Int) (s : ByteArray) (hs0 : 1 ≤ s.size) (hs : s.size ≤ 1000) (w : World) (hv : Hid (bF w)) :
  Calls Tryz.prog 263 #[.string tg, .agg (di h c), .string s, .slice none 0 0] w (Rt w (lF (tagged (aU tg) (enc (.lst [.byt h, .byt (aU s)]))))) := by
 obtain ⟨i0, hi, hz0, hz1, hz2⟩ := info_parts iV
 obtain ⟨RR, hRR⟩ : ∃ R, tagged (aU tg) (enc (.lst [.byt h, .byt (aU s)])) = R := ⟨_, rfl⟩
 rw [hRR]
 have Nv : Kp (tagged (aU tg) (enc (.lst [.byt h, .byt (aU s)])) = RR) := ⟨hRR⟩
 clear hRR
 obtain ⟨W, hW⟩ : ∃ W, (w.alloc (.cells (di h c) 237)).alloc (.cells z32 41) = W := ⟨_, rfl⟩
 have bQ : Hid (Below w.heap.size w W) := aa (by rw [← hW]; exact aI (Below.refl _ _))
 have HT0 : Hid (dK W w.heap.size h c) := aa (by rw [← hW]; exact heap_alloc2_old _ _ _)
 have ek : Hid (bB .u8 41 W (w.heap.size + 1) (dD 32)) := aa (by rw [← hW, iP]; exact heap_alloc2_new _ _ _)
 have lG : Hid (W.heap.size = w.heap.size + 2) := aa (by rw [← hW]; simp)
 have HV := aa (hv.out.below bQ.out)
 have HW := aa hW
 have hcv := fun w => run_bytes_of_string (P := Tryz.prog) w 9 114 5 s Tryz.underlying9 Tryz.underlying114 Tryz.underlying5
 clear hW hv
 go_in
 go_upto_region 1 with (fail)
 rw [HW.out]
 go_upto_region 2 with (fail)
 clear hcv HW
 obtain ⟨gc, hgc⟩ : ∃ g, grownCap W s.size 0 5 = g := ⟨_, rfl⟩
 rw [hgc]
 obtain ⟨Wc, hWc⟩ : ∃ u, W.alloc (.cells (bytesRow s gc) 5 ((bytesRow s gc).size, (bytesRow s gc).size + 1)) = u := ⟨_, rfl⟩
 rw [hWc]
 have sM : Hid (Below W.heap.size W Wc) := aa (by rw [← hWc]; exact af _ _)
 have HSc : Hid (Sk .u8 Wc (some ⟨W.heap.size, 0, none⟩) (aU s)) := aa (by rw [← hWc]; exact lu (heap_alloc_new W _))
 have EK : Hid (Wc.heap.size = W.heap.size + 1) := aa (by rw [← hWc]; simp)
 obtain ⟨W2, hW2⟩ : ∃ u, (Wc.alloc (.cells #[.int .i64 2, .int .i64 0, .slice (some ⟨w.heap.size, 0, none⟩) 32 32, .slice none 0 0, .int .i64 2, .int .i64 0, .slice (some ⟨W.heap.size, 0, none⟩) s.size gc, .slice none 0 0] 117)).drew = u := ⟨_, rfl⟩
 have qA : Hid (dM W2 Wc.heap.size (.slice (some ⟨W.heap.size + 1, 0, none⟩) 2 2) [aL (some ⟨w.heap.size, 0, none⟩) 32 32, aL (some ⟨W.heap.size, 0, none⟩) s.size gc]) := aa (by
  rw [← hW2]
  have h := (uE Wc (aL (some ⟨w.heap.size, 0, none⟩) 32 32) (aL (some ⟨W.heap.size, 0, none⟩) s.size gc)).keep (Below.refl _ _).drew
  rw [EK.out] at h ⊢
  exact h)
 have HB2 : Hid (Below W.heap.size W W2) := aa (ag sM.out (by rw [← hW2]; exact (af _ _).drew))
 have HS2 : Hid (Sk .u8 W2 (some ⟨W.heap.size, 0, none⟩) (aU s)) := aa (HSc.out.below (by rw [← hW2]; exact (af _ _).drew))
 have Zi : Wc.heap.size < W2.heap.size := by rw [← hW2]; simp
 rw [hW2]
 clear hW2 hWc hgc HSc sM
 have hrow : W2.ownsRow Wc.heap.size 117 4 (.slice (some ⟨W.heap.size + 1, 0, none⟩) 2 2) 2 ([aL (some ⟨w.heap.size, 0, none⟩) 32 32, aL (some ⟨W.heap.size, 0, none⟩) s.size gc].flatMap aS) := qA.out
 have aax := hs
 go_wp2_with (at_builtin; refine wpList_append_own_none rfl _ _ 115 rfl Wc.heap.size 117 i0 4 Tryz.underlying115 hi _ _ _ rfl hrow rfl ?_)
 have ND : Hid (∃ g cap, (Value.slice (some ⟨W.heap.size + 1, 0, none⟩) 2 2) = .slice (some ⟨g, 0, none⟩) 2 cap ∧ nO W2 (.lst [.byt h, .byt (aU s)]) ⟨3, 0, none, 0, 0, some ⟨g, 0, none⟩, 2, cap⟩) := aa (qP qA.out rfl rfl (by decide) (fun k hk => by
  rcases (show k = 0 ∨ k = 1 by omega) with rfl | rfl
  · exact iY (HT0.out.below HB2.out).sk hl.out
  · exact iY HS2.out (bz s)))
 obtain ⟨g3, mV, e3, hit⟩ := ND.out
 simp only [Value.slice.injEq, Option.some.injEq, Addr.mk.injEq] at e3
 obtain ⟨⟨rfl, -⟩, -, rfl⟩ := e3
 have HIT := aa hit
 have HB3 := HB2
 have jC : Hid (fits 8 (.lst [.byt h, .byt (aU s)])) := aa (by
  refine ⟨by simp, fun x hx => ?_⟩
  rcases (by simpa using hx : x = .byt h ∨ x = .byt (aU s)) with rfl | rfl
  · exact ⟨⟨by rw [hl.out]; decide, by rw [hl.out]; decide⟩, hb.out⟩
  · exact ⟨⟨by rw [bz]; omega, by rw [bz]; omega⟩, iM s⟩)
 have HLEN : Hid ((enc (.lst [.byt h, .byt (aU s)])).length ≤ 16384) := aa (by
  rw [eH]
  simp only [eZ, h_, List.length_cons, List.length_append, dV, hl.out, bz, List.length_nil]
  omega)
 clear hit ND hrow
 rw [show (Value.agg #[.int .i64 3, .int .i64 0, .slice none 0 0, .slice (some ⟨W.heap.size + 1, 0, none⟩) 2 2]) = (Ic.mk 3 0 none 0 0 (some ⟨W.heap.size + 1, 0, none⟩) 2 2).val from rfl]
 refine (tK _ _ _ jC.out HIT.out HLEN.out).mono ?_
 rintro e w4 ⟨v4, rfl, zI, hb4⟩
 obtain ⟨E, hE⟩ : ∃ E, enc (.lst [.byt h, .byt (aU s)]) = E := ⟨_, rfl⟩
 have JR : Hid (az E = true) := aa (by rw [← hE]; exact jO jC.out)
 have vC : Hid (0 < E.length ∧ E.length ≤ 16384) := aa (by rw [← hE]; exact ⟨nD _, HLEN.out⟩)
 rw [hE] at zI
 obtain ⟨g4, cap4, e4, hg4, -, -, qR⟩ := zI.cells vC.out.1
 obtain ⟨n4, Mk⟩ : ∃ n, E.length = n := ⟨_, rfl⟩
 rw [Mk] at e4 vC
 subst e4
 have XH := aa Mk
 have xU := aa qR
 have jF := aa (ag HB3.out hb4)
 have GG : Kp (enc (.lst [.byt h, .byt (aU s)]) = E) := ⟨hE⟩
 clear hE qR zI hb4 Mk HIT HLEN jC
 obtain ⟨he0, he1⟩ := vC.out
 go_wp2_with fail
 refine (o8 tg ht1 ht2 g4 0 cap4 E n4 XH he0 (by omega) JR _ xU (aa (HV.out.below jF.out))).mono ?_
 rintro e w5 ⟨rfl, hb5⟩
 have l8 := aa (ag jF.out hb5)
 obtain ⟨R, hR⟩ : ∃ R, tagged (aU tg) E = R := ⟨_, rfl⟩
 have fo : Hid (R.length = 32) := aa (by rw [← hR]; exact dF _ _)
 have hRe : RR = R := by rw [← Nv.1, GG.1, hR]
 subst hRe
 rw [hR, show lF RR = .tuple #[.agg (arr .u8 RR), .int .i64 0] from rfl]
 clear hb5 hR xU jF
 have tO : Hid (bB .u8 41 w5 (w.heap.size + 1) (dD 32)) := aa (ek.out.below l8.out)
 go_wp2_with ((with_reducible show wpList _ _ _ (⟨none, _, _, _, _, _⟩ :: _) _ _); refine wpList_store_row rfl 41 _ _ rfl (w.heap.size + 1) (arr .u8 RR) rfl rfl _ _ tO.out (ax fo.out) (dY (l := dD 32) rfl fo.out) (cu _) ?_)
 have HRR : Hid (bB .u8 41 (w5.setRow (w.heap.size + 1) (arr .u8 RR)) (w.heap.size + 1) RR) := aa tO.out.setRow
 have fA : Below w.heap.size w (w5.setRow (w.heap.size + 1) (arr .u8 RR)) := aj (ag bQ.out l8.out) (Nat.le_succ _)
 exact bodyPost_ret (v := lF RR) (cK (p := 8) (q := 9) (ty := 41) rfl _ _ ⟨w.heap.size + 1, 0, none⟩ _ _ rfl rfl (run_loadVar_row _ _ _ _ _ _ _ HRR.out Tryz.underlying41 rfl (ax fo.out))) rfl ⟨rfl, fA⟩
theorem Jw (tg : ByteArray) (ht1 : 1 ≤ tg.size) (ht2 : tg.size ≤ 100) (h : List Int) (hl : Hid (h.length = 32)) (hb : Hid (az h = true)) (c : Int) (s : ByteArray) (hs0 : 1 ≤ s.size) (hs : s.size ≤ 1000) (item : It) (cI : Ic) (gm cm : Nat) (w : World) (hv : Hid (bF w)) (hF : Hid (Four w gm 0 cI)) (hI : Hid (nO w item cI)) (hfi : Hid (fits 7 item)) (hle : Hid ((enc item).length ≤ 14000)) :
  Calls Tryz.prog 263 #[.string tg, .agg (di h c), .string s, .slice (some ⟨gm, 0, none⟩) 1 cm] w (Rt w (lF (tagged (aU tg) (enc (.lst [.byt h, .byt (aU s), item]))))) := by
 obtain ⟨i0, hi, hz0, hz1, hz2⟩ := info_parts iV
 obtain ⟨RR, hRR⟩ : ∃ R, tagged (aU tg) (enc (.lst [.byt h, .byt (aU s), item])) = R := ⟨_, rfl⟩
 rw [hRR]
 have Nv : Kp (tagged (aU tg) (enc (.lst [.byt h, .byt (aU s), item])) = RR) := ⟨hRR⟩
 clear hRR
 obtain ⟨W, hW⟩ : ∃ W, (w.alloc (.cells (di h c) 237)).alloc (.cells z32 41) = W := ⟨_, rfl⟩
 have bQ : Hid (Below w.heap.size w W) := aa (by rw [← hW]; exact aI (Below.refl _ _))
 have HT0 : Hid (dK W w.heap.size h c) := aa (by rw [← hW]; exact heap_alloc2_old _ _ _)
 have ek : Hid (bB .u8 41 W (w.heap.size + 1) (dD 32)) := aa (by rw [← hW, iP]; exact heap_alloc2_new _ _ _)
 have lG : Hid (W.heap.size = w.heap.size + 2) := aa (by rw [← hW]; simp)
 have HV := aa (hv.out.below bQ.out)
 have HW := aa hW
 have hcv := fun w => run_bytes_of_string (P := Tryz.prog) w 9 114 5 s Tryz.underlying9 Tryz.underlying114 Tryz.underlying5
 clear hW hv
 go_in
 go_upto_region 1 with (fail)
 rw [HW.out]
 go_upto_region 2 with (fail)
 clear hcv HW
 obtain ⟨gc, hgc⟩ : ∃ g, grownCap W s.size 0 5 = g := ⟨_, rfl⟩
 rw [hgc]
 obtain ⟨Wc, hWc⟩ : ∃ u, W.alloc (.cells (bytesRow s gc) 5 ((bytesRow s gc).size, (bytesRow s gc).size + 1)) = u := ⟨_, rfl⟩
 rw [hWc]
 have sM : Hid (Below W.heap.size W Wc) := aa (by rw [← hWc]; exact af _ _)
 have HSc : Hid (Sk .u8 Wc (some ⟨W.heap.size, 0, none⟩) (aU s)) := aa (by rw [← hWc]; exact lu (heap_alloc_new W _))
 have EK : Hid (Wc.heap.size = W.heap.size + 1) := aa (by rw [← hWc]; simp)
 obtain ⟨W2, hW2⟩ : ∃ u, (Wc.alloc (.cells #[.int .i64 2, .int .i64 0, .slice (some ⟨w.heap.size, 0, none⟩) 32 32, .slice none 0 0, .int .i64 2, .int .i64 0, .slice (some ⟨W.heap.size, 0, none⟩) s.size gc, .slice none 0 0] 117)).drew = u := ⟨_, rfl⟩
 have qA : Hid (dM W2 Wc.heap.size (.slice (some ⟨W.heap.size + 1, 0, none⟩) 2 2) [aL (some ⟨w.heap.size, 0, none⟩) 32 32, aL (some ⟨W.heap.size, 0, none⟩) s.size gc]) := aa (by
  rw [← hW2]
  have h := (uE Wc (aL (some ⟨w.heap.size, 0, none⟩) 32 32) (aL (some ⟨W.heap.size, 0, none⟩) s.size gc)).keep (Below.refl _ _).drew
  rw [EK.out] at h ⊢
  exact h)
 have HB2 : Hid (Below W.heap.size W W2) := aa (ag sM.out (by rw [← hW2]; exact (af _ _).drew))
 have HS2 : Hid (Sk .u8 W2 (some ⟨W.heap.size, 0, none⟩) (aU s)) := aa (HSc.out.below (by rw [← hW2]; exact (af _ _).drew))
 have Zi : Wc.heap.size < W2.heap.size := by rw [← hW2]; simp
 rw [hW2]
 clear hW2 hWc hgc HSc sM
 have hrow : W2.ownsRow Wc.heap.size 117 4 (.slice (some ⟨W.heap.size + 1, 0, none⟩) 2 2) 2 ([aL (some ⟨w.heap.size, 0, none⟩) 32 32, aL (some ⟨W.heap.size, 0, none⟩) s.size gc].flatMap aS) := qA.out
 have aax := hs
 have U6 : Hid (Four W2 gm 0 cI) := aa ((hF.out.below bQ.out).below HB2.out)
 have HI2 : Hid (nO W2 item cI) := aa ((hI.out.kept bQ.out).kept HB2.out)
 have rY : Wc.heap.size ≤ W2.heap.size := by omega
 have b1 : 2 + 1 ≤ maxLen := by unfold maxLen; omega
 have b2 : (2 + 1) * 64 ≤ 140737488355328 := by omega
 have XC : ∀ (j : Nat) (u : Value), (aS cI)[j]? = some u → W2.cell? ((⟨gm, 0, none⟩ : Addr).add j) = some u := Ay U6.out
 go_wp2_with (at_builtin; refine wpList_append_lies rfl _ _ 115 rfl Wc.heap.size 117 i0 (.agg #[.int .i64 0, .int .i64 0, .slice none 0 0, .slice none 0 0]) 4 64 Tryz.underlying115 hi hz0 hz1 hz2 rfl (by decide) _ _ _ rfl hrow ⟨gm, 0, none⟩ 1 cm (aS cI) rfl rfl XC (sj cI) (by decide) b1 b2 rY _ rfl ?_; intro g3 mV w3 hown3 hgrow3 Td hlt3)
 have HB3 : Hid (Below W.heap.size W w3) := aa (HB2.out.grown hgrow3 (by have := EK.out; omega) (fun j hj => by have := EK.out; have := (World.ownsRow.lt hrow j hj).1; omega))
 have NJ : Hid (Below (W.heap.size + 1) W2 w3) := aa ((Below.refl _ _).grown hgrow3 (by have := EK.out; omega) (fun j hj => by have := EK.out; have := (World.ownsRow.lt hrow j hj).1; omega))
 have lU : Hid (dM w3 Wc.heap.size (.slice (some ⟨g3, 0, none⟩) 3 mV) [aL (some ⟨w.heap.size, 0, none⟩) 32 32, aL (some ⟨W.heap.size, 0, none⟩) s.size gc, cI]) := aa hown3
 have ND : Hid (∃ g cap, (Value.slice (some ⟨g3, 0, none⟩) 3 mV) = .slice (some ⟨g, 0, none⟩) 3 cap ∧ nO w3 (.lst [.byt h, .byt (aU s), item]) ⟨3, 0, none, 0, 0, some ⟨g, 0, none⟩, 3, cap⟩) := aa (qP lU.out rfl rfl (by decide) (fun k hk => by
  rcases (show k = 0 ∨ k = 1 ∨ k = 2 by omega) with rfl | rfl | rfl
  · exact iY (HT0.out.below HB3.out).sk hl.out
  · exact iY (Fa HS2.out NJ.out (by omega)) (bz s)
  · exact ((hI.out.kept bQ.out).kept HB3.out)))
 obtain ⟨g, cap, e3, hit⟩ := ND.out
 simp only [Value.slice.injEq, Option.some.injEq, Addr.mk.injEq] at e3
 obtain ⟨⟨rfl, -⟩, -, rfl⟩ := e3
 have HIT := aa hit
 have jC : Hid (fits 8 (.lst [.byt h, .byt (aU s), item])) := aa (by
  refine ⟨by simp, fun x hx => ?_⟩
  rcases (by simpa using hx : x = .byt h ∨ x = .byt (aU s) ∨ x = item) with rfl | rfl | rfl
  · exact ⟨⟨by rw [hl.out]; decide, by rw [hl.out]; decide⟩, hb.out⟩
  · exact ⟨⟨by rw [bz]; omega, by rw [bz]; omega⟩, iM s⟩
  · exact hfi.out)
 have HLEN : Hid ((enc (.lst [.byt h, .byt (aU s), item])).length ≤ 16384) := aa (by
  have := hle.out
  rw [eH]
  simp only [eZ, h_, List.length_cons, List.length_append, dV, hl.out, bz, List.length_nil]
  omega)
 clear hit ND hrow lU hown3 hgrow3 Td hlt3 XC U6 HI2 NJ
 rw [show (Value.agg #[.int .i64 3, .int .i64 0, .slice none 0 0, .slice (some ⟨g3, 0, none⟩) 3 mV]) = (Ic.mk 3 0 none 0 0 (some ⟨g3, 0, none⟩) 3 mV).val from rfl]
 refine (tK _ _ _ jC.out HIT.out HLEN.out).mono ?_
 rintro e w4 ⟨v4, rfl, zI, hb4⟩
 obtain ⟨E, hE⟩ : ∃ E, enc (.lst [.byt h, .byt (aU s), item]) = E := ⟨_, rfl⟩
 have JR : Hid (az E = true) := aa (by rw [← hE]; exact jO jC.out)
 have vC : Hid (0 < E.length ∧ E.length ≤ 16384) := aa (by rw [← hE]; exact ⟨nD _, HLEN.out⟩)
 rw [hE] at zI
 obtain ⟨g4, cap4, e4, hg4, -, -, qR⟩ := zI.cells vC.out.1
 obtain ⟨n4, Mk⟩ : ∃ n, E.length = n := ⟨_, rfl⟩
 rw [Mk] at e4 vC
 subst e4
 have XH := aa Mk
 have xU := aa qR
 have jF := aa (ag HB3.out hb4)
 have GG : Kp (enc (.lst [.byt h, .byt (aU s), item]) = E) := ⟨hE⟩
 clear hE qR zI hb4 Mk HIT HLEN jC
 obtain ⟨he0, he1⟩ := vC.out
 go_wp2_with fail
 refine (o8 tg ht1 ht2 g4 0 cap4 E n4 XH he0 (by omega) JR _ xU (aa (HV.out.below jF.out))).mono ?_
 rintro e w5 ⟨rfl, hb5⟩
 have l8 := aa (ag jF.out hb5)
 obtain ⟨R, hR⟩ : ∃ R, tagged (aU tg) E = R := ⟨_, rfl⟩
 have fo : Hid (R.length = 32) := aa (by rw [← hR]; exact dF _ _)
 have hRe : RR = R := by rw [← Nv.1, GG.1, hR]
 subst hRe
 rw [hR, show lF RR = .tuple #[.agg (arr .u8 RR), .int .i64 0] from rfl]
 clear hb5 hR xU jF
 have tO : Hid (bB .u8 41 w5 (w.heap.size + 1) (dD 32)) := aa (ek.out.below l8.out)
 go_wp2_with ((with_reducible show wpList _ _ _ (⟨none, _, _, _, _, _⟩ :: _) _ _); refine wpList_store_row rfl 41 _ _ rfl (w.heap.size + 1) (arr .u8 RR) rfl rfl _ _ tO.out (ax fo.out) (dY (l := dD 32) rfl fo.out) (cu _) ?_)
 have HRR : Hid (bB .u8 41 (w5.setRow (w.heap.size + 1) (arr .u8 RR)) (w.heap.size + 1) RR) := aa tO.out.setRow
 have fA : Below w.heap.size w (w5.setRow (w.heap.size + 1) (arr .u8 RR)) := aj (ag bQ.out l8.out) (Nat.le_succ _)
 exact bodyPost_ret (v := lF RR) (cK (p := 8) (q := 9) (ty := 41) rfl _ _ ⟨w.heap.size + 1, 0, none⟩ _ _ rfl rfl (run_loadVar_row _ _ _ _ _ _ _ HRR.out Tryz.underlying41 rfl (ax fo.out))) rfl ⟨rfl, fA⟩
def C8 : ByteArray := { data := #[115, 112, 101, 99, 105, 101, 47, 97, 98, 115, 111, 114, 98] }
def EC (h s : List Int) (i : It) : List Int := tagged (aU C8) (enc (.lst [.byt h, .byt s, i]))
theorem nG (h s : List Int) (i : It) : (EC h s i).length = 32 := dF _ _
theorem pR {w : World} {b : Nat} {c : Ic} {t : TypeId} (h : w.heap[b]? = some (.cells #[.int .i64 c.kind, .int .i64 c.n, .slice c.B c.nb c.cb, .slice c.L c.nl c.cl] t)) : Four w b 0 c :=
 ⟨ak h 0, ak h 1, ak h 2, ak h 3⟩
theorem yw (h : List Int) (hl : Hid (h.length = 32)) (hb : Hid (az h = true)) (c : Int) (hc0 : 0 ≤ c) (hc1 : c < 1000) (s : ByteArray) (hs : s.size ≤ 1000) (hr : Hid (gI (aU s) = true)) (item : It) (cI : Ic) (w : World) (hv : Hid (bF w)) (hI : Hid (nO w item cI)) (hfi : Hid (fits 7 item)) (hle : Hid ((enc item).length ≤ 14000)) :
  Calls Tryz.prog 261 #[.agg (di h c), .string s, .agg #[.int .i64 cI.kind, .int .i64 cI.n, .slice cI.B cI.nb cI.cb, .slice cI.L cI.nl cI.cl]] w (Rt w (xR (EC h (aU s) item) (c + 1) 0)) := by
 have hs0 : 1 ≤ s.size := by
  have h := hr.out
  rw [gI, bz] at h
  simp at h
  exact h.1.1
 obtain ⟨i0, hi, hz0, hz1, hz2⟩ := info_parts iV
 obtain ⟨W, hW⟩ : ∃ W, ((w.alloc (.cells (di h c) 237)).alloc (.cells #[.int .i64 cI.kind, .int .i64 cI.n, .slice cI.B cI.nb cI.cb, .slice cI.L cI.nl cI.cl] 117)).alloc (.cells #[.int .u8 0, .int .u8 0, .int .u8 0, .int .u8 0, .int .u8 0, .int .u8 0, .int .u8 0, .int .u8 0, .int .u8 0, .int .u8 0, .int .u8 0, .int .u8 0, .int .u8 0, .int .u8 0, .int .u8 0, .int .u8 0, .int .u8 0, .int .u8 0, .int .u8 0, .int .u8 0, .int .u8 0, .int .u8 0, .int .u8 0, .int .u8 0, .int .u8 0, .int .u8 0, .int .u8 0, .int .u8 0, .int .u8 0, .int .u8 0, .int .u8 0, .int .u8 0, .int .i64 0] 237) = W := ⟨_, rfl⟩
 have bQ : Hid (Below w.heap.size w W) := aa (by rw [← hW]; exact ag (aI (Below.refl _ _)) (af _ _))
 have HT0 : Hid (dK W w.heap.size h c) := aa (by rw [← hW]; exact ((dK.new _ _ _).below (af _ _)).below (af _ _))
 have XR : Hid (W.heap[w.heap.size + 1]? = some (.cells #[.int .i64 cI.kind, .int .i64 cI.n, .slice cI.B cI.nb cI.cb, .slice cI.L cI.nl cI.cl] 117 (0, 0))) := aa (by rw [← hW, ← (show (w.alloc (.cells (di h c) 237)).heap.size = w.heap.size + 1 by simp)]; exact heap_alloc2_old _ _ _)
 have ek : Hid (dK W (w.heap.size + 1 + 1) (dD 32) 0) := aa (by rw [← hW, II, show w.heap.size + 1 + 1 = (w.alloc (.cells (di h c) 237)).heap.size + 1 by simp]; exact heap_alloc2_new _ _ _)
 have lG : Hid (W.heap.size = w.heap.size + 3) := aa (by rw [← hW]; simp)
 have HV := aa (hv.out.below bQ.out)
 have XN := aa (hI.out.kept bQ.out)
 have HW := aa hW
 clear hW hv
 go_in
 go_upto_region 1 with (fail)
 rw [HW.out]
 clear HW
 go_wp2_with ((with_reducible show wpList _ _ _ (⟨some 10, _, _, _, _, _⟩ :: _) _ _); refine wpList_load_row rfl 237 _ rfl w.heap.size rfl _ _ _ _ HT0.out Tryz.underlying237 rfl (aO hl.out) ?_)
 refine (yt h hl c hc0 (by omega) _).mono ?_
 rintro e w1 ⟨rfl, hb1⟩
 have HB1 := aa (ag bQ.out hb1)
 have HT1 := aa (HT0.out.below hb1)
 have HI1 := aa (XN.out.kept hb1)
 have ry := aa (HV.out.below hb1)
 have HR1 := aa (ek.out.below hb1)
 have XQ : Hid (Four w1 (w.heap.size + 1) 0 cI) := aa (pR ((hb1.block _ (by have := lG.out; omega)).trans XR.out))
 clear hb1 HT0 XN HV ek XR bQ
 go_wp2_with fail
 refine (o7 s hs true hr _).mono ?_
 rintro e w2 ⟨rfl, hb2⟩
 have HT2 := aa (HT1.out.below hb2)
 have HI2 := aa (HI1.out.kept hb2)
 have xq := aa (ry.out.below hb2)
 have HR2 := aa (HR1.out.below hb2)
 have XP := aa (XQ.out.below hb2)
 have HB2 := aa (ag HB1.out hb2)
 clear hb2 HT1 HI1 ry HR1 XQ HB1
 obtain ⟨f0, f1, f2, f3⟩ := XP.out
 go_wp2_with ((with_reducible show wpList _ _ _ (⟨some 20, _, _, _, _, _⟩ :: _) _ _); refine wpList_load_row rfl 237 _ rfl w.heap.size rfl _ _ _ _ HT2.out Tryz.underlying237 rfl (aO hl.out) ?_)
 clear f0 f1 f2 f3
 obtain ⟨W3, hW3⟩ : ∃ u, w2.alloc (.cells #[.int .i64 cI.kind, .int .i64 cI.n, .slice cI.B cI.nb cI.cb, .slice cI.L cI.nl cI.cl] 117) = u := ⟨_, rfl⟩
 have XY : Hid (Four W3 w2.heap.size 0 cI) := aa (by rw [← hW3]; exact pR (heap_alloc_new _ _))
 have hb3 : Below w2.heap.size w2 W3 := by rw [← hW3]; exact af _ _
 rw [hW3]
 have HI3 := aa (HI2.out.kept hb3)
 have xm := aa (xq.out.below hb3)
 refine (Jw C8 (by decide) (by decide) h hl hb c s hs0 hs item cI w2.heap.size 1 W3 xm XY HI3 hfi hle).mono ?_
 rintro e w4 ⟨rfl, hb4⟩
 have JN := aa ((HT2.out.below hb3).below hb4)
 have HR4 := aa ((HR2.out.below hb3).below hb4)
 have jF := aa (ag (ag HB2.out hb3) hb4)
 obtain ⟨R, hR⟩ : ∃ R, tagged (aU C8) (enc (.lst [.byt h, .byt (aU s), item])) = R := ⟨_, rfl⟩
 have hRl : R.length = 32 := by rw [← hR]; exact dF _ _
 have HN : Kp (EC h (aU s) item = R) := ⟨hR⟩
 have fo := aa hRl
 rw [hR, show lF R = .tuple #[.agg (arr .u8 R), .int .i64 0] from rfl]
 clear hb3 hb4 hW3 XY HI3 xm HT2 HI2 xq HR2 HB2 XP hR hRl
 go_upto_region 4 with ((with_reducible show wpList _ _ _ (⟨none, _, _, _, _, _⟩ :: _) _ _); refine wpList_store_row rfl 41 _ _ rfl w4.heap.size (arr .u8 R) rfl rfl _ _ (heap_alloc_new _ _) (ax fo.out) (dY (l := dD 32) rfl fo.out) (cu _) ?_)
 rw [World.setRow_alloc_new]
 try simp only [Act.put]
 have XM : Hid (bB .u8 41 (w4.alloc (.cells (arr .u8 R) 41)) w4.heap.size R) := aa (bB.new _ _)
 have NR := aa (JN.out.below (af w4 (.cells (arr .u8 R) 41)))
 have tO := aa (HR4.out.below (af w4 (.cells (arr .u8 R) 41)))
 have l8 := aa (ag jF.out (af w4 (.cells (arr .u8 R) 41)))
 obtain ⟨W5, Mt⟩ : ∃ u, w4.alloc (.cells (arr .u8 R) 41) = u := ⟨_, rfl⟩
 rw [Mt] at XM NR tO l8 ⊢
 clear Mt
 have hcnt := NR.out.count hl.out
 have hcn : ¬ (c = 1000) := by omega
 have hwr : IntKind.i64.wrap (c + 1) = c + 1 := IntWalk.i64_in _ (by omega)
 go_wp2_with (first
  | ((with_reducible show wpList _ _ _ (⟨some 40, _, _, _, _, _⟩ :: _) _ _); refine wpList_load_row rfl 41 _ rfl w4.heap.size rfl _ _ _ _ XM.out Tryz.underlying41 rfl (ax fo.out) ?_)
  | ((with_reducible show wpList _ _ _ (⟨some 44, _, _, _, _, _⟩ :: _) _ _); refine lK rfl 237 _ rfl _ (Nb R fo.out (c + 1)) ?_)
  | ((with_reducible show wpList _ _ _ (⟨none, _, _, _, _, _⟩ :: _) _ _); refine wpList_store_row rfl 237 _ _ rfl (w.heap.size + 1 + 1) (di R (c + 1)) rfl rfl _ _ tO.out (aO fo.out) (fq rfl fo.out) (dS _ _) ?_))
 have HRR : Hid (dK (W5.setRow (w.heap.size + 1 + 1) (di R (c + 1))) (w.heap.size + 1 + 1) R (c + 1)) := aa tO.out.setRow
 have fA : Below w.heap.size w (W5.setRow (w.heap.size + 1 + 1) (di R (c + 1))) := aj l8.out (by omega)
 exact bodyPost_ret (v := xR R (c + 1) 0) (cK (p := 6) (q := 7) (ty := 237) rfl _ _ ⟨w.heap.size + 1 + 1, 0, none⟩ _ _ rfl rfl (run_loadVar_row _ _ _ _ _ _ _ HRR.out Tryz.underlying237 rfl (aO fo.out))) rfl ⟨by rw [HN.out], fA⟩
theorem Kr (h : List Int) (hl : Hid (h.length = 32)) (hb : Hid (az h = true)) (c : Int) (hc0 : 0 ≤ c) (hc1 : c < 1000) (s : ByteArray) (hs : s.size ≤ 1000) (hr : Hid (gI (aU s) = true)) (A : Option Addr) (l : List Int) (n cA : Nat) (hn : Hid (l.length = n)) (hbig : n ≤ 1000) (w : World) (hv : Hid (bF w)) (hS : Hid (Sl w A l)) (hfi : Hid (fits 7 (.lst (l.map .int)))) (hle : Hid ((enc (.lst (l.map .int))).length ≤ 14000)) :
  Calls Tryz.prog 245 #[.agg (di h c), .string s, .slice A n cA] w (Rt w (xR (EC h (aU s) (.lst (l.map .int))) (c + 1) 0)) := by
 obtain ⟨W, hW⟩ : ∃ W, (w.alloc (.cells (di h c) 237)).alloc (.cells #[.int .u8 0, .int .u8 0, .int .u8 0, .int .u8 0, .int .u8 0, .int .u8 0, .int .u8 0, .int .u8 0, .int .u8 0, .int .u8 0, .int .u8 0, .int .u8 0, .int .u8 0, .int .u8 0, .int .u8 0, .int .u8 0, .int .u8 0, .int .u8 0, .int .u8 0, .int .u8 0, .int .u8 0, .int .u8 0, .int .u8 0, .int .u8 0, .int .u8 0, .int .u8 0, .int .u8 0, .int .u8 0, .int .u8 0, .int .u8 0, .int .u8 0, .int .u8 0, .int .i64 0] 237) = W := ⟨_, rfl⟩
 have bQ : Hid (Below w.heap.size w W) := aa (by rw [← hW]; exact aI (Below.refl _ _))
 have HT0 : Hid (dK W w.heap.size h c) := aa (by rw [← hW]; exact heap_alloc2_old _ _ _)
 have ek : Hid (dK W (w.heap.size + 1) (dD 32) 0) := aa (by rw [← hW, II]; exact heap_alloc2_new _ _ _)
 have HV := aa (hv.out.below bQ.out)
 have Uc := aa (hS.out.below bQ.out)
 have HW := aa hW
 clear hW hv
 go_in
 go_upto_region 1 with (fail)
 rw [HW.out]
 clear HW
 have nW := aa ((Below.refl W.heap.size W).drew)
 have zO := aa (HT0.out.below nW.out)
 have Xw := aa (ek.out.below nW.out)
 have HVd := aa (HV.out.below nW.out)
 have Xk := aa (Uc.out.below nW.out)
 have HB3 := aa (ag bQ.out nW.out)
 obtain ⟨Wd, hWd⟩ : ∃ u, W.drew = u := ⟨_, rfl⟩
 refine bD (S := fun w' => w'.heap[w.heap.size]? = some (.cells (di h c) 237 (0, 0))) (E := [7, 8]) (by kernel_rfl) (zO.out) (fun hHeld => ?_)
 refine Bc 0 (.agg (di h c)) rfl (fI 237 _ rfl w.heap.size rfl _ _ _ _ (fun _ h => h) Tryz.underlying237 rfl (aO hl.out)) ?_
 refine bN 1 ?_
 refine bN 2 ?_
 refine bW 3 fun K hK => ?_
 go_simp
 try rw [hWd]
 rw [hWd] at nW zO Xw HVd Xk HB3
 refine (LY A l n cA hn (by omega) _ Xk).mono ?_
 rintro e w4 ⟨cI, rfl, Pz, hb4⟩
 refine hK.out _ _ ?_ (fun hHeld => ?_)
 · exact zO.out.below hb4
 clear hK K
 try simp only [qq]
 refine bW 4 fun K hK => ?_
 go_simp
 have tN := aa (HVd.out.below hb4)
 rw [show cI.val = (.agg #[.int .i64 cI.kind, .int .i64 cI.n, .slice cI.B cI.nb cI.cb, .slice cI.L cI.nl cI.cl] : Value) from rfl]
 refine (yw h hl hb c hc0 hc1 s hs hr _ cI _ tN (aa Pz) hfi hle).mono ?_
 rintro e w5 ⟨rfl, hb5⟩
 have tO := aa ((Xw.out.below hb4).below hb5)
 have l8 := aa (ag (ag HB3.out hb4) hb5)
 obtain ⟨R, hR⟩ : ∃ R, EC h (aU s) (.lst (l.map .int)) = R := ⟨_, rfl⟩
 have hRl : R.length = 32 := by rw [← hR]; exact nG _ _ _
 have HN : Kp (EC h (aU s) (.lst (l.map .int)) = R) := ⟨hR⟩
 have fo := aa hRl
 rw [hR, show xR R (c + 1) 0 = .tuple #[.agg (di R (c + 1)), .int .i64 0] from rfl]
 refine hK.out _ _ ?_ (fun hHeld => ?_)
 · exact (zO.out.below hb4).below hb5
 clear hK K
 try simp only [qq]
 refine bN 5 ?_
 refine bN 6 ?_
 refine mR 7 fun K hK => ?_
 rw [show (if Region.wanted _ _ = true then _ else _ : Prop) = _ from if_pos rfl]
 refine wp_store_row 237 _ _ rfl (w.heap.size + 1) (di R (c + 1)) rfl rfl 237 _ tO.out (aO fo.out) (fq rfl fo.out) (dS _ _) ?_
 refine hK.out _ _ ?_
 clear hK K
 try simp only [qq]
 refine mR 8 fun K hK => ?_
 go_simp
 refine hK.out _ _ ?_
 clear hK K
 try simp only [qq]
 refine gz ?_
 have HRR : Hid (dK (w5.setRow (w.heap.size + 1) (di R (c + 1))) (w.heap.size + 1) R (c + 1)) := aa tO.out.setRow
 have fA : Below w.heap.size w (w5.setRow (w.heap.size + 1) (di R (c + 1))) := aj l8.out (by omega)
 clear hR hRl hb4 hb5 Pz tN l8 tO hWd
 go_wp2
 exact bodyPost_ret (v := xR R (c + 1) 0) (cK (p := 6) (q := 7) (ty := 237) rfl _ _ ⟨w.heap.size + 1, 0, none⟩ _ _ rfl rfl (run_loadVar_row _ _ _ _ _ _ _ HRR.out Tryz.underlying237 rfl (aO fo.out))) rfl ⟨by rw [HN.out], fA⟩
def CZ : ByteArray := { data := #[115, 112, 101, 99, 105, 101, 47, 99, 104, 97, 108, 108, 101, 110, 103, 101] }
def WL (h s : List Int) : List Int := tagged (aU CZ) (enc (.lst [.byt h, .byt s]))
def AO (q : Int) (h s : List Int) : Int := FH q (WL h s)
def QS (q : Int) (h s : List Int) : List Int := EC h s (.int (AO q h s))
theorem JI (h s : List Int) : az (WL h s) = true := iJ _
theorem g_ {P : Program} {fn : Func} {p q r : Tmp} {ty : TypeId} (h : fn.results = #[.cell p ty, .tmp q, .tmp r]) (tmps : Array Value) (w : World) (a : Addr) (v u x : Value)
  (hp : tmps.getD p undef = .pointer (some a)) (hq : tmps.getD q undef = u) (hr : tmps.getD r undef = x) (hl : (loadVar ty a).run P w = .ok v w) : (results fn tmps).run P w = .ok (.tuple #[v, u, x]) w := by
 have hp' : tmps[p]?.getD undef = .pointer (some a) := by simpa using hp
 have hq' : tmps[q]?.getD undef = u := by simpa using hq
 have hr' : tmps[r]?.getD undef = x := by simpa using hr
 simp [results, h, hp', hq', hr', asAddr, hl]
def U_ (h : List Int) (c n e : Int) : Value := .tuple #[.agg (di h c), .int .i64 n, .int .i64 e]
theorem Kt (h : List Int) (hl : Hid (h.length = 32)) (hb : Hid (az h = true)) (c : Int) (hc0 : 0 ≤ c) (hc1 : c < 1000) (s : ByteArray) (hs : s.size ≤ 1000) (hr : Hid (gI (aU s) = true)) (q : Int) (hq1 : 2 ≤ q) (hq2 : q < 2305843009213693952) (w : World) (hv : Hid (bF w)) :
  Calls Tryz.prog 246 #[.agg (di h c), .string s, .int .i64 q] w (Rt w (U_ (QS q h (aU s)) (c + 1) (AO q h (aU s)) 0)) := by
 have hs0 : 1 ≤ s.size := by
  have h := hr.out
  rw [gI, bz] at h
  simp at h
  exact h.1.1
 obtain ⟨W, hW⟩ : ∃ W, (w.alloc (.cells (di h c) 237)).alloc (.cells #[.int .u8 0, .int .u8 0, .int .u8 0, .int .u8 0, .int .u8 0, .int .u8 0, .int .u8 0, .int .u8 0, .int .u8 0, .int .u8 0, .int .u8 0, .int .u8 0, .int .u8 0, .int .u8 0, .int .u8 0, .int .u8 0, .int .u8 0, .int .u8 0, .int .u8 0, .int .u8 0, .int .u8 0, .int .u8 0, .int .u8 0, .int .u8 0, .int .u8 0, .int .u8 0, .int .u8 0, .int .u8 0, .int .u8 0, .int .u8 0, .int .u8 0, .int .u8 0, .int .i64 0] 237) = W := ⟨_, rfl⟩
 have bQ : Hid (Below w.heap.size w W) := aa (by rw [← hW]; exact aI (Below.refl _ _))
 have HT0 : Hid (dK W w.heap.size h c) := aa (by rw [← hW]; exact heap_alloc2_old _ _ _)
 have ek : Hid (dK W (w.heap.size + 1) (dD 32) 0) := aa (by rw [← hW, II]; exact heap_alloc2_new _ _ _)
 have HV := aa (hv.out.below bQ.out)
 have HW := aa hW
 have hcn : ¬ (c = 1000) := by omega
 have hqa : ¬ (q < 2) := by omega
 have hqb : ¬ (2305843009213693952 ≤ q) := by omega
 clear hW hv
 go_in
 go_upto_region 1 with (fail)
 rw [HW.out]
 clear HW
 go_wp2_with ((with_reducible show wpList _ _ _ (⟨some 14, _, _, _, _, _⟩ :: _) _ _); refine wpList_load_row rfl 237 _ rfl w.heap.size rfl _ _ _ _ HT0.out Tryz.underlying237 rfl (aO hl.out) ?_)
 refine (yt h hl c hc0 (by omega) _).mono ?_
 rintro e w1 ⟨rfl, hb1⟩
 have HB1 := aa (ag bQ.out hb1)
 have HT1 := aa (HT0.out.below hb1)
 have ry := aa (HV.out.below hb1)
 have HR1 := aa (ek.out.below hb1)
 clear hb1 HT0 HV ek bQ
 go_wp2_with fail
 refine (o7 s hs true hr _).mono ?_
 rintro e w2 ⟨rfl, hb2⟩
 have HT2 := aa (HT1.out.below hb2)
 have xq := aa (ry.out.below hb2)
 have HR2 := aa (HR1.out.below hb2)
 have HB2 := aa (ag HB1.out hb2)
 clear hb2 HT1 ry HR1 HB1
 have hcnt := HT2.out.count hl.out
 go_wp2_with ((with_reducible show wpList _ _ _ (⟨some 37, _, _, _, _, _⟩ :: _) _ _); refine wpList_load_row rfl 237 _ rfl w.heap.size rfl _ _ _ _ HT2.out Tryz.underlying237 rfl (aO hl.out) ?_)
 clear hcnt
 refine (Jy CZ (by decide) (by decide) h hl hb c s hs0 hs _ xq).mono ?_
 rintro e w4 ⟨rfl, hb4⟩
 have JN := aa (HT2.out.below hb4)
 have HR4 := aa (HR2.out.below hb4)
 have tN := aa (xq.out.below hb4)
 have jF := aa (ag HB2.out hb4)
 obtain ⟨R, hR⟩ : ∃ R, tagged (aU CZ) (enc (.lst [.byt h, .byt (aU s)])) = R := ⟨_, rfl⟩
 have hRl : R.length = 32 := by rw [← hR]; exact dF _ _
 have Ip : Hid (az R = true) := aa (by rw [← hR]; exact JI _ _)
 have HN : Kp (WL h (aU s) = R) := ⟨hR⟩
 have fo := aa hRl
 rw [hR, show lF R = .tuple #[.agg (arr .u8 R), .int .i64 0] from rfl]
 clear hb4 HT2 xq HR2 HB2 hR hRl
 go_upto_region 8 with ((with_reducible show wpList _ _ _ (⟨none, _, _, _, _, _⟩ :: _) _ _); refine wpList_store_row rfl 41 _ _ rfl w4.heap.size (arr .u8 R) rfl rfl _ _ (heap_alloc_new _ _) (ax fo.out) (dY (l := dD 32) rfl fo.out) (cu _) ?_)
 rw [World.setRow_alloc_new]
 try simp only [Act.put]
 have JP : Hid (bB .u8 41 (w4.alloc (.cells (arr .u8 R) 41)) w4.heap.size R) := aa (bB.new _ _)
 have NR := aa (JN.out.below (af w4 (.cells (arr .u8 R) 41)))
 have tO := aa (HR4.out.below (af w4 (.cells (arr .u8 R) 41)))
 have HV5 := aa (tN.out.below (af w4 (.cells (arr .u8 R) 41)))
 have l8 := aa (ag jF.out (af w4 (.cells (arr .u8 R) 41)))
 obtain ⟨W5, Mt⟩ : ∃ u, w4.alloc (.cells (arr .u8 R) 41) = u := ⟨_, rfl⟩
 rw [Mt] at JP NR tO l8 HV5 ⊢
 clear Mt JN HR4 tN jF
 go_wp2_with ((with_reducible show wpList _ _ _ (⟨some 47, _, _, _, _, _⟩ :: _) _ _); refine wpList_load_row rfl 41 _ rfl w4.heap.size rfl _ _ _ _ JP.out Tryz.underlying41 rfl (ax fo.out) ?_)
 refine (FI R fo Ip q (by omega) hq2 _).mono ?_
 rintro e w6 ⟨rfl, hb6⟩
 have zP := aa (NR.out.below hb6)
 have Ny := aa (tO.out.below hb6)
 have HV6 := aa (HV5.out.below hb6)
 have sN := aa (ag l8.out hb6)
 obtain ⟨n, hn⟩ : ∃ n, FH q R = n := ⟨_, rfl⟩
 have hn0 : 0 ≤ n ∧ n < q := by rw [← hn]; exact xE (by omega) 16
 obtain ⟨hn1, hn2⟩ := hn0
 have NU : Kp (AO q h (aU s) = n) := ⟨by rw [AO, HN.1]; exact hn⟩
 rw [hn]
 clear hb6 hn NR tO HV5 l8 JP
 go_wp2_with ((with_reducible show wpList _ _ _ (⟨some 57, _, _, _, _, _⟩ :: _) _ _); refine wpList_load_row rfl 237 _ rfl w.heap.size rfl _ _ _ _ zP.out Tryz.underlying237 rfl (aO hl.out) ?_)
 refine (yw h hl hb c hc0 hc1 s hs hr (.int n) ⟨1, n, none, 0, 0, none, 0, 0⟩ _ HV6 (aa (.int n _ rfl rfl rfl rfl)) (aa ⟨by omega, by omega⟩) (aa (by rw [lS, List.length_cons, fH]; decide))).mono ?_
 rintro e w7 ⟨rfl, Cw⟩
 have Uj := aa (Ny.out.below Cw)
 have zT := aa (ag sN.out Cw)
 obtain ⟨G, hG⟩ : ∃ G, EC h (aU s) (.int n) = G := ⟨_, rfl⟩
 have JQ : Hid (G.length = 32) := aa (by rw [← hG]; exact nG _ _ _)
 have HNG : Kp (QS q h (aU s) = G) := ⟨by rw [QS, NU.1]; exact hG⟩
 rw [hG, show xR G (c + 1) 0 = .tuple #[.agg (di G (c + 1)), .int .i64 0] from rfl]
 clear Cw hG Ny sN zP HV6
 go_upto_region 14 with ((with_reducible show wpList _ _ _ (⟨none, _, _, _, _, _⟩ :: _) _ _); refine wpList_store_row rfl 237 _ _ rfl w7.heap.size (di G (c + 1)) rfl rfl _ _ (heap_alloc_new _ _) (aO JQ.out) (fq (h := dD 32) (c := 0) rfl JQ.out) (dS _ _) ?_)
 rw [World.setRow_alloc_new]
 try simp only [Act.put]
 have XL : Hid (dK (w7.alloc (.cells (di G (c + 1)) 237)) w7.heap.size G (c + 1)) := aa (dK.new _ _ _)
 have NT := aa (Uj.out.below (af w7 (.cells (di G (c + 1)) 237)))
 have zw := aa (ag zT.out (af w7 (.cells (di G (c + 1)) 237)))
 obtain ⟨W8, QE⟩ : ∃ u, w7.alloc (.cells (di G (c + 1)) 237) = u := ⟨_, rfl⟩
 rw [QE] at XL NT zw ⊢
 clear QE Uj zT
 go_wp2_with (first
  | ((with_reducible show wpList _ _ _ (⟨some 68, _, _, _, _, _⟩ :: _) _ _); refine wpList_load_row rfl 237 _ rfl w7.heap.size rfl _ _ _ _ XL.out Tryz.underlying237 rfl (aO JQ.out) ?_)
  | ((with_reducible show wpList _ _ _ (⟨none, _, _, _, _, _⟩ :: _) _ _); refine wpList_store_row rfl 237 _ _ rfl (w.heap.size + 1) (di G (c + 1)) rfl rfl _ _ NT.out (aO JQ.out) (fq rfl JQ.out) (dS _ _) ?_))
 have HRR : Hid (dK (W8.setRow (w.heap.size + 1) (di G (c + 1))) (w.heap.size + 1) G (c + 1)) := aa NT.out.setRow
 have fA : Below w.heap.size w (W8.setRow (w.heap.size + 1) (di G (c + 1))) := aj zw.out (by omega)
 exact bodyPost_ret (v := U_ G (c + 1) n 0) (g_ (p := 6) (q := 7) (r := 8) (ty := 237) rfl _ _ ⟨w.heap.size + 1, 0, none⟩ _ _ _ rfl rfl rfl (run_loadVar_row _ _ _ _ _ _ _ HRR.out Tryz.underlying237 rfl (aO JQ.out))) rfl ⟨by rw [HNG.out, NU.out], fA⟩
theorem pO (w : World) (a : Nat) (cs : Array Value) : w.grownBy (w.setRow a cs) (some a) :=
 ⟨rfl, rfl, rfl, by simp [World.setRow], fun k hk hne => setRow_other w a k cs (fun e => hne (by rw [e]))⟩
theorem dM.setRow {w : World} {base a : Nat} {v : Value} {cs : List Ic} {r : Array Value} (h : dM w base v cs) (ha : a < base) : dM (w.setRow a r) base v cs :=
 World.ownsRow.kept h (pO w a r) (Or.inr (h.no ha))
theorem Sk.setRow {K : IntKind} {w : World} {b a : Nat} {l : List Int} {r : Array Value} (h : Sk K w (some ⟨b, 0, none⟩) l) (hne : a ≠ b) : Sk K (w.setRow a r) (some ⟨b, 0, none⟩) l :=
 h.grown (pO w a r) (fun b' o' e _ e2 => by cases e; cases e2; exact hne rfl)
theorem b_ (c : Ic) : (Tryz.prog.info? 117).map (·.size) = some c.cs.size := by
 have h : (Tryz.prog.info? 117).map (·.size) = some 4 := by kernel_rfl
 exact h
theorem je (c : Ic) : c.cs.all (·.oneCell') = true := by simp [Ic.cs, Value.oneCell']
theorem OJ (h : List Int) (hl : Hid (h.length = 32)) (hb : Hid (az h = true)) (c : Int) (s : ByteArray) (hs0 : 1 ≤ s.size) (hs : s.size ≤ 1000) (w : World) :
  Calls Tryz.prog 252 #[.agg (di h c), .string s, .slice none 0 0] w (EG (.lst [.byt h, .byt (aU s)]) w) := by
 obtain ⟨i0, hi, hz0, hz1, hz2⟩ := info_parts iV
 obtain ⟨i1, hi1, hy0, hy1, hy2⟩ := info_parts dO
 obtain ⟨W, hW⟩ : ∃ W, (w.alloc (.cells (di h c) 237)).alloc (.cells #[.int .i64 0, .int .i64 0, .slice none 0 0, .slice none 0 0] 117) = W := ⟨_, rfl⟩
 have bQ : Hid (Below w.heap.size w W) := aa (by rw [← hW]; exact aI (Below.refl _ _))
 have HT0 : Hid (dK W w.heap.size h c) := aa (by rw [← hW]; exact heap_alloc2_old _ _ _)
 have ek : Hid (W.heap[w.heap.size + 1]? = some (.cells #[.int .i64 0, .int .i64 0, .slice none 0 0, .slice none 0 0] 117 (0, 0))) := aa (by rw [← hW]; exact heap_alloc2_new _ _ _)
 have lG : Hid (W.heap.size = w.heap.size + 2) := aa (by rw [← hW]; simp)
 have HW := aa hW
 have hcv := fun w => run_bytes_of_string (P := Tryz.prog) w 9 114 5 s Tryz.underlying9 Tryz.underlying114 Tryz.underlying5
 clear hW
 go_in
 go_upto_region 1 with (fail)
 rw [HW.out]
 clear HW
 have HT1 := aa (HT0.out.below (af W (.cells #[] 5)))
 have hrow : (W.alloc (.cells #[] 5)).ownsRow W.heap.size 5 1 (.slice (some ⟨W.heap.size, 0, none⟩) 0 0) 0 [] := ⟨rfl, Or.inr ⟨W.heap.size, 0, #[], rfl, Nat.le_refl _, heap_alloc_new _ _, Nat.le_refl _, by decide, rfl, rfl⟩⟩
 have b1 : 0 + 32 ≤ maxLen := by unfold maxLen; omega
 have b2 : (0 + 32) * 1 ≤ 140737488355328 := by omega
 have b3 : W.heap.size ≤ (W.alloc (.cells #[] 5)).heap.size := by simp
 have hlen : (h.map (Value.int .u8)).length = 32 * 1 := by simp [hl.out]
 go_upto_region 2 with (at_builtin; refine wpList_append_lies rfl _ _ 114 rfl W.heap.size 5 i1 (.int .u8 0) 1 1 Tryz.underlying114 hi1 hy0 hy1 hy2 rfl (by decide) (.slice (some ⟨W.heap.size, 0, none⟩) 0 0) _ _ rfl hrow ⟨w.heap.size, 0, none⟩ 32 32 (h.map (.int .u8)) rfl hlen HT1.out.sk.news (ints_oneCell .u8 _) (by decide) b1 b2 b3 _ rfl ?_; intro g1 qZ w1 hown1 hgrow1 Te hlt1)
 have Ul : Hid (aQ .u8 5 w1 W.heap.size (.slice (some ⟨g1, 0, none⟩) 32 qZ) h) := aa (by unfold aQ; rw [hl.out]; simpa using hown1)
 have HB1 : Hid (Below W.heap.size W w1) := aa (((Below.refl W.heap.size W).alloc (Nat.le_refl _) (.cells #[] 5)).grown hgrow1 (by simp) (fun j hj => by cases hj; exact Nat.le_refl _))
 have Qi : Hid (W.heap.size ≤ g1) := aa (Ul.out.lt g1 rfl).1
 have Xt : Hid (Sk .u8 w1 (some ⟨g1, 0, none⟩) h) := aa (by
  obtain ⟨g, cap, e, _, _, _, hsk⟩ := Ul.out.cells (by rw [hl.out]; decide)
  simp only [Value.slice.injEq, Option.some.injEq, Addr.mk.injEq] at e
  obtain ⟨⟨rfl, -⟩, -, -⟩ := e
  exact hsk)
 have Ka := aa hlt1
 clear hown1 hgrow1 Te hlt1 hrow b1 b2 b3 hlen HT1 hcv Ul
 obtain ⟨gc, hgc⟩ : ∃ g, grownCap w1 s.size 0 5 = g := ⟨_, rfl⟩
 rw [hgc]
 obtain ⟨Wc, hWc⟩ : ∃ u, w1.alloc (.cells (bytesRow s gc) 5 ((bytesRow s gc).size, (bytesRow s gc).size + 1)) = u := ⟨_, rfl⟩
 rw [hWc]
 have sM : Hid (Below w1.heap.size w1 Wc) := aa (by rw [← hWc]; exact af _ _)
 have HSc : Hid (Sk .u8 Wc (some ⟨w1.heap.size, 0, none⟩) (aU s)) := aa (by rw [← hWc]; exact lu (heap_alloc_new w1 _))
 have EK : Hid (Wc.heap.size = w1.heap.size + 1) := aa (by rw [← hWc]; simp)
 obtain ⟨W2, hW2⟩ : ∃ u, (Wc.alloc (.cells #[.int .i64 2, .int .i64 0, .slice (some ⟨g1, 0, none⟩) 32 qZ, .slice none 0 0, .int .i64 2, .int .i64 0, .slice (some ⟨w1.heap.size, 0, none⟩) s.size gc, .slice none 0 0] 117)).drew = u := ⟨_, rfl⟩
 have qA : Hid (dM W2 Wc.heap.size (.slice (some ⟨w1.heap.size + 1, 0, none⟩) 2 2) [aL (some ⟨g1, 0, none⟩) 32 qZ, aL (some ⟨w1.heap.size, 0, none⟩) s.size gc]) := aa (by
  rw [← hW2]
  have h := (uE Wc (aL (some ⟨g1, 0, none⟩) 32 qZ) (aL (some ⟨w1.heap.size, 0, none⟩) s.size gc)).keep (Below.refl _ _).drew
  rw [EK.out] at h ⊢
  exact h)
 have NK : Hid (Below w1.heap.size w1 W2) := aa (ag sM.out (by rw [← hW2]; exact (af _ _).drew))
 have HB2 : Hid (Below W.heap.size W W2) := aa (ag HB1.out NK.out)
 have HS2 : Hid (Sk .u8 W2 (some ⟨w1.heap.size, 0, none⟩) (aU s)) := aa (HSc.out.below (by rw [← hW2]; exact (af _ _).drew))
 have Ug : Hid (Sk .u8 W2 (some ⟨g1, 0, none⟩) h) := aa (Xt.out.below NK.out)
 have HZ1 : Hid (W.heap.size ≤ w1.heap.size) := aa HB1.out.size
 have Zi : Wc.heap.size < W2.heap.size := by rw [← hW2]; simp
 rw [hW2]
 clear hW2 hWc hgc HSc sM Xt
 have hrow : W2.ownsRow Wc.heap.size 117 4 (.slice (some ⟨w1.heap.size + 1, 0, none⟩) 2 2) 2 ([aL (some ⟨g1, 0, none⟩) 32 qZ, aL (some ⟨w1.heap.size, 0, none⟩) s.size gc].flatMap aS) := qA.out
 have vz : Hid (W2.heap[w.heap.size + 1]? = some (.cells #[.int .i64 0, .int .i64 0, .slice none 0 0, .slice none 0 0] 117 (0, 0))) := aa ((HB2.out.block _ (by have := lG.out; omega)).trans ek.out)
 have HOL := qA
 have Ud := Ug
 have Uc := HS2
 have NV := HB2
 go_wp2_with (first
  | (at_builtin; refine wpList_append_own_none rfl _ _ 115 rfl Wc.heap.size 117 i0 4 Tryz.underlying115 hi _ _ _ rfl hrow rfl ?_)
  | ((with_reducible show wpList _ _ _ (⟨none, _, _, _, _, _⟩ :: _) _ _); refine wpList_store_row rfl 117 _ _ rfl (w.heap.size + 1) (Ic.cs ⟨3, 0, none, 0, 0, some ⟨w1.heap.size + 1, 0, none⟩, 2, 2⟩) rfl rfl _ _ vz.out (b_ _) rfl (je _) ?_))
 skip
 obtain ⟨WF, rV⟩ : ∃ u, W2.setRow (w.heap.size + 1) (Ic.cs ⟨3, 0, none, 0, 0, some ⟨w1.heap.size + 1, 0, none⟩, 2, 2⟩) = u := ⟨_, rfl⟩
 have Um : Hid (dM WF Wc.heap.size (.slice (some ⟨w1.heap.size + 1, 0, none⟩) 2 2) [aL (some ⟨g1, 0, none⟩) 32 qZ, aL (some ⟨w1.heap.size, 0, none⟩) s.size gc]) := aa (by rw [← rV]; exact HOL.out.setRow (by have := EK.out; have := lG.out; have := HZ1.out; omega))
 have Ue : Hid (Sk .u8 WF (some ⟨g1, 0, none⟩) h) := aa (by rw [← rV]; exact Ud.out.setRow (by have := Qi.out; have := lG.out; omega))
 have YH : Hid (Sk .u8 WF (some ⟨w1.heap.size, 0, none⟩) (aU s)) := aa (by rw [← rV]; exact Uc.out.setRow (by have := HZ1.out; have := lG.out; omega))
 have fA : Hid (Below w.heap.size w WF) := aa (by rw [← rV]; exact aj (ag bQ.out NV.out) (Nat.le_succ _))
 have HRW : Hid (WF.heap[w.heap.size + 1]? = some (.cells (Ic.cs ⟨3, 0, none, 0, 0, some ⟨w1.heap.size + 1, 0, none⟩, 2, 2⟩) 117 (0, 0))) := aa (by rw [← rV]; exact setRow_heap _ _ _ _ _ _ vz.out)
 have ND : Hid (∃ g cap, (Value.slice (some ⟨w1.heap.size + 1, 0, none⟩) 2 2) = .slice (some ⟨g, 0, none⟩) 2 cap ∧ nO WF (.lst [.byt h, .byt (aU s)]) ⟨3, 0, none, 0, 0, some ⟨g, 0, none⟩, 2, cap⟩) := aa (qP Um.out rfl rfl (by decide) (fun k hk => by
  rcases (show k = 0 ∨ k = 1 by omega) with rfl | rfl
  · exact iY Ue.out hl.out
  · exact iY YH.out (bz s)))
 obtain ⟨g, cap, e3, hit⟩ := ND.out
 simp only [Value.slice.injEq, Option.some.injEq, Addr.mk.injEq] at e3
 obtain ⟨⟨rfl, -⟩, -, rfl⟩ := e3
 have HIT := aa hit
 clear hit ND
 rw [rV]
 clear rV
 exact bodyPost_ret (v := .agg (Ic.cs ⟨3, 0, none, 0, 0, some ⟨w1.heap.size + 1, 0, none⟩, 2, 2⟩)) (aC (p := 6) (ty := 117) rfl _ _ ⟨w.heap.size + 1, 0, none⟩ _ rfl (run_loadVar_row _ _ _ _ _ _ _ HRW.out Tryz.underlying117 rfl (b_ _))) rfl ⟨⟨3, 0, none, 0, 0, some ⟨w1.heap.size + 1, 0, none⟩, 2, 2⟩, rfl, HIT.out, fA.out⟩
theorem OI (h : List Int) (hl : Hid (h.length = 32)) (hb : Hid (az h = true)) (c : Int) (s : ByteArray) (hs0 : 1 ≤ s.size) (hs : s.size ≤ 1000) (item : It) (cI : Ic) (gm cm : Nat) (w : World) (hF : Hid (Four w gm 0 cI)) (hI : Hid (nO w item cI)) :
  Calls Tryz.prog 252 #[.agg (di h c), .string s, .slice (some ⟨gm, 0, none⟩) 1 cm] w (EG (.lst [.byt h, .byt (aU s), item]) w) := by
 obtain ⟨i0, hi, hz0, hz1, hz2⟩ := info_parts iV
 obtain ⟨i1, hi1, hy0, hy1, hy2⟩ := info_parts dO
 obtain ⟨W, hW⟩ : ∃ W, (w.alloc (.cells (di h c) 237)).alloc (.cells #[.int .i64 0, .int .i64 0, .slice none 0 0, .slice none 0 0] 117) = W := ⟨_, rfl⟩
 have bQ : Hid (Below w.heap.size w W) := aa (by rw [← hW]; exact aI (Below.refl _ _))
 have HT0 : Hid (dK W w.heap.size h c) := aa (by rw [← hW]; exact heap_alloc2_old _ _ _)
 have ek : Hid (W.heap[w.heap.size + 1]? = some (.cells #[.int .i64 0, .int .i64 0, .slice none 0 0, .slice none 0 0] 117 (0, 0))) := aa (by rw [← hW]; exact heap_alloc2_new _ _ _)
 have lG : Hid (W.heap.size = w.heap.size + 2) := aa (by rw [← hW]; simp)
 have HW := aa hW
 have hcv := fun w => run_bytes_of_string (P := Tryz.prog) w 9 114 5 s Tryz.underlying9 Tryz.underlying114 Tryz.underlying5
 clear hW
 go_in
 go_upto_region 1 with (fail)
 rw [HW.out]
 clear HW
 have HT1 := aa (HT0.out.below (af W (.cells #[] 5)))
 have hrow : (W.alloc (.cells #[] 5)).ownsRow W.heap.size 5 1 (.slice (some ⟨W.heap.size, 0, none⟩) 0 0) 0 [] := ⟨rfl, Or.inr ⟨W.heap.size, 0, #[], rfl, Nat.le_refl _, heap_alloc_new _ _, Nat.le_refl _, by decide, rfl, rfl⟩⟩
 have b1 : 0 + 32 ≤ maxLen := by unfold maxLen; omega
 have b2 : (0 + 32) * 1 ≤ 140737488355328 := by omega
 have b3 : W.heap.size ≤ (W.alloc (.cells #[] 5)).heap.size := by simp
 have hlen : (h.map (Value.int .u8)).length = 32 * 1 := by simp [hl.out]
 go_upto_region 2 with (at_builtin; refine wpList_append_lies rfl _ _ 114 rfl W.heap.size 5 i1 (.int .u8 0) 1 1 Tryz.underlying114 hi1 hy0 hy1 hy2 rfl (by decide) (.slice (some ⟨W.heap.size, 0, none⟩) 0 0) _ _ rfl hrow ⟨w.heap.size, 0, none⟩ 32 32 (h.map (.int .u8)) rfl hlen HT1.out.sk.news (ints_oneCell .u8 _) (by decide) b1 b2 b3 _ rfl ?_; intro g1 qZ w1 hown1 hgrow1 Te hlt1)
 have Ul : Hid (aQ .u8 5 w1 W.heap.size (.slice (some ⟨g1, 0, none⟩) 32 qZ) h) := aa (by unfold aQ; rw [hl.out]; simpa using hown1)
 have HB1 : Hid (Below W.heap.size W w1) := aa (((Below.refl W.heap.size W).alloc (Nat.le_refl _) (.cells #[] 5)).grown hgrow1 (by simp) (fun j hj => by cases hj; exact Nat.le_refl _))
 have Qi : Hid (W.heap.size ≤ g1) := aa (Ul.out.lt g1 rfl).1
 have Xt : Hid (Sk .u8 w1 (some ⟨g1, 0, none⟩) h) := aa (by
  obtain ⟨g, cap, e, _, _, _, hsk⟩ := Ul.out.cells (by rw [hl.out]; decide)
  simp only [Value.slice.injEq, Option.some.injEq, Addr.mk.injEq] at e
  obtain ⟨⟨rfl, -⟩, -, -⟩ := e
  exact hsk)
 have Ka := aa hlt1
 clear hown1 hgrow1 Te hlt1 hrow b1 b2 b3 hlen HT1 hcv Ul
 obtain ⟨gc, hgc⟩ : ∃ g, grownCap w1 s.size 0 5 = g := ⟨_, rfl⟩
 rw [hgc]
 obtain ⟨Wc, hWc⟩ : ∃ u, w1.alloc (.cells (bytesRow s gc) 5 ((bytesRow s gc).size, (bytesRow s gc).size + 1)) = u := ⟨_, rfl⟩
 rw [hWc]
 have sM : Hid (Below w1.heap.size w1 Wc) := aa (by rw [← hWc]; exact af _ _)
 have HSc : Hid (Sk .u8 Wc (some ⟨w1.heap.size, 0, none⟩) (aU s)) := aa (by rw [← hWc]; exact lu (heap_alloc_new w1 _))
 have EK : Hid (Wc.heap.size = w1.heap.size + 1) := aa (by rw [← hWc]; simp)
 obtain ⟨W2, hW2⟩ : ∃ u, (Wc.alloc (.cells #[.int .i64 2, .int .i64 0, .slice (some ⟨g1, 0, none⟩) 32 qZ, .slice none 0 0, .int .i64 2, .int .i64 0, .slice (some ⟨w1.heap.size, 0, none⟩) s.size gc, .slice none 0 0] 117)).drew = u := ⟨_, rfl⟩
 have qA : Hid (dM W2 Wc.heap.size (.slice (some ⟨w1.heap.size + 1, 0, none⟩) 2 2) [aL (some ⟨g1, 0, none⟩) 32 qZ, aL (some ⟨w1.heap.size, 0, none⟩) s.size gc]) := aa (by
  rw [← hW2]
  have h := (uE Wc (aL (some ⟨g1, 0, none⟩) 32 qZ) (aL (some ⟨w1.heap.size, 0, none⟩) s.size gc)).keep (Below.refl _ _).drew
  rw [EK.out] at h ⊢
  exact h)
 have NK : Hid (Below w1.heap.size w1 W2) := aa (ag sM.out (by rw [← hW2]; exact (af _ _).drew))
 have HB2 : Hid (Below W.heap.size W W2) := aa (ag HB1.out NK.out)
 have HS2 : Hid (Sk .u8 W2 (some ⟨w1.heap.size, 0, none⟩) (aU s)) := aa (HSc.out.below (by rw [← hW2]; exact (af _ _).drew))
 have Ug : Hid (Sk .u8 W2 (some ⟨g1, 0, none⟩) h) := aa (Xt.out.below NK.out)
 have HZ1 : Hid (W.heap.size ≤ w1.heap.size) := aa HB1.out.size
 have Zi : Wc.heap.size < W2.heap.size := by rw [← hW2]; simp
 rw [hW2]
 clear hW2 hWc hgc HSc sM Xt
 have hrow : W2.ownsRow Wc.heap.size 117 4 (.slice (some ⟨w1.heap.size + 1, 0, none⟩) 2 2) 2 ([aL (some ⟨g1, 0, none⟩) 32 qZ, aL (some ⟨w1.heap.size, 0, none⟩) s.size gc].flatMap aS) := qA.out
 have U6 : Hid (Four W2 gm 0 cI) := aa ((hF.out.below bQ.out).below HB2.out)
 have rY : Wc.heap.size ≤ W2.heap.size := by omega
 have b1 : 2 + 1 ≤ maxLen := by unfold maxLen; omega
 have b2 : (2 + 1) * 64 ≤ 140737488355328 := by omega
 have XC : ∀ (j : Nat) (u : Value), (aS cI)[j]? = some u → W2.cell? ((⟨gm, 0, none⟩ : Addr).add j) = some u := Ay U6.out
 go_wp2_with (first
  | (at_builtin; refine wpList_append_lies rfl _ _ 115 rfl Wc.heap.size 117 i0 (.agg #[.int .i64 0, .int .i64 0, .slice none 0 0, .slice none 0 0]) 4 64 Tryz.underlying115 hi hz0 hz1 hz2 rfl (by decide) (.slice (some ⟨w1.heap.size + 1, 0, none⟩) 2 2) _ _ rfl hrow ⟨gm, 0, none⟩ 1 cm (aS cI) rfl rfl XC (sj cI) (by decide) b1 b2 rY _ rfl ?_; intro g3 mV w3 hown3 hgrow3 Td hlt3; have NV : Hid (Below W.heap.size W w3) := aa (HB2.out.grown hgrow3 (by have := EK.out; have := HZ1.out; omega) (fun j hj => by have := EK.out; have := HZ1.out; have := (World.ownsRow.lt hrow j hj).1; omega)); have vz : Hid (w3.heap[w.heap.size + 1]? = some (.cells #[.int .i64 0, .int .i64 0, .slice none 0 0, .slice none 0 0] 117 (0, 0))) := aa ((NV.out.block _ (by have := lG.out; omega)).trans ek.out))
  | ((with_reducible show wpList _ _ _ (⟨none, _, _, _, _, _⟩ :: _) _ _); refine wpList_store_row rfl 117 _ _ rfl (w.heap.size + 1) (Ic.cs ⟨3, 0, none, 0, 0, some ⟨g3, 0, none⟩, 3, mV⟩) rfl rfl _ _ vz.out (b_ _) rfl (je _) ?_))
 have NJ : Hid (Below (w1.heap.size + 1) W2 w3) := aa ((Below.refl _ _).grown hgrow3 (by have := EK.out; omega) (fun j hj => by have := EK.out; have := (World.ownsRow.lt hrow j hj).1; omega))
 have HOL : Hid (dM w3 Wc.heap.size (.slice (some ⟨g3, 0, none⟩) 3 mV) [aL (some ⟨g1, 0, none⟩) 32 qZ, aL (some ⟨w1.heap.size, 0, none⟩) s.size gc, cI]) := aa hown3
 have Ud : Hid (Sk .u8 w3 (some ⟨g1, 0, none⟩) h) := aa (Fa Ug.out NJ.out (by have := Ka.out; omega))
 have Uc : Hid (Sk .u8 w3 (some ⟨w1.heap.size, 0, none⟩) (aU s)) := aa (Fa HS2.out NJ.out (by omega))
 clear hown3 hgrow3 Td hlt3 XC
 obtain ⟨WF, rV⟩ : ∃ u, w3.setRow (w.heap.size + 1) (Ic.cs ⟨3, 0, none, 0, 0, some ⟨g3, 0, none⟩, 3, mV⟩) = u := ⟨_, rfl⟩
 have Um : Hid (dM WF Wc.heap.size (.slice (some ⟨g3, 0, none⟩) 3 mV) [aL (some ⟨g1, 0, none⟩) 32 qZ, aL (some ⟨w1.heap.size, 0, none⟩) s.size gc, cI]) := aa (by rw [← rV]; exact HOL.out.setRow (by have := EK.out; have := lG.out; have := HZ1.out; omega))
 have Ue : Hid (Sk .u8 WF (some ⟨g1, 0, none⟩) h) := aa (by rw [← rV]; exact Ud.out.setRow (by have := Qi.out; have := lG.out; omega))
 have YH : Hid (Sk .u8 WF (some ⟨w1.heap.size, 0, none⟩) (aU s)) := aa (by rw [← rV]; exact Uc.out.setRow (by have := HZ1.out; have := lG.out; omega))
 have fA : Hid (Below w.heap.size w WF) := aa (by rw [← rV]; exact aj (ag bQ.out NV.out) (Nat.le_succ _))
 have HRW : Hid (WF.heap[w.heap.size + 1]? = some (.cells (Ic.cs ⟨3, 0, none, 0, 0, some ⟨g3, 0, none⟩, 3, mV⟩) 117 (0, 0))) := aa (by rw [← rV]; exact setRow_heap _ _ _ _ _ _ vz.out)
 have ND : Hid (∃ g cap, (Value.slice (some ⟨g3, 0, none⟩) 3 mV) = .slice (some ⟨g, 0, none⟩) 3 cap ∧ nO WF (.lst [.byt h, .byt (aU s), item]) ⟨3, 0, none, 0, 0, some ⟨g, 0, none⟩, 3, cap⟩) := aa (qP Um.out rfl rfl (by decide) (fun k hk => by
  rcases (show k = 0 ∨ k = 1 ∨ k = 2 by omega) with rfl | rfl | rfl
  · exact iY Ue.out hl.out
  · exact iY YH.out (bz s)
  · exact hI.out.kept fA.out))
 obtain ⟨g, cap, e3, hit⟩ := ND.out
 simp only [Value.slice.injEq, Option.some.injEq, Addr.mk.injEq] at e3
 obtain ⟨⟨rfl, -⟩, -, rfl⟩ := e3
 have HIT := aa hit
 clear hit ND
 rw [rV]
 clear rV
 exact bodyPost_ret (v := .agg (Ic.cs ⟨3, 0, none, 0, 0, some ⟨g3, 0, none⟩, 3, mV⟩)) (aC (p := 6) (ty := 117) rfl _ _ ⟨w.heap.size + 1, 0, none⟩ _ rfl (run_loadVar_row _ _ _ _ _ _ _ HRW.out Tryz.underlying117 rfl (b_ _))) rfl ⟨⟨3, 0, none, 0, 0, some ⟨g3, 0, none⟩, 3, mV⟩, rfl, HIT.out, fA.out⟩
theorem I5 (A : Option Addr) (l : List Int) (n c : Nat) (hn : Hid (l.length = n)) (hbig : n ≤ 1000000) (w : World) (hs : Hid (Sl w A l)) :
  Calls Tryz.prog 249 #[.slice A n c] w (EG (.lst (l.map .int)) w) := by
 obtain ⟨i0, hi, hz0, hz1, hz2⟩ := info_parts iV
 obtain ⟨W, hW⟩ : ∃ W, (w.alloc (.cells #[.int .i64 0, .int .i64 0, .slice none 0 0, .slice none 0 0] 117)).alloc (.cells #[.int .i64 3, .int .i64 0, .slice none 0 0, .slice none 0 0] 117) = W := ⟨_, rfl⟩
 have bQ : Hid (Below w.heap.size w W) := aa (by rw [← hW]; exact aI (Below.refl _ _))
 have lG : Hid (W.heap.size = w.heap.size + 2) := aa (by rw [← hW]; simp)
 have hF : Four W (w.heap.size + 1) 0 ⟨3, 0, none, 0, 0, none, 0, 0⟩ := by
  rw [← hW]
  have h := heap_alloc2_new w (.cells #[.int .i64 0, .int .i64 0, .slice none 0 0, .slice none 0 0] 117) (.cells #[.int .i64 3, .int .i64 0, .slice none 0 0, .slice none 0 0] 117)
  exact ⟨ak h 0, ak h 1, ak h 2, ak h 3⟩
 have hf0 : ∀ j, W.frozen? ⟨w.heap.size + 1, j, none⟩ = false := by
  rw [← hW]
  exact fun j => aX (heap_alloc2_new _ _ _) j
 have HG : Hid ((Four W w.heap.size 0 ⟨0, 0, none, 0, 0, none, 0, 0⟩) ∧ ∀ j, W.frozen? ⟨w.heap.size, j, none⟩ = false) := aa (by
  rw [← hW]
  have h := heap_alloc2_old w (.cells #[.int .i64 0, .int .i64 0, .slice none 0 0, .slice none 0 0] 117) (.cells #[.int .i64 3, .int .i64 0, .slice none 0 0, .slice none 0 0] 117)
  exact ⟨⟨ak h 0, ak h 1, ak h 2, ak h 3⟩, fun j => aX h j⟩)
 have UE : Hid (W.heap[w.heap.size]? = some (.cells #[.int .i64 0, .int .i64 0, .slice none 0 0, .slice none 0 0] 117 (0, 0))) := aa (by rw [← hW]; exact heap_alloc2_old w _ _)
 have HS := aa hs.out
 have HW := aa hW
 have HX : Hid (Own W ⟨w.heap.size + 1, 0, none⟩ (.int .i64 3) ∧ Own W ⟨w.heap.size + 1, 1, none⟩ (.int .i64 0) ∧ Own W ⟨w.heap.size + 1, 2, none⟩ (.slice none 0 0)) := aa ⟨⟨hF.1, hf0 0⟩, ⟨hF.2.1, hf0 1⟩, ⟨hF.2.2.1, hf0 2⟩⟩
 have HL : Hid (Own W ⟨w.heap.size + 1, 3, none⟩ (.slice none 0 0)) := aa ⟨hF.2.2.2, hf0 3⟩
 clear hW hs hF hf0
 go_in
 go_wp2
 rw [HW.out]
 go_loopw [4] (fun i u => ∃ (k : Nat) (v : Value), k ≤ n ∧ i = .int .i64 k ∧ Hid (Own u ⟨w.heap.size + 1, 3, none⟩ v) ∧ Hid (dM u (w.heap.size + 2) v ((l.take k).map aM)) ∧ Hid (Own u ⟨w.heap.size + 1, 0, none⟩ (.int .i64 3) ∧ Own u ⟨w.heap.size + 1, 1, none⟩ (.int .i64 0) ∧ Own u ⟨w.heap.size + 1, 2, none⟩ (.slice none 0 0)) ∧ Hid (Below (w.heap.size + 1) W u)) (fun i _ => n - (intOf i).toNat)
 case atStart => exact ⟨0, _, by omega, rfl, HL, aa (qN _ _), HX, aa (Below.refl _ _)⟩
 case round =>
  obtain ⟨k, v, hk, rfl, HV, HO, nH, au⟩ := hrel
  by_cases hlt : k < n
  ·
   have hkl : k < l.length := by rw [hn.out]; exact hlt
   obtain ⟨b, o, hA, hc⟩ := (HS.out.below (bQ.out.trans (au.out.mono (Nat.le_succ _)))) k hkl
   subst hA
   have xu := aa (tH hkl)
   obtain ⟨x, hx⟩ : ∃ x, l.getD k 0 = x := ⟨_, rfl⟩
   rw [hx] at hc xu
   have qB : Hid (((l.take k).map aM).length = k) := aa (by rw [List.length_map, List.length_take]; omega)
   have hown : wr.ownsRow (w.heap.size + 2) 117 4 v k (((l.take k).map aM).flatMap aS) := by have h := HO.out; unfold dM at h; rwa [qB.out] at h
   have hbs : w.heap.size + 2 ≤ wr.heap.size := by have := au.out.size; have := lG.out; omega
   have hno : v.ownBlock ≠ some (w.heap.size + 1) := HO.out.no (by omega)
   obtain ⟨v3, Oh⟩ := HV.out
   have hS := aa (show ∀ u1 : World, Hid (Below wr.drew.heap.size wr.drew u1) → (u1.cell? ⟨w.heap.size + 1, 3, none⟩ = some v ∧ u1.cell? ⟨b, o + k, none⟩ = some (.int .i64 x) ∧ Hid (Below wr.drew.heap.size wr.drew u1)) from fun u1 h1 => ⟨cell_below (w := wr.drew) v3 h1.out, cell_below (w := wr.drew) hc h1.out, h1⟩)
   have HOWN := aa hown
   clear hx hkl hown v3 Oh hc
   go_wp2
   refine bD (S := fun w' => w'.cell? ⟨w.heap.size + 1, 3, none⟩ = some v ∧ w'.cell? ⟨b, o + k, none⟩ = some (.int .i64 x) ∧ Hid (Below wr.drew.heap.size wr.drew w')) (E := [8, 9, 10]) (by kernel_rfl) (hS.out _ (aa (Below.refl _ _))) (fun hHeld => ?_)
   refine bN 0 ?_
   refine bN 1 ?_
   refine bN 2 ?_
   refine bN 3 ?_
   refine bN 4 ?_
   refine bN 5 ?_
   refine bN 6 ?_
   refine bW 7 fun K hK => ?_
   go_simp
   refine hK.out _ _ ?_ (fun hHeld => ?_)
   · exact hS.out _ (aa (af _ _))
   clear hK K
   try simp only [qq]
   refine mR 8 fun K hK => ?_
   refine step_append_lies _ (by rfl) _ _ _ (by rfl) (w.heap.size + 2) 117 i0 _ 4 64 Tryz.underlying115 hi hz0 hz1 hz2 rfl (by omega) v k (((l.take k).map aM).flatMap aS) (by rfl) ((HOWN.out.alloc _).drew)
    ⟨wr.heap.size, 0, none⟩ 1 1 [.int .i64 1, .int .i64 x, .slice none 0 0, .slice none 0 0] (by rfl) (by rfl) (World.news_of_block (cs := #[.int .i64 1, .int .i64 x, .slice none 0 0, .slice none 0 0]) (t := 117) (fr := (0, 0)) (heap_alloc_new wr _)) (by simp [Value.oneCell'])
    (by omega) (by unfold maxLen; omega) (by omega) (by simp; omega) (wr.heap.size + 1) (by simp) ?_; intro gg cap wz hown1 hgrow hat hlt2
   have Gv := bP (w := (wr.alloc (.cells #[.int .i64 1, .int .i64 x, .slice none 0 0, .slice none 0 0] 117)).drew) (HV.out.below (af wr (.cells #[.int .i64 1, .int .i64 x, .slice none 0 0, .slice none 0 0] 117)).drew) hgrow hno
   have TU := Gv
   obtain ⟨p2, f2⟩ := TU
   refine hK.out _ _ ?_
   clear hK K
   try simp only [qq]
   refine mR 9 fun K hK => ?_
   go_simp
   refine hK.out _ _ ?_
   clear hK K
   try simp only [qq]
   refine mR 10 fun K hK => ?_
   go_simp
   refine hK.out _ _ ?_
   clear hK K
   try simp only [qq]
   refine gz ?_
   have HB2 : Hid (Below (w.heap.size + 1) W wz) := aa (((au.out.alloc (by omega) (.cells #[.int .i64 1, .int .i64 x, .slice none 0 0, .slice none 0 0] 117)).drew).grown hgrow (by simp; omega) (fun j hj => by have := (World.ownsRow.lt HOWN.out j hj).1; omega))
   have qA : Hid (dM wz (w.heap.size + 2) (.slice (some ⟨gg, 0, none⟩) (k + 1) cap) ((l.take (k + 1)).map aM)) := aa (by
    rw [xu.out]
    exact dM.app qB.out.symm hown1)
   have hd := (Below.refl wr.heap.size wr)
   have a0 := bP (w := (wr.alloc (.cells #[.int .i64 1, .int .i64 x, .slice none 0 0, .slice none 0 0] 117)).drew) (nH.out.1.below (af wr (.cells #[.int .i64 1, .int .i64 x, .slice none 0 0, .slice none 0 0] 117)).drew) hgrow hno
   have a1 := bP (w := (wr.alloc (.cells #[.int .i64 1, .int .i64 x, .slice none 0 0, .slice none 0 0] 117)).drew) (nH.out.2.1.below (af wr (.cells #[.int .i64 1, .int .i64 x, .slice none 0 0, .slice none 0 0] 117)).drew) hgrow hno
   have a2 := bP (w := (wr.alloc (.cells #[.int .i64 1, .int .i64 x, .slice none 0 0, .slice none 0 0] 117)).drew) (nH.out.2.2.below (af wr (.cells #[.int .i64 1, .int .i64 x, .slice none 0 0, .slice none 0 0] 117)).drew) hgrow hno
   have tN : Hid (Own (wz.setCell ⟨w.heap.size + 1, 3, none⟩ (.slice (some ⟨gg, 0, none⟩) (k + 1) cap)) ⟨w.heap.size + 1, 3, none⟩ (.slice (some ⟨gg, 0, none⟩) (k + 1) cap)) := aa (dI Gv)
   have xV : Hid (dM (wz.setCell ⟨w.heap.size + 1, 3, none⟩ (.slice (some ⟨gg, 0, none⟩) (k + 1) cap)) (w.heap.size + 2) (.slice (some ⟨gg, 0, none⟩) (k + 1) cap) ((l.take (k + 1)).map aM)) := aa (qA.out.set (by omega))
   have P8 : Hid (Own (wz.setCell ⟨w.heap.size + 1, 3, none⟩ (.slice (some ⟨gg, 0, none⟩) (k + 1) cap)) ⟨w.heap.size + 1, 0, none⟩ (.int .i64 3) ∧ Own (wz.setCell ⟨w.heap.size + 1, 3, none⟩ (.slice (some ⟨gg, 0, none⟩) (k + 1) cap)) ⟨w.heap.size + 1, 1, none⟩ (.int .i64 0) ∧ Own (wz.setCell ⟨w.heap.size + 1, 3, none⟩ (.slice (some ⟨gg, 0, none⟩) (k + 1) cap)) ⟨w.heap.size + 1, 2, none⟩ (.slice none 0 0)) :=
    aa ⟨aK a0 (by simp), aK a1 (by simp), aK a2 (by simp)⟩
   have jF : Hid (Below (w.heap.size + 1) W (wz.setCell ⟨w.heap.size + 1, 3, none⟩ (.slice (some ⟨gg, 0, none⟩) (k + 1) cap))) := aa (HB2.out.setCell (Nat.le_refl _) _)
   clear hown1 hgrow HO nH HV p2 f2 a0 a1 a2 HB2 qA Gv hd
   go_wp2
   go_roundw
   case rel => exact ⟨k + 1, _, by omega, by go_num, tN, xV, P8, jF⟩
   case measure => simp [intOf]; omega
  ·
   have vS : Hid (dM wr (w.heap.size + 2) v (l.map aM)) := aa (by
    have h := HO.out
    rwa [List.take_of_length_le (by have := hn.out; omega)] at h)
   obtain ⟨L, cl, QH⟩ := vS.out.len
   rw [List.length_map, hn.out] at QH
   subst QH
   obtain ⟨p0, Zb⟩ := nH.out.1
   obtain ⟨p1, Za⟩ := nH.out.2.1
   obtain ⟨p2, Y_⟩ := nH.out.2.2
   obtain ⟨p3, Y9⟩ := HV.out
   have XW := HG.out
   have r0 := (au.out.cell (p := ⟨w.heap.size, 0, none⟩) (Nat.lt_succ_self _)).trans HG.out.1.1
   have r1 := (au.out.cell (p := ⟨w.heap.size, 1, none⟩) (Nat.lt_succ_self _)).trans HG.out.1.2.1
   have r2 := (au.out.cell (p := ⟨w.heap.size, 2, none⟩) (Nat.lt_succ_self _)).trans HG.out.1.2.2.1
   have r3 := (au.out.cell (p := ⟨w.heap.size, 3, none⟩) (Nat.lt_succ_self _)).trans HG.out.1.2.2.2
   have z0 := (au.out.frozen (p := ⟨w.heap.size, 0, none⟩) (Nat.lt_succ_self _)).trans (HG.out.2 0)
   have z1 := (au.out.frozen (p := ⟨w.heap.size, 1, none⟩) (Nat.lt_succ_self _)).trans (HG.out.2 1)
   have z2 := (au.out.frozen (p := ⟨w.heap.size, 2, none⟩) (Nat.lt_succ_self _)).trans (HG.out.2 2)
   have z3 := (au.out.frozen (p := ⟨w.heap.size, 3, none⟩) (Nat.lt_succ_self _)).trans (HG.out.2 3)
   have rY := aa (bQ.out.trans (au.out.mono (Nat.le_succ _)))
   clear nH HV HO XW
   obtain ⟨WF, rV⟩ : ∃ u, (((wr.setCell ⟨w.heap.size, 0, none⟩ (.int .i64 3)).setCell ⟨w.heap.size, 1, none⟩ (.int .i64 0)).setCell ⟨w.heap.size, 2, none⟩ (.slice none 0 0)).setCell ⟨w.heap.size, 3, none⟩ (.slice L n cl) = u := ⟨_, rfl⟩
   have hgB : WF.heap[w.heap.size]? = some (.cells #[.int .i64 3, .int .i64 0, .slice none 0 0, .slice L n cl] 117 (0, 0)) := by
    have h0 := (au.out.block w.heap.size (Nat.lt_succ_self _)).trans UE.out
    rw [← rV, heap_setCell_same _ _ _ _ _ _ (heap_setCell_same _ _ _ _ _ _ (heap_setCell_same _ _ _ _ _ _ (heap_setCell_same _ _ _ _ _ _ h0)))]
    rfl
   have CE : Hid (dM WF (w.heap.size + 2) (.slice L n cl) (l.map aM)) := aa (by
    rw [← rV]
    exact (((vS.out.set (by omega)).set (by omega)).set (by omega)).set (by omega))
   have fA : Hid (Below w.heap.size w WF) := aa (by
    rw [← rV]
    exact (((rY.out.setCell (Nat.le_refl _) _).setCell (Nat.le_refl _) _).setCell (Nat.le_refl _) _).setCell (Nat.le_refl _) _)
   obtain ⟨L', cl', e, yX⟩ := DR CE.out
   rw [hn.out] at e yX
   simp only [Value.slice.injEq] at e
   obtain ⟨rfl, _, rfl⟩ := e
   have HIT := aa yX
   have Ut : Kp ((loadVar 117 ⟨w.heap.size, 0, none⟩).run Tryz.prog WF = .ok (.agg #[.int .i64 3, .int .i64 0, .slice none 0 0, .slice L n cl]) WF) := ⟨run_loadVar_row _ _ _ _ _ _ _ hgB Tryz.underlying117 rfl (by kernel_rfl)⟩
   have Xc := aa rV
   clear yX vS CE hgB rV
   go_wp2
   rw [Xc.out]
   exact bodyPost_ret (v := .agg #[.int .i64 3, .int .i64 0, .slice none 0 0, .slice L n cl]) (aC (p := 2) (ty := 117) rfl _ _ ⟨w.heap.size, 0, none⟩ _ rfl Ut.out) rfl ⟨⟨3, 0, none, 0, 0, L, n, cl⟩, rfl, HIT.out, fA.out⟩
def u_ (w : World) (b : Nat) (h : List Int) (c : Int) : Prop := w.heap[b]? = some (.cells (di h c) 43 (0, 0))
theorem u_.below {w w' : World} {b : Nat} {h : List Int} {c : Int} (hh : u_ w b h c) (hb : Below w.heap.size w w') : u_ w' b h c := (hb.block b (Array.getElem?_eq_some_iff.1 hh).1).trans hh
theorem u_.new (w : World) (h : List Int) (c : Int) : u_ (w.alloc (.cells (di h c) 43)) w.heap.size h c := heap_alloc_new _ _
theorem u_.lt {w : World} {b : Nat} {h : List Int} {c : Int} (hh : u_ w b h c) : b < w.heap.size := (Array.getElem?_eq_some_iff.1 hh).1
theorem u_.count {w : World} {b : Nat} {h : List Int} {c : Int} (hh : u_ w b h c) (hl : h.length = 32) : w.cell? ⟨b, 32, none⟩ = some (.int .i64 c) := by
 rw [ak hh, di, Array.getElem?_append_right (by rw [dJ, hl]; exact Nat.le_refl _), dJ, hl]
 rfl
theorem u_.sk {w : World} {b : Nat} {h : List Int} {c : Int} (hh : u_ w b h c) : Sk .u8 w (some ⟨b, 0, none⟩) h := fun j hj => ⟨b, 0, rfl, by
 rw [Nat.zero_add, ak hh, di, Array.getElem?_append_left (by rw [dJ]; exact hj)]
 exact xQ hj⟩
theorem u_.setRow {w : World} {b : Nat} {h h' : List Int} {c c' : Int} (hh : u_ w b h c) : u_ (w.setRow b (di h' c')) b h' c' := setRow_heap w b _ _ _ _ hh
def UR (h : List Int) (c : Int) (f : Bool) : Array Value := arr .u8 h ++ #[.int .i64 c, .bool f]
def zg (w : World) (b : Nat) (h : List Int) (c : Int) (f : Bool) : Prop := w.heap[b]? = some (.cells (UR h c f) 135 (0, 0))
variable {w : World} {b : Nat} {h : List Int} {c : Int} {f : Bool}
theorem zg.lt (hh : zg w b h c f) : b < w.heap.size := (Array.getElem?_eq_some_iff.1 hh).1
theorem zg.below {w' : World} (hh : zg w b h c f) (hb : Below w.heap.size w w') : zg w' b h c f := (hb.block b hh.lt).trans hh
theorem Dc (hl : h.length = 32) : (UR h c f)[32]? = some (.int .i64 c) := by
 rw [UR, Array.getElem?_append_right (by rw [dJ, hl]; exact Nat.le_refl _), dJ, hl]; rfl
theorem Kz (hl : h.length = 32) : (UR h c f)[33]? = some (.bool f) := by
 rw [UR, Array.getElem?_append_right (by rw [dJ, hl]; decide), dJ, hl]; rfl
theorem zg.count (hh : zg w b h c f) (hl : h.length = 32) : Own w ⟨b, 32, none⟩ (.int .i64 c) := ⟨(ak hh 32).trans (Dc hl), aX hh 32⟩
theorem zg.full (hh : zg w b h c f) (hl : h.length = 32) : Own w ⟨b, 33, none⟩ (.bool f) := ⟨(ak hh 33).trans (Kz hl), aX hh 33⟩
theorem zg.range (hh : zg w b h c f) (hl : h.length = 32) : w.rangeAt b 0 (di h c).toList := fun j v hj => by
 have hlt : j < 33 := by
  have h2 := (List.getElem?_eq_some_iff.1 hj).1
  rw [Array.length_toList, uk hl] at h2
  exact h2
 rw [Nat.zero_add, ak hh, ← hj, Array.getElem?_toList]
 by_cases h3 : j < 32
 · rw [UR, di, Array.getElem?_append_left (by rw [dJ, hl]; exact h3), Array.getElem?_append_left (by rw [dJ, hl]; exact h3)]
 ·
  obtain rfl : j = 32 := by omega
  rw [Dc hl, di, Array.getElem?_append_right (by rw [dJ, hl]; exact Nat.le_refl _), dJ, hl]
  rfl
theorem uP {w w' : World} (h : Below w.heap.size w w') (r : Option Nat) : w.grownBy w' r := ⟨h.os, h.tape, h.output, h.size, fun k hk _ => h.block k hk⟩
theorem yY {w : World} (b j : Nat) (v : Value) : w.grownBy (w.setCell ⟨b, j, none⟩ v) (some b) := pQ w b j v
structure PX (w0 : World) (hb : Nat) (box : Obj) (vX : Value) (nX : Nat) (xs : List Int) (vY : Value) (nY : Nat) (ys : List Int) (u : World) : Prop where
 b : Below w0.heap.size w0 u
 x : u.heap[hb]? = some box
 ox : u.ownsRow w0.heap.size 3 1 vX nX (xs.map (Value.int .i64))
 oy : u.ownsRow w0.heap.size 3 1 vY nY (ys.map (Value.int .i64))
 nxy : ∀ j, vX.ownBlock = some j → vY.ownBlock ≠ some j
 nx : vX.ownBlock ≠ some hb
 ny : vY.ownBlock ≠ some hb
theorem uC (v : Value) : v.ownBlock = none ∨ v.ownBlock ≠ none := by
 cases h : v.ownBlock with
 | none => exact .inl rfl
 | some j => exact .inr (by simp)
theorem BJ {u : World} {g : Nat} {o : Obj} (h : u.heap[g]? = some o) : g < u.heap.size := (Array.getElem?_eq_some_iff.1 h).1
section
variable {w0 : World} {hb : Nat} {box : Obj} {vX vY : Value} {nX nY : Nat} {xs ys : List Int} {u u2 : World}
theorem PX.below (h : PX w0 hb box vX nX xs vY nY ys u) (hq : Below u.heap.size u u2) : PX w0 hb box vX nX xs vY nY ys u2 :=
 ⟨ag h.b hq, (hq.block hb (BJ h.x)).trans h.x, h.ox.kept (uP hq none) (uC _), h.oy.kept (uP hq none) (uC _), h.nxy, h.nx, h.ny⟩
structure ED (u : World) (g : Nat) (a : Int) (vX vY : Value) : Prop where
 c : u.heap[g]? = some (.cells #[.int .i64 a] 3)
 nx : vX.ownBlock ≠ some g
 ny : vY.ownBlock ≠ some g
theorem ED.new (h : PX w0 hb box vX nX xs vY nY ys u) (a : Int) : ED (u.alloc (.cells #[.int .i64 a] 3)) u.heap.size a vX vY :=
 ⟨heap_alloc_new _ _, fun e => by have := (h.ox.lt _ e).2; omega, fun e => by have := (h.oy.lt _ e).2; omega⟩
theorem ED.below {g : Nat} {a : Int} (h : ED u g a vX vY) (hq : Below u.heap.size u u2) : ED u2 g a vX vY :=
 ⟨(hq.block g (BJ h.c)).trans h.c, h.nx, h.ny⟩
end
def Sh (w : World) (A : Option Addr) (l : List (Int × Int)) : Prop := ∀ k, k < l.length → ∃ b o, A = some ⟨b, o, none⟩ ∧ w.cell? ⟨b, o + k * 2, none⟩ = some (.int .i64 (l.getD k (0, 0)).1) ∧ w.cell? ⟨b, o + k * 2 + 1, none⟩ = some (.int .i64 (l.getD k (0, 0)).2)
theorem Sh.below {w w' : World} {A : Option Addr} {l : List (Int × Int)} (h : Sh w A l) (hb : Below w.heap.size w w') : Sh w' A l := fun k hk => by
 obtain ⟨b, o, h1, h2, h3⟩ := h k hk
 exact ⟨b, o, h1, cell_below h2 hb, cell_below h3 hb⟩
theorem CR {P Q G : Int} (h : aV P Q G = true) : nC Q = true := by
 simp [aV] at h
 exact h.2.2.2.2.1
theorem xB {w : World} {B : Nat} {v : Value} {n : Nat} {xs : List Int} (h : w.ownsRow B 3 1 v n (xs.map (Value.int .i64))) (hn : xs.length = n) : ∃ A c, v = .slice A n c ∧ Sl w A xs ∧ n ≤ c := by
 have ho : fT w B v xs := by unfold fT; rw [hn]; exact h
 obtain ⟨A, c, hv, hs, _⟩ := ho.sl
 rw [hn] at hv
 refine ⟨A, c, hv, hs, ?_⟩
 rcases h.2 with ⟨h1, h2⟩ | ⟨g, cap, cur, h1, _, _, h2, _⟩
 · omega
 ·
  rw [hv] at h1
  cases h1
  exact h2
theorem Br {xs : List Int} {m : Nat} (h : jU xs) : jU (xs.take m) := fun i j hi hj => by
 have hi2 : i < m ∧ i < xs.length := by rw [List.length_take] at hi; omega
 have := h i j hi2.2 hj
 rw [List.getD_eq_getElem?_getD, List.getElem?_take_of_lt hi2.1, ← List.getD_eq_getElem?_getD, List.getD_eq_getElem?_getD (l := xs.take m), List.getElem?_take_of_lt (by omega), ← List.getD_eq_getElem?_getD]
 exact this
theorem jk {P Q G need : Int} {cs ks : List Int} {cn kn : Nat} (h : tY P Q G need cs ks = true) (hcn : cs.length = cn) (hkn : ks.length = kn) : Hid (aV P Q G = true) ∧ 1 ≤ kn ∧ kn ≤ 8 ∧ (kn : Int) < Q ∧ 1 ≤ need ∧ need ≤ kn ∧ Hid ((cn : Int) = need) := by
 unfold tY at h
 simp only [Bool.and_eq_true, decide_eq_true_eq] at h
 obtain ⟨n1, n2, n3, n4, n5⟩ := iE h.2.1
 rw [hkn] at n1 n2 n3 n5
 exact ⟨aa h.1, n1, n2, n3, n4, n5, aa (by rw [← hcn]; exact h.2.2.1)⟩
def Jj (P Q : Int) (vs ws : Nat → Int) : Nat → Int
 | 0 => 1
 | m + 1 => Jj P Q vs ws m * pw (vs m) (ws m % Q) P % P
def Ct (P Q E : Int) (vs ws : Nat → Int) : Nat → Int
 | 0 => E
 | m + 1 => Ct P Q E vs ws m * pw (vs m) ((0 - ws m) % Q) P % P
theorem OQ {P Q v a : Int} (hP : 2 ≤ P) (hQ : 1 ≤ Q) (hv : pw v Q P = 1) : Cg P (pw v ((0 - a) % Q) P * pw v (a % Q) P) 1 := by
 have h1 : 0 ≤ (0 - a) % Q := Int.emod_nonneg _ (by omega)
 have h2 : 0 ≤ a % Q := Int.emod_nonneg _ (by omega)
 refine (Cg.mod P _).symm.trans (Cg.of_eq ?_)
 rw [← Fw _ _ _ _ h1 h2, Lh hP hQ (by omega) hv]
 rw [show ((0 - a) % Q + a % Q) % Q = 0 by rw [← Int.add_emod, show 0 - a + a = 0 by omega, Int.zero_emod]]
 exact OO _ _ hP
theorem Qv {P Q E : Int} {vs ws : Nat → Int} (hP : 2 ≤ P) (hQ : 1 ≤ Q) : ∀ n, (∀ k, k < n → pw (vs k) Q P = 1) → Cg P (Ct P Q E vs ws n * Jj P Q vs ws n) E
 | 0, _ => Cg.of_eq (by rw [Ct, Jj, Int.mul_one])
 | n + 1, h => by
  have ih := Qv (E := E) (vs := vs) (ws := ws) hP hQ n fun k hk => h k (by omega)
  have hu := OQ (a := ws n) hP hQ (h n (by omega))
  have h1 : Cg P (Ct P Q E vs ws (n + 1)) (Ct P Q E vs ws n * pw (vs n) ((0 - ws n) % Q) P) := Cg.mod _ _
  have h2 : Cg P (Jj P Q vs ws (n + 1)) (Jj P Q vs ws n * pw (vs n) (ws n % Q) P) := Cg.mod _ _
  exact (h1.mul h2).trans ((Cg.of_eq (by grind)).trans ((ih.mul hu).trans (Cg.of_eq (by grind))))
theorem yF {P Q E : Int} {vs ws : Nat → Int} (hP : 2 ≤ P) (h0 : 0 ≤ E) (h1 : E < P) : ∀ n, 0 ≤ Ct P Q E vs ws n ∧ Ct P Q E vs ws n < P
 | 0 => ⟨h0, h1⟩
 | n + 1 => ⟨Int.emod_nonneg _ (by omega), Int.emod_lt_of_pos _ (by omega)⟩
theorem Ho {P Q : Int} {vs ws : Nat → Int} (hP : 2 ≤ P) (hQ : 1 ≤ Q) : ∀ n, (∀ k, k < n → aG P Q (vs k) = true) → aG P Q (Jj P Q vs ws n) = true
 | 0, _ => Bv hP
 | n + 1, h => xH hP hQ (Ho hP hQ n fun k hk => h k (by omega)) (vM hP hQ (Int.emod_nonneg _ (by omega)) (h n (by omega)))
theorem Em {P Q E x : Int} {vs ws : Nat → Int} {n : Nat} (hP : 2 ≤ P) (hQ : 1 ≤ Q) (h0 : 0 ≤ E) (h1 : E < P) (hv : ∀ k, k < n → pw (vs k) Q P = 1) (hx : x * Jj P Q vs ws n % P = 1) :
  E * x % P = Ct P Q E vs ws n := by
 have h := Qv (E := E) (ws := ws) hP hQ n hv
 have hx' : Cg P (x * Jj P Q vs ws n) 1 := (Cg.mod P _).symm.trans (Cg.of_eq hx)
 have h2 : Cg P (E * x) (Ct P Q E vs ws n) := (h.symm.mul (Cg.refl P x)).trans ((Cg.of_eq (by grind)).trans (((Cg.refl P (Ct P Q E vs ws n)).mul hx').trans (Cg.of_eq (Int.mul_one _))))
 have hb := yF (E := E) (vs := vs) (ws := ws) (Q := Q) hP h0 h1 n
 rw [h2.eq, Int.emod_eq_of_lt hb.1 hb.2]
theorem mD {w : World} {p : Addr} {v : Value} {a : Nat} {cs : Array Value} (h : Own w p v) (hne : p.block ≠ a) : Own (w.setRow a cs) p v := by
 have hb := setRow_other w a p.block cs hne
 exact ⟨(World.cell?_of_block hb).trans h.1, by
  have h2 := h.2
  simp only [World.frozen?] at h2 ⊢
  rw [hb]
  exact h2⟩
def sV (l : List Int) : Prop := l.length ≤ 1000 ∧ ∀ x ∈ l, -9223372036854775808 ≤ x ∧ x < 9223372036854775808
theorem sV.fits {l : List Int} (h : sV l) : Hid (fits 7 (.lst (l.map .int))) := aa (by
 refine ⟨by rw [List.length_map]; exact h.1, fun x hx => ?_⟩
 obtain ⟨y, hy, rfl⟩ := List.mem_map.1 hx
 exact h.2 y hy)
theorem JC (l : List Int) : (eZ (l.map .int)).length = 9 * l.length := by
 induction l with
 | nil => rfl
 | cons x l ih => rw [List.map_cons, eZ, List.length_append, ih, lS, List.length_cons, fH, List.length_cons]; omega
theorem sV.len {l : List Int} (h : sV l) : Hid ((enc (.lst (l.map .int))).length ≤ 14000) := aa (by
 rw [eH, List.length_cons, List.length_append, dV, JC]
 have := h.1
 omega)
def iB (h s l : List Int) : List Int := EC h s (.lst (l.map .int))
theorem Nn (h s l : List Int) : (iB h s l).length = 32 := nG _ _ _
theorem Gu (h s l : List Int) : az (iB h s l) = true := iJ _
theorem rP (A : Option Addr) (n cA : Nat) (s : ByteArray) (a e0 : Nat) (x : Int) (hx : (x == 0) = false) (w : World) (hE : Hid (Own w ⟨e0, 0, none⟩ (.int .i64 x))) :
  Calls Tryz.prog 244 #[.string s, .slice A n cA, .pointer (some ⟨e0, 0, none⟩), .pointer (some ⟨a, 0, none⟩)] w fun e w' => (∃ v, e = .returned v) ∧ w' = w := by
 obtain ⟨hc, hf⟩ := hE.out
 go_in
 go_wp2
 go_end0
 exact ⟨⟨_, rfl⟩, rfl⟩
theorem JL (h : List Int) (hl : Hid (h.length = 32)) (hb : Hid (az h = true)) (c : Int) (hc0 : 0 ≤ c) (hc1 : c < 1000) (s : ByteArray) (hs : s.size ≤ 1000) (hr : Hid (gI (aU s) = true)) (A : Option Addr) (l : List Int) (n cA : Nat) (hn : Hid (l.length = n)) (hok : Hid (sV l)) (a e0 B : Nat) (w : World) (hv : Hid (bF w)) (hS : Hid (Sl w A l))
  (hT : Hid (dK w a h c)) (hE : Hid (Own w ⟨e0, 0, none⟩ (.int .i64 0))) (hne : e0 ≠ a) (hBa : B ≤ a) (UX : B ≤ e0) :
  Calls Tryz.prog 244 #[.string s, .slice A n cA, .pointer (some ⟨e0, 0, none⟩), .pointer (some ⟨a, 0, none⟩)] w fun e w' => (∃ v, e = .returned v) ∧ dK w' a (iB h (aU s) l) (c + 1) ∧ Own w' ⟨e0, 0, none⟩ (.int .i64 0) ∧ Below B w w' := by
 have hbig : n ≤ 1000 := by rw [← hn.out]; exact hok.out.1
 have HF := hok.out.fits
 have qB := hok.out.len
 obtain ⟨hc, hf⟩ := hE.out
 have HBS : Hid (B ≤ w.heap.size) := aa (by have := hT.out.lt; omega)
 go_in
 go_wp2_with ((with_reducible show wpList _ _ _ (⟨some 9, _, _, _, _, _⟩ :: _) _ _); refine wpList_load_row rfl 237 _ rfl a rfl _ _ _ _ hT.out Tryz.underlying237 rfl (aO hl.out) ?_)
 refine (Kr h hl hb c hc0 hc1 s hs hr A l n cA hn hbig _ hv hS HF qB).mono ?_
 rintro e w1 ⟨rfl, hb1⟩
 have HT1 := aa (hT.out.below hb1)
 have HE1 := aa (hE.out.below hb1)
 have HB1 : Hid (Below B w w1) := aa (hb1.mono HBS.out)
 obtain ⟨R, hR⟩ : ∃ R, EC h (aU s) (.lst (l.map .int)) = R := ⟨_, rfl⟩
 have hRl : R.length = 32 := by rw [← hR]; exact nG _ _ _
 have HN : Kp (iB h (aU s) l = R) := ⟨hR⟩
 have fo := aa hRl
 rw [hR, show xR R (c + 1) 0 = .tuple #[.agg (di R (c + 1)), .int .i64 0] from rfl]
 have HE2 := aa (mD (cs := di R (c + 1)) HE1.out (show (⟨e0, 0, none⟩ : Addr).block ≠ a from hne))
 clear hb1 hc hf hR hRl
 obtain ⟨q1, q2⟩ := HE2.out
 go_wp2_with ((with_reducible show wpList _ _ _ (⟨none, _, _, _, _, _⟩ :: _) _ _); refine wpList_store_row rfl 237 _ _ rfl a (di R (c + 1)) rfl rfl _ _ HT1.out (aO fo.out) (fq hl.out fo.out) (dS _ _) ?_)
 have HT2 : Hid (dK (w1.setRow a (di R (c + 1))) a R (c + 1)) := aa HT1.out.setRow
 have hT3 : dK ((w1.setRow a (di R (c + 1))).setCell ⟨e0, 0, none⟩ (.int .i64 0)) a R (c + 1) := (heap_setCell_other _ _ _ _ (Ne.symm hne)).trans HT2.out
 have hE3 := dI (u := .int .i64 0) HE2.out
 have hB3 : Below B w ((w1.setRow a (di R (c + 1))).setCell ⟨e0, 0, none⟩ (.int .i64 0)) := (aj HB1.out hBa).setCell UX _
 go_end0
 exact ⟨⟨_, rfl⟩, by rw [HN.out]; exact hT3, hE3, hB3⟩
def lN : ByteArray := { data := #[103, 114, 111, 117, 112] }
def LJ : ByteArray := { data := #[121] }
def ni : ByteArray := { data := #[98, 97, 115, 101, 115] }
def dZ : ByteArray := { data := #[99, 111, 109, 109, 105, 116] }
def qp : ByteArray := { data := #[99, 104, 97, 108, 108, 101, 110, 103, 101] }
theorem DJ : Hid (gI (aU lN) = true) := aa (by kernel_rfl)
theorem VM : Hid (gI (aU LJ) = true) := aa (by kernel_rfl)
theorem DK : Hid (gI (aU ni) = true) := aa (by kernel_rfl)
theorem Aq : Hid (gI (aU dZ) = true) := aa (by kernel_rfl)
theorem Qx : Hid (gI (aU qp) = true) := aa (by kernel_rfl)
def gZ (h : List Int) : List Row → List Int
 | [] => h
 | r :: rs => gZ (iB h (aU ni) r.xs) rs
def zb (P Q G : Int) (lb : List Int) (ys : List Int) (rows : List Row) (al : List Int) : Int :=
 AO Q (iB (gZ (iB (iB (newL lb) (aU lN) [P, Q, G]) (aU LJ) ys) rows) (aU dZ) al) (aU qp)
theorem wH {h : List Int} {rows : List Row} {k : Nat} (hk : k < rows.length) : gZ h (rows.drop k) = gZ (iB h (aU ni) (rows.getD k dh).xs) (rows.drop (k + 1)) := by
 rw [List.drop_eq_getElem_cons hk, List.getD_eq_getElem?_getD, List.getElem?_eq_getElem hk]
 rfl
def rX (h : List Int) : Prop := h.length = 32 ∧ az h = true
theorem qE (h s l : List Int) : rX (iB h s l) := ⟨Nn _ _ _, Gu _ _ _⟩
theorem Kw (l : List Int) : rX (newL l) := ⟨dF _ _, iJ _⟩
def JM (W : World) (a : Nat) (h : List Int) (c : Int) (x : Int) (u : World) : Prop := dK u a h c ∧ Own u ⟨a + 1, 0, none⟩ (.int .i64 x) ∧ Below W.heap.size W u
theorem JM.alloc {W : World} {a : Nat} {h : List Int} {c x : Int} {u : World} (hI : JM W a h c x u) (o : Obj) : JM W a h c x (u.alloc o) :=
 ⟨hI.1.below (af _ _), hI.2.1.below (af _ _), ag hI.2.2 (af _ _)⟩
theorem JM.below {W : World} {a : Nat} {h : List Int} {c x : Int} {u u' : World} (hI : JM W a h c x u) (hb : Below u.heap.size u u') : JM W a h c x u' :=
 ⟨hI.1.below hb, hI.2.1.below hb, ag hI.2.2 hb⟩
theorem rO (W : World) (a : Nat) (hWa : W.heap.size ≤ a) (h : List Int) (hst : Hid (rX h)) (c : Int) (hc0 : 0 ≤ c) (hc1 : c < 1000) (s : ByteArray) (hs : s.size ≤ 1000) (hr : Hid (gI (aU s) = true)) (A : Option Addr) (l : List Int) (n cA : Nat) (hn : Hid (l.length = n)) (hok : Hid (sV l)) (u : World) (hv : Hid (bF W)) (hS : Hid (Sl u A l)) (hI : Hid (JM W a h c 0 u)) :
  Calls Tryz.prog 244 #[.string s, .slice A n cA, .pointer (some ⟨a + 1, 0, none⟩), .pointer (some ⟨a, 0, none⟩)] u fun e u' => (∃ v, e = .returned v) ∧ JM W a (iB h (aU s) l) (c + 1) 0 u' := by
 refine (JL h (aa hst.out.1) (aa hst.out.2) c hc0 hc1 s hs hr A l n cA hn hok a (a + 1) a u (aa (hv.out.below hI.out.2.2)) hS (aa hI.out.1) (aa hI.out.2.1) (by omega) (Nat.le_refl _) (by omega)).mono ?_
 rintro e u' ⟨he, hT, hE, hb⟩
 exact ⟨he, hT, hE, hI.out.2.2.trans (hb.mono hWa)⟩
theorem Ib (w : World) (T : TypeId) (a b c : Int) : Cells (w.alloc (.cells #[.int .i64 a, .int .i64 b, .int .i64 c] T)) w.heap.size [a, b, c] := by
 intro k hk
 rw [World.cell?_alloc_at _ _ _ _ rfl]
 match k, hk with
 | 0, _ => rfl
 | 1, _ => rfl
 | 2, _ => rfl
theorem Ab {w1 : World} {S0 : List Int} {c x : Int} (hl : S0.length = 32) :
  JM w1 w1.heap.size S0 c x ((((w1.alloc (.cells #[.int .u8 0, .int .u8 0, .int .u8 0, .int .u8 0, .int .u8 0, .int .u8 0, .int .u8 0, .int .u8 0, .int .u8 0, .int .u8 0, .int .u8 0, .int .u8 0, .int .u8 0, .int .u8 0, .int .u8 0, .int .u8 0, .int .u8 0, .int .u8 0, .int .u8 0, .int .u8 0, .int .u8 0, .int .u8 0, .int .u8 0, .int .u8 0, .int .u8 0, .int .u8 0, .int .u8 0, .int .u8 0, .int .u8 0, .int .u8 0, .int .u8 0, .int .u8 0, .int .i64 0] 237)).alloc (.cells #[.int .i64 0] 30)).setRow w1.heap.size (di S0 c)).setCell ⟨w1.heap.size + 1, 0, none⟩ (.int .i64 x)) := by
 have hT : dK ((w1.alloc (.cells #[.int .u8 0, .int .u8 0, .int .u8 0, .int .u8 0, .int .u8 0, .int .u8 0, .int .u8 0, .int .u8 0, .int .u8 0, .int .u8 0, .int .u8 0, .int .u8 0, .int .u8 0, .int .u8 0, .int .u8 0, .int .u8 0, .int .u8 0, .int .u8 0, .int .u8 0, .int .u8 0, .int .u8 0, .int .u8 0, .int .u8 0, .int .u8 0, .int .u8 0, .int .u8 0, .int .u8 0, .int .u8 0, .int .u8 0, .int .u8 0, .int .u8 0, .int .u8 0, .int .i64 0] 237)).alloc (.cells #[.int .i64 0] 30)) w1.heap.size (dD 32) 0 := by rw [II]; exact heap_alloc2_old _ _ _
 have hE : Own ((w1.alloc (.cells #[.int .u8 0, .int .u8 0, .int .u8 0, .int .u8 0, .int .u8 0, .int .u8 0, .int .u8 0, .int .u8 0, .int .u8 0, .int .u8 0, .int .u8 0, .int .u8 0, .int .u8 0, .int .u8 0, .int .u8 0, .int .u8 0, .int .u8 0, .int .u8 0, .int .u8 0, .int .u8 0, .int .u8 0, .int .u8 0, .int .u8 0, .int .u8 0, .int .u8 0, .int .u8 0, .int .u8 0, .int .u8 0, .int .u8 0, .int .u8 0, .int .u8 0, .int .u8 0, .int .i64 0] 237)).alloc (.cells #[.int .i64 0] 30)) ⟨w1.heap.size + 1, 0, none⟩ (.int .i64 0) := ⟨ak (heap_alloc2_new _ _ _) 0, aX (heap_alloc2_new _ _ _) 0⟩
 have hb : Below w1.heap.size w1 ((w1.alloc (.cells #[.int .u8 0, .int .u8 0, .int .u8 0, .int .u8 0, .int .u8 0, .int .u8 0, .int .u8 0, .int .u8 0, .int .u8 0, .int .u8 0, .int .u8 0, .int .u8 0, .int .u8 0, .int .u8 0, .int .u8 0, .int .u8 0, .int .u8 0, .int .u8 0, .int .u8 0, .int .u8 0, .int .u8 0, .int .u8 0, .int .u8 0, .int .u8 0, .int .u8 0, .int .u8 0, .int .u8 0, .int .u8 0, .int .u8 0, .int .u8 0, .int .u8 0, .int .u8 0, .int .i64 0] 237)).alloc (.cells #[.int .i64 0] 30)) := aI (Below.refl _ _)
 refine ⟨(heap_setCell_other _ _ _ _ (show w1.heap.size ≠ w1.heap.size + 1 by omega)).trans hT.setRow, dI (mD hE (show w1.heap.size + 1 ≠ w1.heap.size by omega)), (aj hb (Nat.le_refl _)).setCell (Nat.le_succ _) _⟩
theorem LH (P Q G : Int) (Y : Option Addr) (ys : List Int) (yn yc : Nat) (B : Option Addr) (rows : List Row) (bn bc : Nat) (A : Option Addr) (al : List Int) (na ca : Nat) (s : ByteArray) (hs : s.size ≤ 1000) (hr : Hid (gI (aU s) = true))
  (hyn : Hid (ys.length = yn)) (hbn : Hid (rows.length = bn)) (hna : Hid (al.length = na)) (D8 : bn ≤ 900) (Ls : Hid (sV [P, Q, G])) (Lp : Hid (sV ys)) (Lt : Hid (sV al)) (Lr : Hid (∀ k, k < rows.length → sV (rows.getD k dh).xs))
  (QG : 2 ≤ Q) (QF : Q < 2305843009213693952) (V : Int) (hV : Kp (zb P Q G (aU s) ys rows al = V)) (w : World) (hv : Hid (bF w)) (hY : Hid (Sl w Y ys)) (hB : Hid (Rw w B rows)) (hA : Hid (Sl w A al)) :
  Calls Tryz.prog 223 #[gv P Q G, .agg #[.slice Y yn yc, .slice B bn bc], .slice A na ca, .string s] w (Rt w (.tuple #[.int .i64 V, .int .i64 0])) := by
 obtain ⟨W, hW⟩ : ∃ W, (w.alloc (bq P Q G)).alloc (.cells #[.slice Y yn yc, .slice B bn bc] 189) = W := ⟨_, rfl⟩
 have bQ : Hid (Below w.heap.size w W) := aa (by rw [← hW]; exact aI (Below.refl _ _))
 have UD : Hid (nS W w.heap.size P Q G) := aa (by rw [← hW]; exact (aW w P Q G).below (af _ _))
 have Ui : Hid (p_ W (w.heap.size + 1) (.slice Y yn yc) (.slice B bn bc)) := aa (by rw [← hW]; exact dN w _ _ _ _)
 have HV := aa (hv.out.below bQ.out)
 have HYY := aa (hY.out.below bQ.out)
 have IE := aa (hB.out.below bQ.out)
 have HAA := aa (hA.out.below bQ.out)
 have HW := aa hW
 clear hW hv hY hB hA
 go_in
 go_upto_region 1 with (fail)
 rw [HW.out]
 clear HW
 go_wp2_with fail
 refine (Om s hs hr _ HV).mono ?_
 rintro e w1 ⟨rfl, hb1⟩
 obtain ⟨S0, hS0⟩ : ∃ S, newL (aU s) = S := ⟨_, rfl⟩
 have Io : Hid (rX S0) := aa (by rw [← hS0]; exact Kw _)
 have qy : Kp (AO Q (iB (gZ (iB (iB S0 (aU lN) [P, Q, G]) (aU LJ) ys) rows) (aU dZ) al) (aU qp) = V) := ⟨by rw [← hS0]; exact hV.1⟩
 rw [hS0, show xR S0 0 0 = .tuple #[.agg (di S0 0), .int .i64 0] from rfl]
 have HB1 := aa hb1
 have EX := aa Io.out.1
 clear hb1 hS0 hV
 have Xd : Hid (dK ((w1.alloc (.cells #[.int .u8 0, .int .u8 0, .int .u8 0, .int .u8 0, .int .u8 0, .int .u8 0, .int .u8 0, .int .u8 0, .int .u8 0, .int .u8 0, .int .u8 0, .int .u8 0, .int .u8 0, .int .u8 0, .int .u8 0, .int .u8 0, .int .u8 0, .int .u8 0, .int .u8 0, .int .u8 0, .int .u8 0, .int .u8 0, .int .u8 0, .int .u8 0, .int .u8 0, .int .u8 0, .int .u8 0, .int .u8 0, .int .u8 0, .int .u8 0, .int .u8 0, .int .u8 0, .int .i64 0] 237)).alloc (.cells #[.int .i64 0] 30)) w1.heap.size (dD 32) 0) := aa (by rw [II]; exact heap_alloc2_old _ _ _)
 have XZ : Hid (Own ((w1.alloc (.cells #[.int .u8 0, .int .u8 0, .int .u8 0, .int .u8 0, .int .u8 0, .int .u8 0, .int .u8 0, .int .u8 0, .int .u8 0, .int .u8 0, .int .u8 0, .int .u8 0, .int .u8 0, .int .u8 0, .int .u8 0, .int .u8 0, .int .u8 0, .int .u8 0, .int .u8 0, .int .u8 0, .int .u8 0, .int .u8 0, .int .u8 0, .int .u8 0, .int .u8 0, .int .u8 0, .int .u8 0, .int .u8 0, .int .u8 0, .int .u8 0, .int .u8 0, .int .u8 0, .int .i64 0] 237)).alloc (.cells #[.int .i64 0] 30)) ⟨w1.heap.size + 1, 0, none⟩ (.int .i64 0)) := aa ⟨ak (heap_alloc2_new _ _ _) 0, aX (heap_alloc2_new _ _ _) 0⟩
 have X0 := aa (mD (a := w1.heap.size) (cs := di S0 0) XZ.out (show w1.heap.size + 1 ≠ w1.heap.size by omega))
 obtain ⟨q1, q2⟩ := X0.out
 go_upto_region 2 with ((with_reducible show wpList _ _ _ (⟨none, _, _, _, _, _⟩ :: _) _ _); refine wpList_store_row rfl 237 _ _ rfl w1.heap.size (di S0 0) rfl rfl _ _ Xd.out (aO EX.out) (fq (h := dD 32) (c := 0) rfl EX.out) (dS _ _) ?_)
 clear q1 q2 Xd XZ X0
 have hI2 := Ab (w1 := w1) (c := 0) (x := 0) EX.out
 obtain ⟨W2, hW2⟩ : ∃ u, ((((w1.alloc (.cells #[.int .u8 0, .int .u8 0, .int .u8 0, .int .u8 0, .int .u8 0, .int .u8 0, .int .u8 0, .int .u8 0, .int .u8 0, .int .u8 0, .int .u8 0, .int .u8 0, .int .u8 0, .int .u8 0, .int .u8 0, .int .u8 0, .int .u8 0, .int .u8 0, .int .u8 0, .int .u8 0, .int .u8 0, .int .u8 0, .int .u8 0, .int .u8 0, .int .u8 0, .int .u8 0, .int .u8 0, .int .u8 0, .int .u8 0, .int .u8 0, .int .u8 0, .int .u8 0, .int .i64 0] 237)).alloc (.cells #[.int .i64 0] 30)).setRow w1.heap.size (di S0 0)).setCell ⟨w1.heap.size + 1, 0, none⟩ (.int .i64 0)) = u := ⟨_, rfl⟩
 rw [hW2] at hI2 ⊢
 obtain ⟨a, ha⟩ : ∃ a, w1.heap.size = a := ⟨_, rfl⟩
 have hWa : W.heap.size ≤ a := by rw [← ha]; exact HB1.out.size
 have Mv : JM W a S0 0 0 W2 := ⟨by rw [← ha]; exact hI2.1, by rw [← ha]; exact hI2.2.1, ag HB1.out hI2.2.2⟩
 rw [ha]
 have HI2 := aa Mv
 clear hW2 hI2 Mv ha HB1
 obtain ⟨c0, c1, c2⟩ := UD.out.below HI2.out.2.2
 go_wp2_with fail
 refine (rO W a hWa S0 Io 0 (by omega) (by omega) lN (by decide) DJ (some ⟨W2.heap.size, 0, none⟩) [P, Q, G] 3 3 (aa rfl) Ls _ HV (aa (gF (Ib W2 _ P Q G))) (aa (HI2.out.alloc _))).mono ?_
 rintro e w3 ⟨⟨v3, rfl⟩, ZW⟩
 clear c0 c1 c2 HI2
 obtain ⟨S1, hS1⟩ : ∃ S, iB S0 (aU lN) [P, Q, G] = S := ⟨_, rfl⟩
 have YI : Hid (rX S1) := aa (by rw [← hS1]; exact qE _ _ _)
 have ry : Kp (AO Q (iB (gZ (iB S1 (aU LJ) ys) rows) (aU dZ) al) (aU qp) = V) := ⟨by rw [← hS1]; exact qy.1⟩
 rw [hS1] at ZW
 have HI3 := aa ZW
 clear ZW hS1 qy
 obtain ⟨d0, d1⟩ := Ui.out.below HI3.out.2.2
 go_wp2_with fail
 refine (rO W a hWa S1 YI (0 + 1) (by omega) (by omega) LJ (by decide) VM Y ys yn yc hyn Lp _ HV (aa (HYY.out.below HI3.out.2.2)) HI3).mono ?_
 rintro e w4 ⟨⟨v4, rfl⟩, Pz⟩
 clear d0 d1 HI3
 obtain ⟨S2, hS2⟩ : ∃ S, iB S1 (aU LJ) ys = S := ⟨_, rfl⟩
 have HS2 : Hid (rX S2) := aa (by rw [← hS2]; exact qE _ _ _)
 have xq : Kp (AO Q (iB (gZ S2 rows) (aU dZ) al) (aU qp) = V) := ⟨by rw [← hS2]; exact ry.1⟩
 rw [hS2] at Pz
 have HI4 := aa Pz
 clear Pz hS2 ry
 obtain ⟨S3, Tf⟩ : ∃ S, gZ S2 rows = S := ⟨_, rfl⟩
 have HR3 : Kp (gZ S2 (rows.drop 0) = S3) := ⟨Tf⟩
 have xm : Kp (AO Q (iB S3 (aU dZ) al) (aU qp) = V) := ⟨by rw [← Tf]; exact xq.1⟩
 clear Tf xq
 obtain ⟨d0, d1⟩ := Ui.out.below HI4.out.2.2
 go_wp2_with fail
 clear d0 d1
 go_loopw [39] (fun i u => ∃ (k : Nat) (S : List Int), k ≤ bn ∧ i = .int .i64 k ∧ Hid (rX S) ∧ Kp (gZ S (rows.drop k) = S3) ∧ Hid (JM W a S (2 + k) 0 u)) (fun i _ => bn - (intOf i).toNat)
 case atStart => exact ⟨0, S2, by omega, rfl, HS2, HR3, HI4⟩
 case round =>
  obtain ⟨k, S, hk, rfl, HS, HR, HI⟩ := hrel
  by_cases hlt : k < bn
  ·
   have hkl : k < rows.length := by rw [hbn.out]; exact hlt
   obtain ⟨⟨b, o, hA, hi0⟩, hok⟩ := IE.out.below HI.out.2.2 k hkl
   subst hA
   have Nw := Kp.mk ((wH (h := S) hkl).symm.trans HR.1)
   have nV := aa (Lr.out k hkl)
   obtain ⟨R, hR⟩ : ∃ R, rows.getD k dh = R := ⟨_, rfl⟩
   rw [hR] at hi0 hok Nw nV
   obtain ⟨p, rn, rc, xs⟩ := R
   have HL := aa hok.1
   have HX := aa hok.2
   dsimp only [Row.val] at hi0 Nw nV
   clear hR hok hkl
   go_wp2_with fail
   refine (rO W a hWa S HS (2 + k) (by omega) (by omega) ni (by decide) DK p xs rn rc HL nV _ HV HX HI).mono ?_
   rintro e w5 ⟨⟨v5, rfl⟩, ZV⟩
   obtain ⟨S', hS'⟩ : ∃ S', iB S (aU ni) xs = S' := ⟨_, rfl⟩
   have U0 : Hid (rX S') := aa (by rw [← hS']; exact qE _ _ _)
   have HRR : Kp (gZ S' (rows.drop (k + 1)) = S3) := ⟨by rw [← hS']; exact Nw.1⟩
   rw [hS', show (2 + (k : Int) + 1) = 2 + ((k + 1 : Nat) : Int) by omega] at ZV
   have HI5 := aa ZV
   clear ZV hS' Nw hi0
   go_wp2
   go_roundw
   case rel => exact ⟨k + 1, S', by omega, by go_num, U0, HRR, HI5⟩
   case measure => simp [intOf]; omega
  ·
   obtain rfl : k = bn := by omega
   have hd : rows.drop k = [] := List.drop_of_length_le (by rw [hbn.out]; exact Nat.le_refl _)
   have QZ : Kp (S = S3) := ⟨by have h := HR.1; rwa [hd] at h⟩
   have tN : Kp (AO Q (iB S (aU dZ) al) (aU qp) = V) := ⟨by rw [QZ.1]; exact xm.1⟩
   clear hd HR QZ xm hlt
   go_wp2_with fail
   refine (rO W a hWa S HS (2 + k) (by omega) (by omega) dZ (by decide) Aq A al na ca hna Lt _ HV (aa (HAA.out.below HI.out.2.2)) HI).mono ?_
   rintro e w6 ⟨⟨v6, rfl⟩, ZU⟩
   obtain ⟨S4, Px⟩ : ∃ S', iB S (aU dZ) al = S' := ⟨_, rfl⟩
   have xU : Hid (rX S4) := aa (by rw [← Px]; exact qE _ _ _)
   have HV5 : Kp (AO Q S4 (aU qp) = V) := ⟨by rw [← Px]; exact tN.1⟩
   rw [Px] at ZU
   have Cf := aa ZU
   have Ux := aa xU.out.1
   clear ZU Px tN HI
   obtain ⟨z0, z1⟩ := Cf.out.2.1
   obtain ⟨c0, c1, c2⟩ := UD.out.below Cf.out.2.2
   have zP := aa Cf.out.1
   go_wp2_with ((with_reducible show wpList _ _ _ (⟨some 54, _, _, _, _, _⟩ :: _) _ _); refine wpList_load_row rfl 237 _ rfl a rfl _ _ _ _ zP.out Tryz.underlying237 rfl (aO Ux.out) ?_)
   refine (Kt S4 Ux (aa xU.out.2) (2 + k + 1) (by omega) (by omega) qp (by decide) Qx Q QG QF _ (aa (HV.out.below Cf.out.2.2))).mono ?_
   rintro e w7 ⟨rfl, Cw⟩
   obtain ⟨G4, hG4⟩ : ∃ G4, QS Q S4 (aU qp) = G4 := ⟨_, rfl⟩
   have Qh : Hid (G4.length = 32) := aa (by rw [← hG4]; exact nG _ _ _)
   rw [hG4, HV5.1, show U_ G4 (2 + (k : Int) + 1 + 1) V 0 = .tuple #[.agg (di G4 (2 + (k : Int) + 1 + 1)), .int .i64 V, .int .i64 0] from rfl]
   have YO := aa (Cf.out.below Cw)
   obtain ⟨y0, y1⟩ := YO.out.2.1
   clear Cw hG4 z0 z1 c0 c1 c2
   have HTy : Hid (dK (w7.alloc (.cells #[.int .u8 0, .int .u8 0, .int .u8 0, .int .u8 0, .int .u8 0, .int .u8 0, .int .u8 0, .int .u8 0, .int .u8 0, .int .u8 0, .int .u8 0, .int .u8 0, .int .u8 0, .int .u8 0, .int .u8 0, .int .u8 0, .int .u8 0, .int .u8 0, .int .u8 0, .int .u8 0, .int .u8 0, .int .u8 0, .int .u8 0, .int .u8 0, .int .u8 0, .int .u8 0, .int .u8 0, .int .u8 0, .int .u8 0, .int .u8 0, .int .u8 0, .int .u8 0, .int .i64 0] 237)) w7.heap.size (dD 32) 0) := aa (by rw [II]; exact heap_alloc_new _ _)
   have HEw := aa (mD (a := w7.heap.size) (cs := di G4 (2 + (k : Int) + 1 + 1)) (YO.out.2.1.below (af w7 (.cells #[.int .u8 0, .int .u8 0, .int .u8 0, .int .u8 0, .int .u8 0, .int .u8 0, .int .u8 0, .int .u8 0, .int .u8 0, .int .u8 0, .int .u8 0, .int .u8 0, .int .u8 0, .int .u8 0, .int .u8 0, .int .u8 0, .int .u8 0, .int .u8 0, .int .u8 0, .int .u8 0, .int .u8 0, .int .u8 0, .int .u8 0, .int .u8 0, .int .u8 0, .int .u8 0, .int .u8 0, .int .u8 0, .int .u8 0, .int .u8 0, .int .u8 0, .int .u8 0, .int .i64 0] 237))) (show a + 1 ≠ w7.heap.size by have := YO.out.1.lt; have := World.block_lt_of_cell? _ _ y0; simp at this; omega))
   obtain ⟨x0, x1⟩ := HEw.out
   go_wp2_with ((with_reducible show wpList _ _ _ (⟨none, _, _, _, _, _⟩ :: _) _ _); refine wpList_store_row rfl 237 _ _ rfl w7.heap.size (di G4 (2 + (k : Int) + 1 + 1)) rfl rfl _ _ HTy.out (aO Qh.out) (fq (h := dD 32) (c := 0) rfl Qh.out) (dS _ _) ?_)
   have hZ := dI (u := .int .i64 0) HEw.out
   have Yr : Below w.heap.size w (((w7.alloc (.cells #[.int .u8 0, .int .u8 0, .int .u8 0, .int .u8 0, .int .u8 0, .int .u8 0, .int .u8 0, .int .u8 0, .int .u8 0, .int .u8 0, .int .u8 0, .int .u8 0, .int .u8 0, .int .u8 0, .int .u8 0, .int .u8 0, .int .u8 0, .int .u8 0, .int .u8 0, .int .u8 0, .int .u8 0, .int .u8 0, .int .u8 0, .int .u8 0, .int .u8 0, .int .u8 0, .int .u8 0, .int .u8 0, .int .u8 0, .int .u8 0, .int .u8 0, .int .u8 0, .int .i64 0] 237)).setRow w7.heap.size (di G4 (2 + (k : Int) + 1 + 1))).setCell ⟨a + 1, 0, none⟩ (.int .i64 0)) := by
    have h1 := ag YO.out.2.2 (aj (cs := di G4 (2 + (k : Int) + 1 + 1)) (af w7 (.cells #[.int .u8 0, .int .u8 0, .int .u8 0, .int .u8 0, .int .u8 0, .int .u8 0, .int .u8 0, .int .u8 0, .int .u8 0, .int .u8 0, .int .u8 0, .int .u8 0, .int .u8 0, .int .u8 0, .int .u8 0, .int .u8 0, .int .u8 0, .int .u8 0, .int .u8 0, .int .u8 0, .int .u8 0, .int .u8 0, .int .u8 0, .int .u8 0, .int .u8 0, .int .u8 0, .int .u8 0, .int .u8 0, .int .u8 0, .int .u8 0, .int .u8 0, .int .u8 0, .int .i64 0] 237)) (Nat.le_refl _))
    exact ag bQ.out (h1.setCell (by show W.heap.size ≤ a + 1; omega) _)
   have fA := aa Yr
   have hz0 := hZ.1
   obtain ⟨W8, QE⟩ : ∃ u, (((w7.alloc (.cells #[.int .u8 0, .int .u8 0, .int .u8 0, .int .u8 0, .int .u8 0, .int .u8 0, .int .u8 0, .int .u8 0, .int .u8 0, .int .u8 0, .int .u8 0, .int .u8 0, .int .u8 0, .int .u8 0, .int .u8 0, .int .u8 0, .int .u8 0, .int .u8 0, .int .u8 0, .int .u8 0, .int .u8 0, .int .u8 0, .int .u8 0, .int .u8 0, .int .u8 0, .int .u8 0, .int .u8 0, .int .u8 0, .int .u8 0, .int .u8 0, .int .u8 0, .int .u8 0, .int .i64 0] 237)).setRow w7.heap.size (di G4 (2 + (k : Int) + 1 + 1))).setCell ⟨a + 1, 0, none⟩ (.int .i64 0)) = u := ⟨_, rfl⟩
   rw [QE] at hz0 fA ⊢
   clear hZ Yr QE x0 x1 HEw HTy y0 y1
   go_region
   go_wp2
   go_ret2
   exact ⟨rfl, ay fA.out _⟩
theorem Jq (P Q G : Int) (Y : Option Addr) (ys : List Int) (yn yc : Nat) (B : Option Addr) (rows : List Row) (bn bc : Nat) (A : Option Addr) (al : List Int) (na ca : Nat) (s : ByteArray) (hs : s.size ≤ 1000) (hr : Hid (gI (aU s) = false))
  (hbn : Hid (rows.length = bn)) (D8 : bn ≤ 900) (w : World) (hB : Hid (Rw w B rows)) :
  Calls Tryz.prog 223 #[gv P Q G, .agg #[.slice Y yn yc, .slice B bn bc], .slice A na ca, .string s] w (Rt w (.tuple #[.int .i64 0, .int .i64 1])) := by
 obtain ⟨W, hW⟩ : ∃ W, (w.alloc (bq P Q G)).alloc (.cells #[.slice Y yn yc, .slice B bn bc] 189) = W := ⟨_, rfl⟩
 have bQ : Hid (Below w.heap.size w W) := aa (by rw [← hW]; exact aI (Below.refl _ _))
 have UD : Hid (nS W w.heap.size P Q G) := aa (by rw [← hW]; exact (aW w P Q G).below (af _ _))
 have Ui : Hid (p_ W (w.heap.size + 1) (.slice Y yn yc) (.slice B bn bc)) := aa (by rw [← hW]; exact dN w _ _ _ _)
 have IE := aa (hB.out.below bQ.out)
 have HW := aa hW
 clear hW hB
 go_in
 go_upto_region 1 with (fail)
 rw [HW.out]
 clear HW
 go_wp2_with fail
 refine (Kq s hs hr _).mono ?_
 rintro e w1 ⟨rfl, hb1⟩
 obtain ⟨S0, hS0⟩ : ∃ S, dD 32 = S := ⟨_, rfl⟩
 have EX : Hid (S0.length = 32) := aa (by rw [← hS0]; rfl)
 rw [hS0, show xR S0 0 1 = .tuple #[.agg (di S0 0), .int .i64 1] from rfl]
 have HB1 := aa hb1
 clear hb1 hS0
 have Xd : Hid (dK ((w1.alloc (.cells #[.int .u8 0, .int .u8 0, .int .u8 0, .int .u8 0, .int .u8 0, .int .u8 0, .int .u8 0, .int .u8 0, .int .u8 0, .int .u8 0, .int .u8 0, .int .u8 0, .int .u8 0, .int .u8 0, .int .u8 0, .int .u8 0, .int .u8 0, .int .u8 0, .int .u8 0, .int .u8 0, .int .u8 0, .int .u8 0, .int .u8 0, .int .u8 0, .int .u8 0, .int .u8 0, .int .u8 0, .int .u8 0, .int .u8 0, .int .u8 0, .int .u8 0, .int .u8 0, .int .i64 0] 237)).alloc (.cells #[.int .i64 0] 30)) w1.heap.size (dD 32) 0) := aa (by rw [II]; exact heap_alloc2_old _ _ _)
 have XZ : Hid (Own ((w1.alloc (.cells #[.int .u8 0, .int .u8 0, .int .u8 0, .int .u8 0, .int .u8 0, .int .u8 0, .int .u8 0, .int .u8 0, .int .u8 0, .int .u8 0, .int .u8 0, .int .u8 0, .int .u8 0, .int .u8 0, .int .u8 0, .int .u8 0, .int .u8 0, .int .u8 0, .int .u8 0, .int .u8 0, .int .u8 0, .int .u8 0, .int .u8 0, .int .u8 0, .int .u8 0, .int .u8 0, .int .u8 0, .int .u8 0, .int .u8 0, .int .u8 0, .int .u8 0, .int .u8 0, .int .i64 0] 237)).alloc (.cells #[.int .i64 0] 30)) ⟨w1.heap.size + 1, 0, none⟩ (.int .i64 0)) := aa ⟨ak (heap_alloc2_new _ _ _) 0, aX (heap_alloc2_new _ _ _) 0⟩
 have X0 := aa (mD (a := w1.heap.size) (cs := di S0 0) XZ.out (show w1.heap.size + 1 ≠ w1.heap.size by omega))
 obtain ⟨q1, q2⟩ := X0.out
 go_upto_region 2 with ((with_reducible show wpList _ _ _ (⟨none, _, _, _, _, _⟩ :: _) _ _); refine wpList_store_row rfl 237 _ _ rfl w1.heap.size (di S0 0) rfl rfl _ _ Xd.out (aO EX.out) (fq (h := dD 32) (c := 0) rfl EX.out) (dS _ _) ?_)
 clear q1 q2 Xd XZ X0
 have hI2 := Ab (w1 := w1) (c := 0) (x := 1) EX.out
 obtain ⟨W2, hW2⟩ : ∃ u, ((((w1.alloc (.cells #[.int .u8 0, .int .u8 0, .int .u8 0, .int .u8 0, .int .u8 0, .int .u8 0, .int .u8 0, .int .u8 0, .int .u8 0, .int .u8 0, .int .u8 0, .int .u8 0, .int .u8 0, .int .u8 0, .int .u8 0, .int .u8 0, .int .u8 0, .int .u8 0, .int .u8 0, .int .u8 0, .int .u8 0, .int .u8 0, .int .u8 0, .int .u8 0, .int .u8 0, .int .u8 0, .int .u8 0, .int .u8 0, .int .u8 0, .int .u8 0, .int .u8 0, .int .u8 0, .int .i64 0] 237)).alloc (.cells #[.int .i64 0] 30)).setRow w1.heap.size (di S0 0)).setCell ⟨w1.heap.size + 1, 0, none⟩ (.int .i64 1)) = u := ⟨_, rfl⟩
 rw [hW2] at hI2 ⊢
 obtain ⟨a, ha⟩ : ∃ a, w1.heap.size = a := ⟨_, rfl⟩
 have Mv : JM W a S0 0 1 W2 := ⟨by rw [← ha]; exact hI2.1, by rw [← ha]; exact hI2.2.1, ag HB1.out hI2.2.2⟩
 rw [ha]
 have HI2 := aa Mv
 clear hW2 hI2 Mv ha HB1
 obtain ⟨c0, c1, c2⟩ := UD.out.below HI2.out.2.2
 go_wp2_with fail
 refine (rP (some ⟨W2.heap.size, 0, none⟩) 3 3 lN a (a + 1) 1 rfl _ (aa (HI2.out.alloc _).2.1)).mono ?_
 rintro e w3 ⟨⟨v3, rfl⟩, rfl⟩
 have HI3 := aa (HI2.out.alloc (.cells #[.int .i64 P, .int .i64 Q, .int .i64 G] 3))
 obtain ⟨W3, hW3⟩ : ∃ u, W2.alloc (.cells #[.int .i64 P, .int .i64 Q, .int .i64 G] 3) = u := ⟨_, rfl⟩
 rw [hW3] at HI3 ⊢
 clear c0 c1 c2 HI2 hW3
 obtain ⟨d0, d1⟩ := Ui.out.below HI3.out.2.2
 go_wp2_with fail
 refine (rP Y yn yc LJ a (a + 1) 1 rfl _ (aa HI3.out.2.1)).mono ?_
 rintro e w4 ⟨⟨v4, rfl⟩, rfl⟩
 go_wp2_with fail
 clear d0 d1
 go_loopw [39] (fun i u => ∃ (k : Nat), k ≤ bn ∧ i = .int .i64 k ∧ Hid (JM W a S0 0 1 u)) (fun i _ => bn - (intOf i).toNat)
 case atStart => exact ⟨0, by omega, rfl, HI3⟩
 case round =>
  obtain ⟨k, hk, rfl, HI⟩ := hrel
  by_cases hlt : k < bn
  ·
   have hkl : k < rows.length := by rw [hbn.out]; exact hlt
   obtain ⟨⟨b, o, hA, hi0⟩, hok⟩ := IE.out.below HI.out.2.2 k hkl
   subst hA
   obtain ⟨R, hR⟩ : ∃ R, rows.getD k dh = R := ⟨_, rfl⟩
   rw [hR] at hi0 hok
   obtain ⟨p, rn, rc, xs⟩ := R
   dsimp only [Row.val] at hi0
   clear hR hok hkl
   go_wp2_with fail
   refine (rP p rn rc ni a (a + 1) 1 rfl _ (aa HI.out.2.1)).mono ?_
   rintro e w5 ⟨⟨v5, rfl⟩, rfl⟩
   clear hi0
   go_wp2
   go_roundw
   case rel => exact ⟨k + 1, by omega, by go_num, HI⟩
   case measure => simp [intOf]; omega
  ·
   go_wp2_with fail
   refine (rP A na ca dZ a (a + 1) 1 rfl _ (aa HI.out.2.1)).mono ?_
   rintro e w6 ⟨⟨v6, rfl⟩, rfl⟩
   obtain ⟨z0, z1⟩ := HI.out.2.1
   have fA := aa (ag bQ.out HI.out.2.2)
   go_wp2
   go_region
   go_wp2
   go_ret2
   exact ⟨rfl, ay fA.out _⟩
theorem Oq {Q x : Int} (h : x < 0) : gW Q x = false := by simp [gW]; omega
theorem Ot {Q x : Int} (h : Q ≤ x) : gW Q x = false := by simp [gW]; omega
theorem Ro {Q x : Int} (h0 : ¬ x < 0) (h1 : ¬ Q ≤ x) : gW Q x = true := by simp [gW]; omega
theorem Ni {f : Int → Bool} {xs : List Int} {k : Nat} (hk : k < xs.length) (h : f (xs.getD k 0) = true) : (xs.drop k).all f = (xs.drop (k + 1)).all f := by
 rw [List.drop_eq_getElem_cons hk, List.all_cons]
 rw [List.getD_eq_getElem?_getD, List.getElem?_eq_getElem hk] at h
 simp at h
 rw [h, Bool.true_and]
theorem Ij {f : Int → Bool} {xs : List Int} {k : Nat} (hk : k < xs.length) (h : f (xs.getD k 0) = false) : (xs.drop k).all f = false := by
 rw [List.drop_eq_getElem_cons hk, List.all_cons]
 rw [List.getD_eq_getElem?_getD, List.getElem?_eq_getElem hk] at h
 simp at h
 rw [h, Bool.false_and]
theorem jv (P Q G : Int) (A : Option Addr) (xs : List Int) (n c : Nat) (r : Bool) (hr : Hid (xs.all (gW Q) = r)) (hn : Hid (xs.length = n)) (hbig : n < 1000000) (w : World) (hs : Hid (Sl w A xs)) :
  Calls Tryz.prog 227 #[gv P Q G, .slice A n c] w (Rt w (.bool r)) := by
 have bQ := aa (af w (bq P Q G))
 have HX0 := aa (aW w P Q G)
 have Io := aa (hs.out.below bQ.out)
 obtain ⟨W, hW⟩ : ∃ W, w.alloc (bq P Q G) = W := ⟨_, rfl⟩
 rw [hW] at HX0 Io bQ
 have HW := aa hW
 clear hW hs
 go_in
 go_wp2
 rw [HW.out]
 go_loopw [5] (fun i wr => ∃ k : Nat, k ≤ n ∧ i = .int .i64 k ∧ Hid ((xs.drop k).all (gW Q) = r) ∧ Hid (Below W.heap.size W wr)) (fun i _ => n - (intOf i).toNat)
 case atStart => exact ⟨0, by omega, rfl, aa (by rw [List.drop_zero]; exact hr.out), aa (Below.refl _ _)⟩
 case round =>
  obtain ⟨k, hk, rfl, HR, au⟩ := hrel
  by_cases hlt : k < n
  ·
   have hkl : k < xs.length := by rw [hn.out]; exact hlt
   obtain ⟨b, o, hA, hi⟩ := Io.out.below au.out k hkl
   subst hA
   obtain ⟨c0, c1, c2⟩ := HX0.out.below au.out
   by_cases h0 : xs.getD k 0 < 0
   ·
    have hf : gW Q (xs.getD k 0) = false := Oq h0
    obtain rfl : r = false := HR.out.symm.trans (Ij hkl hf)
    obtain ⟨x, hx⟩ : ∃ x, xs.getD k 0 = x := ⟨_, rfl⟩
    rw [hx] at hi h0
    have d0 : decide (x < 0) = true := by simp; omega
    have bV := fun q => ay (ag bQ.out au.out) q
    clear hx hf hkl HR
    go_wp2
    go_quiet (fail)
    go_wp2
    go_ret
    exact ⟨rfl, bV _⟩
   ·
    by_cases h1 : Q ≤ xs.getD k 0
    ·
     have hf : gW Q (xs.getD k 0) = false := Ot h1
     obtain rfl : r = false := HR.out.symm.trans (Ij hkl hf)
     obtain ⟨x, hx⟩ : ∃ x, xs.getD k 0 = x := ⟨_, rfl⟩
     rw [hx] at hi h0 h1
     have d0 : decide (x < 0) = false := by simp; omega
     have d1 : decide (Q ≤ x) = true := by simp; omega
     have bV := fun q => ay (ag bQ.out au.out) q
     clear hx hf hkl HR
     go_wp2
     go_quiet (fail)
     go_wp2
     go_ret
     exact ⟨rfl, bV _⟩
    ·
     have hf : gW Q (xs.getD k 0) = true := Ro h0 h1
     have HR2 : Hid ((xs.drop (k + 1)).all (gW Q) = r) := aa ((Ni hkl hf).symm.trans HR.out)
     obtain ⟨x, hx⟩ : ∃ x, xs.getD k 0 = x := ⟨_, rfl⟩
     rw [hx] at hi h0 h1
     have d0 : decide (x < 0) = false := by simp; omega
     have d1 : decide (Q ≤ x) = false := by simp; omega
     have HB2 := aa (fun q => ay au.out q)
     clear hx hf hkl HR
     go_wp2
     go_quiet (fail)
     go_wp2
     go_roundw
     case rel => exact ⟨k + 1, by omega, by go_num, HR2, aa (HB2.out _)⟩
     case measure => simp [intOf]; omega
  ·
   obtain rfl : k = n := by omega
   obtain rfl : r = true := by rw [← HR.out, ← hn.out, List.drop_length]; rfl
   have bV := ag bQ.out au.out
   clear HR hlt
   go_wp2
   go_ret
   exact ⟨rfl, bV⟩
theorem Bh (P Q G : Int) (A : Option Addr) (xs : List Int) (n c : Nat) (E : Option Addr) (es : List Int) (m d : Nat) (V : Int) (hV : Hid (dH P 1 xs es = V)) (hn : Hid (xs.length = n)) (hm : Hid (es.length = m)) (hnm : n ≤ m) (hbig : m < 1000000)
  (hx : Hid (xs.all (aG P Q) = true)) (he : Hid (es.all (gW Q) = true)) (hp2 : 2 ≤ P) (hp : P < 2305843009213693952) (hQ : Q < 9223372036854775808) (w : World) (hA : Hid (Sl w A xs)) (hE : Hid (Sl w E es)) :
  Calls Tryz.prog 228 #[gv P Q G, .slice A n c, .slice E m d] w (Rt w (.int .i64 V)) := by
 have bQ := aa (af w (bq P Q G))
 have HX0 := aa (aW w P Q G)
 have xY := aa (hA.out.below bQ.out)
 have Q6 := aa (hE.out.below bQ.out)
 obtain ⟨W, hW⟩ : ∃ W, w.alloc (bq P Q G) = W := ⟨_, rfl⟩
 rw [hW] at HX0 xY Q6 bQ
 have HW := aa hW
 clear hW hA hE
 go_in
 go_wp2
 rw [HW.out]
 go_loopw [7, 8] (fun y i wr => ∃ (k : Nat) (acc : Int), k ≤ n ∧ y = .int .i64 acc ∧ i = .int .i64 k ∧ 0 ≤ acc ∧ acc < P ∧ Hid (dH P acc (xs.drop k) (es.drop k) = V) ∧ Hid (Below W.heap.size W wr)) (fun _ i _ => n - (intOf i).toNat)
 case atStart => exact ⟨0, 1, by omega, rfl, rfl, by omega, by omega, vZ hV, aa (Below.refl _ _)⟩
 case round =>
  obtain ⟨k, acc, hk, rfl, rfl, a0, a1, HJ, au⟩ := hrel
  by_cases hlt : k < n
  ·
   have hkl : k < xs.length := by rw [hn.out]; exact hlt
   have hkm : k < m := by omega
   have hke : k < es.length := by rw [hm.out]; exact hkm
   obtain ⟨b, o, hA, hi0⟩ := xY.out.below au.out k hkl
   obtain ⟨b2, o2, hE, hi1⟩ := Q6.out.below au.out k hke
   subst hA
   subst hE
   obtain ⟨c0, c1, c2⟩ := HX0.out.below au.out
   have hm1 := ig hx.out hkl
   have hm2 := ig he.out hke
   have hst := yJ (P := P) (acc := acc) hkl hke
   obtain ⟨x, VZ⟩ : ∃ x, xs.getD k 0 = x := ⟨_, rfl⟩
   obtain ⟨ex, hee⟩ : ∃ x, es.getD k 0 = x := ⟨_, rfl⟩
   rw [VZ] at hi0 hm1 hst
   rw [hee] at hi1 hm2 hst
   have x0 := fE hm1
   have x1 := fF hm1
   have e0 := qG hm2
   have e1 := sP hm2
   obtain ⟨p, hp1⟩ : ∃ p, pw x ex P = p := ⟨_, rfl⟩
   obtain ⟨p0, p1⟩ : 0 ≤ p ∧ p < P := by rw [← hp1]; exact vW _ _ _ (by omega)
   rw [hp1] at hst
   obtain ⟨zf, hac⟩ : ∃ a, acc * p % P = a := ⟨_, rfl⟩
   rw [hac] at hst
   have q0 : 0 ≤ zf := by rw [← hac]; exact Int.emod_nonneg _ (by omega)
   have q1 : zf < P := by rw [← hac]; exact Int.emod_lt_of_pos _ (by omega)
   have HJ2 : Hid (dH P zf (xs.drop (k + 1)) (es.drop (k + 1)) = V) := aa (hst.symm.trans HJ.out)
   have XA := aa hp1
   have Ye := aa hac
   have HB2 := aa (fun q => ay au.out q)
   clear hm1 hm2 hst VZ hee hp1 hac hkl hke HJ
   go_wp2
   go_quiet ((first | (go_at_call 57; exact mq (ko x ex P p XA (by omega) hp (by omega) x1 e0 (by omega) _)) | (go_at_call 45; exact mq (fB acc p P zf Ye hp a0 a1 p0 p1 _))))
   go_wp2
   go_roundw
   case rel => exact ⟨k + 1, zf, by omega, rfl, by go_num, q0, q1, HJ2, aa (HB2.out _)⟩
   case measure => simp [intOf]; omega
  ·
   obtain rfl : k = n := by omega
   obtain rfl := Al hn.out HJ
   have bV := ag bQ.out au.out
   clear HJ hlt
   go_wp2
   go_ret
   exact ⟨rfl, bV⟩
theorem JK {f : Row → Bool} {xs : List Row} {k : Nat} (hk : k < xs.length) : (xs.drop k).all f = (f (xs.getD k dh) && (xs.drop (k + 1)).all f) := by
 rw [List.drop_eq_getElem_cons hk, List.all_cons, List.getD_eq_getElem?_getD, List.getElem?_eq_getElem hk]
 rfl
theorem AV {f : Int → Bool} {xs : List Int} {k : Nat} (hk : k < xs.length) : (xs.drop k).all f = (f (xs.getD k 0) && (xs.drop (k + 1)).all f) := by
 rw [List.drop_eq_getElem_cons hk, List.all_cons, List.getD_eq_getElem?_getD, List.getElem?_eq_getElem hk]
 rfl
def leftV (P Q : Int) (n : Nat) (ys : List Int) (rows : List Row) (k : Nat) : Bool := (ys.drop k).all (aG P Q) && (rows.drop k).all (mo P Q n)
theorem FK {P Q : Int} {n : Nat} {ys : List Int} {rows : List Row} {k : Nat} (hk : k < ys.length) (hr : k < rows.length) :
  leftV P Q n ys rows k = (aG P Q (ys.getD k 0) && (mo P Q n (rows.getD k dh) && leftV P Q n ys rows (k + 1))) := by
 rw [leftV, AV hk, JK hr, leftV]
 cases aG P Q (ys.getD k 0) <;> cases mo P Q n (rows.getD k dh) <;> simp
theorem KF (P Q G : Int) (Y : Option Addr) (ys : List Int) (yn yc : Nat) (B : Option Addr) (rows : List Row) (bc n0 : Nat) (r : Bool) (HG : Hid (aV P Q G = true)) (hr : Hid (leftV P Q n0 ys rows 0 = r)) (hn : Hid (fZ rows = n0)) (hyn : Hid (ys.length = yn)) (hbn : Hid (rows.length = yn))
  (h1 : 1 ≤ yn) (h2 : yn ≤ 8) (h3 : 1 ≤ n0) (h4 : n0 ≤ 12) (hQ : Q < 9223372036854775808) (w : World) (hY : Hid (Sl w Y ys)) (hB : Hid (Rw w B rows)) :
  Calls Tryz.prog 225 #[gv P Q G, gQ Y yn yc B yn bc] w (Rt w (.bool r)) := by
 obtain ⟨hp2, hp, hq3, Av⟩ := bH HG.out
 obtain ⟨b, o, rfl⟩ := hB.out.some (by rw [hbn.out]; omega)
 obtain ⟨b1, o1, rfl, _⟩ := hY.out 0 (by rw [hyn.out]; omega)
 obtain ⟨w0, hW⟩ : ∃ W, (w.alloc (bq P Q G)).alloc (jw (some ⟨b1, o1, none⟩) yn yc (some ⟨b, o, none⟩) yn bc) = W := ⟨_, rfl⟩
 have ai : Hid (Below w.heap.size w w0) := aa (by rw [← hW]; exact aI (Below.refl _ _))
 have HX0 : Hid (nS w0 w.heap.size P Q G) := aa (by rw [← hW]; exact (aW w P Q G).below (af _ _))
 have ek : Hid (p_ w0 (w.heap.size + 1) (.slice (some ⟨b1, o1, none⟩) yn yc) (.slice (some ⟨b, o, none⟩) yn bc)) := aa (by rw [← hW]; exact dN _ _ _ _ _)
 have w_ := aa (hY.out.below ai.out)
 have xY := aa (hB.out.below ai.out)
 have HW := aa hW
 have d1 : decide ((yn : Int) < 1) = false := by simp; omega
 have d2 : decide ((8 : Int) < (yn : Int)) = false := by simp; omega
 have d3 : decide ((n0 : Int) < 1) = false := by simp; omega
 have d4 : decide ((12 : Int) < (n0 : Int)) = false := by simp; omega
 clear hW hY hB
 go_in
 go_wp2_with fail
 rw [HW.out]
 refine (bT P Q G true HG hQ _).mono ?_
 rintro e w1 ⟨rfl, hb0⟩
 have hb1 := ag ai.out hb0
 have qz := aa (HX0.out.below hb0)
 have HR1 := aa (ek.out.below hb0)
 have wZ := aa (w_.out.below hb0)
 have HA1 := aa (xY.out.below hb0)
 clear hb0
 obtain ⟨d5, d6⟩ := HR1.out
 obtain ⟨c0, c1, c2⟩ := qz.out
 go_wp2_with fail
 refine (fM (some ⟨b1, o1, none⟩) yn yc (some ⟨b, o, none⟩) rows yn bc n0 hbn (by omega) hn _ HA1).mono ?_
 rintro e W ⟨rfl, hb0⟩
 have rY := aa (ag hb1 hb0)
 have P7 := aa (qz.out.below hb0)
 have HRW := aa (HR1.out.below hb0)
 have HYW := aa (wZ.out.below hb0)
 have HAW := aa (HA1.out.below hb0)
 clear hb0 d5 d6 c0 c1 c2
 go_wp2
 go_loopw [6] (fun i wr => ∃ k : Nat, k ≤ yn ∧ i = .int .i64 k ∧ Hid (leftV P Q n0 ys rows k = r) ∧ Hid (Below W.heap.size W wr)) (fun i _ => yn - (intOf i).toNat)
 case atStart => exact ⟨0, by omega, rfl, hr, aa (Below.refl _ _)⟩
 case round =>
  obtain ⟨k, hk, rfl, QX, au⟩ := hrel
  obtain ⟨wo, rfl⟩ : ∃ wo : World, wo = wr := ⟨_, rfl⟩
  obtain ⟨d5, d6⟩ := HRW.out.below au.out
  by_cases hlt : k < yn
  ·
   have hkl : k < ys.length := by rw [hyn.out]; exact hlt
   have hkr : k < rows.length := by rw [hbn.out]; exact hlt
   obtain ⟨bb, oo, e1, hi0⟩ := HYW.out k hkl
   cases e1
   have hrow := HAW.out.at hkr
   have hok := (HAW.out k hkr).2
   have hst := FK (P := P) (Q := Q) (n := n0) hkl hkr
   rw [QX.out] at hst
   obtain ⟨y, hy⟩ : ∃ x, ys.getD k 0 = x := ⟨_, rfl⟩
   obtain ⟨R, hR⟩ : ∃ R, rows.getD k dh = R := ⟨_, rfl⟩
   rw [hy] at hi0 hst
   rw [hR] at hrow hok hst
   obtain ⟨p, rn, rc, xs⟩ := R
   dsimp only [Row.val] at hrow
   have HI0 := aa hi0
   have HI1 := aa hrow
   have HL := aa hok.1
   have HS := aa hok.2
   have hS := aa (show ∀ u1 : World, Below W.heap.size W u1 → (u1.cell? ⟨w.heap.size, 0, none⟩ = some (.int .i64 P) ∧ u1.cell? ⟨w.heap.size, 1, none⟩ = some (.int .i64 Q) ∧ u1.cell? ⟨w.heap.size, 2, none⟩ = some (.int .i64 G) ∧ u1.cell? ⟨w.heap.size + 1, 0, none⟩ = some (.slice (some ⟨b1, o1, none⟩) yn yc) ∧ u1.cell? ⟨w.heap.size + 1, 1, none⟩ = some (.slice (some ⟨b, o, none⟩) yn bc) ∧ u1.cell? ⟨b1, o1 + k, none⟩ = some (.int .i64 y) ∧ u1.cell? ⟨b, o + k, none⟩ = some (.slice p rn rc) ∧ Hid (Below W.heap.size W u1)) from fun u1 h1 => ⟨(P7.out.below h1).1, (P7.out.below h1).2.1, (P7.out.below h1).2.2, (HRW.out.below h1).1, (HRW.out.below h1).2, cell_below HI0.out h1, cell_below HI1.out h1, aa h1⟩)
   clear hi0 hrow hok hy hR hkl hkr
   cases FW : aG P Q y with
   | false =>
    rw [FW, Bool.false_and] at hst
    obtain rfl : r = false := hst
    have HM := aa FW
    clear FW QX
    go_wp2
    refine wp_region_held_drew (S := fun w' => w'.cell? ⟨w.heap.size, 0, none⟩ = some (.int .i64 P) ∧ w'.cell? ⟨w.heap.size, 1, none⟩ = some (.int .i64 Q) ∧ w'.cell? ⟨w.heap.size, 2, none⟩ = some (.int .i64 G) ∧ w'.cell? ⟨w.heap.size + 1, 0, none⟩ = some (.slice (some ⟨b1, o1, none⟩) yn yc) ∧ w'.cell? ⟨w.heap.size + 1, 1, none⟩ = some (.slice (some ⟨b, o, none⟩) yn bc) ∧ w'.cell? ⟨b1, o1 + k, none⟩ = some (.int .i64 y) ∧ w'.cell? ⟨b, o + k, none⟩ = some (.slice p rn rc) ∧ Hid (Below W.heap.size W w')) (by kernel_rfl) (hS.out _ au.out.drew) (fun hHeld => ?_)
    refine wpAnyH_take (i := 0) (oi := _) (v := ?_) rfl (by kernel_rfl) (by kernel_rfl) (by kernel_rfl) (fun _ _ _ h => h) (Or.inl ⟨by rfl, ?_⟩) (by assumption) ?_
    rotate_left; (intro wS hSw; (try dsimp only at hSw); go_simp <;> with_reducible rfl)
    try simp only [qq]
    refine wpAnyH_take (i := 1) (oi := _) (v := ?_) rfl (by kernel_rfl) (by kernel_rfl) (by kernel_rfl) (fun _ _ _ h => h) (Or.inl ⟨by rfl, ?_⟩) (by assumption) ?_
    rotate_left; (intro wS hSw; (try dsimp only at hSw); go_simp <;> with_reducible rfl)
    try simp only [qq]
    refine wpAnyH_take (i := 2) (oi := _) (v := ?_) rfl (by kernel_rfl) (by kernel_rfl) (by kernel_rfl) (fun _ _ _ h => h) (Or.inl ⟨by rfl, ?_⟩) (by assumption) ?_
    rotate_left; (intro wS hSw; (try dsimp only at hSw); go_simp <;> with_reducible rfl)
    try simp only [qq]
    refine wpAnyH_take (i := 3) (oi := _) (v := ?_) rfl (by kernel_rfl) (by kernel_rfl) (by kernel_rfl) (fun _ _ _ h => h) (Or.inl ⟨by rfl, ?_⟩) (by assumption) ?_
    rotate_left; (intro wS hSw; (try dsimp only at hSw); go_simp <;> with_reducible rfl)
    try simp only [qq]
    refine wpAnyH_take (i := 4) (oi := _) (v := ?_) rfl (by kernel_rfl) (by kernel_rfl) (by kernel_rfl) (fun _ _ _ h => h) (Or.inl ⟨by rfl, ?_⟩) (by assumption) ?_
    rotate_left; (intro wS hSw; (try dsimp only at hSw); go_simp <;> with_reducible rfl)
    try simp only [qq]
    refine wpAnyH_take (i := 5) (oi := _) (v := ?_) rfl (by kernel_rfl) (by kernel_rfl) (by kernel_rfl) (fun _ _ _ h => h) (Or.inl ⟨by rfl, ?_⟩) (by assumption) ?_
    rotate_left; (intro wS hSw; (try dsimp only at hSw); go_simp <;> with_reducible rfl)
    try simp only [qq]
    refine wpAnyH_ready (rs := [6]) (by kernel_rfl) (by simp) ?_
    refine AllReadyH.cons rfl (fun K hK => ?_) AllReadyH.nil
    go_simp
    (with_reducible refine (aP P Q G y false HM hp (by omega) hQ _).mono ?_); rintro e wA ⟨rfl, bM⟩
    refine hK.out _ _ ?_ (fun hHeld => ?_)
    · (go_split_ands; exact hS.out _ (au.out.drew.trans (bM.mono au.out.size)))
    clear hK K
    try simp only [qq]
    refine wpAnyH_take (i := 7) (oi := _) (v := ?_) rfl (by kernel_rfl) (by kernel_rfl) (by kernel_rfl) (fun _ _ _ h => h) (Or.inl ⟨by rfl, ?_⟩) (by assumption) ?_
    rotate_left; (intro wS hSw; (try dsimp only at hSw); go_simp <;> with_reducible rfl)
    try simp only [qq]
    refine wpAnyH_take (i := 8) (oi := _) (v := ?_) rfl (by kernel_rfl) (by kernel_rfl) (by kernel_rfl) (fun _ _ _ h => h) (Or.inl ⟨by rfl, ?_⟩) (by assumption) ?_
    rotate_left; (intro wS hSw; (try dsimp only at hSw); go_simp <;> with_reducible rfl)
    try simp only [qq]
    refine wpAnyH_take (i := 9) (oi := _) (v := undef) rfl (by kernel_rfl) (by kernel_rfl) (by kernel_rfl) (fun _ _ _ h => h) (Or.inr ⟨by rfl, rfl⟩) (by assumption) ?_
    try simp only [qq]
    refine wpAnyH_take (i := 10) (oi := _) (v := undef) rfl (by kernel_rfl) (by kernel_rfl) (by kernel_rfl) (fun _ _ _ h => h) (Or.inr ⟨by rfl, rfl⟩) (by assumption) ?_
    try simp only [qq]
    refine wpAnyH_take (i := 11) (oi := _) (v := undef) rfl (by kernel_rfl) (by kernel_rfl) (by kernel_rfl) (fun _ _ _ h => h) (Or.inr ⟨by rfl, rfl⟩) (by assumption) ?_
    try simp only [qq]
    refine wpAnyH_take (i := 12) (oi := _) (v := undef) rfl (by kernel_rfl) (by kernel_rfl) (by kernel_rfl) (fun _ _ _ h => h) (Or.inr ⟨by rfl, rfl⟩) (by assumption) ?_
    try simp only [qq]
    refine wpAnyH_take (i := 13) (oi := _) (v := undef) rfl (by kernel_rfl) (by kernel_rfl) (by kernel_rfl) (fun _ _ _ h => h) (Or.inr ⟨by rfl, rfl⟩) (by assumption) ?_
    try simp only [qq]
    refine wpAnyH_take (i := 14) (oi := _) (v := undef) rfl (by kernel_rfl) (by kernel_rfl) (by kernel_rfl) (fun _ _ _ h => h) (Or.inr ⟨by rfl, rfl⟩) (by assumption) ?_
    try simp only [qq]
    refine wpAnyH_take (i := 15) (oi := _) (v := undef) rfl (by kernel_rfl) (by kernel_rfl) (by kernel_rfl) (fun _ _ _ h => h) (Or.inr ⟨by rfl, rfl⟩) (by assumption) ?_
    try simp only [qq]
    refine wpAnyH_take (i := 16) (oi := _) (v := undef) rfl (by kernel_rfl) (by kernel_rfl) (by kernel_rfl) (fun _ _ _ h => h) (Or.inr ⟨by rfl, rfl⟩) (by assumption) ?_
    try simp only [qq]
    refine wpAnyH_take (i := 17) (oi := _) (v := ?_) rfl (by kernel_rfl) (by kernel_rfl) (by kernel_rfl) (fun _ _ _ h => h) (Or.inl ⟨by rfl, ?_⟩) (by assumption) ?_
    rotate_left; (intro wS hSw; (try dsimp only at hSw); go_simp <;> with_reducible rfl)
    try simp only [qq]
    refine wpAnyH_done (by kernel_rfl) ?_ _
    obtain ⟨x0, x1, x2, x3, x4, x5, x6, UL⟩ := hHeld
    have bV := ag rY.out UL.out
    go_wp2
    go_ret
    exact ⟨rfl, bV⟩
   | true =>
    rw [FW, Bool.true_and] at hst
    have HM := aa FW
    clear FW
    by_cases hne : rn = n0
    ·
     subst hne
     have hneq : ((rn : Int) != (rn : Int)) = false := by simp
     obtain ⟨t, ht⟩ : ∃ t, xs.all (aG P Q) = t := ⟨_, rfl⟩
     have hrb : mo P Q rn ⟨p, rn, rc, xs⟩ = t := by simp [mo, ht]
     rw [hrb] at hst
     have HST := aa hst
     have HT : Hid ((xs.drop 0).all (aG P Q) = t) := aa (by rw [List.drop_zero]; exact ht)
     clear hst hrb ht QX
     go_wp2
     go_region_held3 (fun w' => w'.cell? ⟨w.heap.size, 0, none⟩ = some (.int .i64 P) ∧ w'.cell? ⟨w.heap.size, 1, none⟩ = some (.int .i64 Q) ∧ w'.cell? ⟨w.heap.size, 2, none⟩ = some (.int .i64 G) ∧ w'.cell? ⟨w.heap.size + 1, 0, none⟩ = some (.slice (some ⟨b1, o1, none⟩) yn yc) ∧ w'.cell? ⟨w.heap.size + 1, 1, none⟩ = some (.slice (some ⟨b, o, none⟩) yn bc) ∧ w'.cell? ⟨b1, o1 + k, none⟩ = some (.int .i64 y) ∧ w'.cell? ⟨b, o + k, none⟩ = some (.slice p rn rc) ∧ Hid (Below W.heap.size W w'))
      (first | exact hS.out _ au.out.drew | (go_split_ands; exact hS.out _ (au.out.drew.trans (bM.mono au.out.size))) | go_keep)
      ((first | (go_at_call 103; (with_reducible refine (aP P Q G y true HM hp (by omega) hQ _).mono ?_); rintro e wA ⟨rfl, bM⟩)))
     rename_i hHeld
     obtain ⟨x0, x1, x2, x3, x4, x5, x6, UL⟩ := hHeld
     clear x0 x1 x2 x3 x4 x5 x6 hS HM bM
     go_wp2
     go_loopw [7] (fun i wr => ∃ j : Nat, j ≤ rn ∧ i = .int .i64 j ∧ Hid ((xs.drop j).all (aG P Q) = t) ∧ Hid (Below W.heap.size W wr)) (fun i _ => rn - (intOf i).toNat)
     case atStart => exact ⟨0, by omega, rfl, HT, UL⟩
     case round =>
      obtain ⟨j, hj, rfl, HJ, xW⟩ := hrel
      obtain ⟨wi, rfl⟩ : ∃ wi : World, wi = wr := ⟨_, rfl⟩
      by_cases hjt : j < rn
      ·
       have hjl : j < xs.length := by rw [HL.out]; exact hjt
       obtain ⟨b2, o2, e2, hi2⟩ := HS.out j hjl
       subst e2
       have hjs := AV (f := aG P Q) hjl
       rw [HJ.out] at hjs
       obtain ⟨x, hx⟩ : ∃ x, xs.getD j 0 = x := ⟨_, rfl⟩
       rw [hx] at hi2 hjs
       have HI2 := aa hi2
       have hS := aa (show ∀ u1 : World, Below W.heap.size W u1 → (u1.cell? ⟨w.heap.size, 0, none⟩ = some (.int .i64 P) ∧ u1.cell? ⟨w.heap.size, 1, none⟩ = some (.int .i64 Q) ∧ u1.cell? ⟨w.heap.size, 2, none⟩ = some (.int .i64 G) ∧ u1.cell? ⟨w.heap.size + 1, 0, none⟩ = some (.slice (some ⟨b1, o1, none⟩) yn yc) ∧ u1.cell? ⟨w.heap.size + 1, 1, none⟩ = some (.slice (some ⟨b, o, none⟩) yn bc) ∧ u1.cell? ⟨b, o + k, none⟩ = some (.slice (some ⟨b2, o2, none⟩) rn rc) ∧ u1.cell? ⟨b2, o2 + j, none⟩ = some (.int .i64 x) ∧ Hid (Below W.heap.size W u1)) from fun u1 h1 => ⟨(P7.out.below h1).1, (P7.out.below h1).2.1, (P7.out.below h1).2.2, (HRW.out.below h1).1, (HRW.out.below h1).2, cell_below HI1.out h1, cell_below HI2.out h1, aa h1⟩)
       clear hi2 hx hjl
       cases hmx : aG P Q x with
       | false =>
        rw [hmx, Bool.false_and] at hjs
        obtain rfl : t = false := hjs
        obtain rfl : r = false := HST.out
        have HM := aa hmx
        clear hmx
        go_wp2
        go_region_held3 (fun w' => w'.cell? ⟨w.heap.size, 0, none⟩ = some (.int .i64 P) ∧ w'.cell? ⟨w.heap.size, 1, none⟩ = some (.int .i64 Q) ∧ w'.cell? ⟨w.heap.size, 2, none⟩ = some (.int .i64 G) ∧ w'.cell? ⟨w.heap.size + 1, 0, none⟩ = some (.slice (some ⟨b1, o1, none⟩) yn yc) ∧ w'.cell? ⟨w.heap.size + 1, 1, none⟩ = some (.slice (some ⟨b, o, none⟩) yn bc) ∧ w'.cell? ⟨b, o + k, none⟩ = some (.slice (some ⟨b2, o2, none⟩) rn rc) ∧ w'.cell? ⟨b2, o2 + j, none⟩ = some (.int .i64 x) ∧ Hid (Below W.heap.size W w'))
         (first | exact hS.out _ xW.out.drew | (go_split_ands; exact hS.out _ (xW.out.drew.trans (bM.mono xW.out.size))) | go_keep)
         ((first | (go_at_call 103; (with_reducible refine (aP P Q G x false HM hp (by omega) hQ _).mono ?_); rintro e wA ⟨rfl, bM⟩)))
        rename_i hHeld
        obtain ⟨x0, x1, x2, x3, x4, x5, x6, IE⟩ := hHeld
        have bV := ag rY.out IE.out
        clear x0 x1 x2 x3 x4 x5 x6
        go_wp2
        go_ret
        exact ⟨rfl, bV⟩
       | true =>
        rw [hmx, Bool.true_and] at hjs
        have HJ2 := aa hjs.symm
        have HM := aa hmx
        clear hmx hjs HJ
        go_wp2
        go_region_held3 (fun w' => w'.cell? ⟨w.heap.size, 0, none⟩ = some (.int .i64 P) ∧ w'.cell? ⟨w.heap.size, 1, none⟩ = some (.int .i64 Q) ∧ w'.cell? ⟨w.heap.size, 2, none⟩ = some (.int .i64 G) ∧ w'.cell? ⟨w.heap.size + 1, 0, none⟩ = some (.slice (some ⟨b1, o1, none⟩) yn yc) ∧ w'.cell? ⟨w.heap.size + 1, 1, none⟩ = some (.slice (some ⟨b, o, none⟩) yn bc) ∧ w'.cell? ⟨b, o + k, none⟩ = some (.slice (some ⟨b2, o2, none⟩) rn rc) ∧ w'.cell? ⟨b2, o2 + j, none⟩ = some (.int .i64 x) ∧ Hid (Below W.heap.size W w'))
         (first | exact hS.out _ xW.out.drew | (go_split_ands; exact hS.out _ (xW.out.drew.trans (bM.mono xW.out.size))) | go_keep)
         ((first | (go_at_call 103; (with_reducible refine (aP P Q G x true HM hp (by omega) hQ _).mono ?_); rintro e wA ⟨rfl, bM⟩)))
        rename_i hHeld
        obtain ⟨x0, x1, x2, x3, x4, x5, x6, IE⟩ := hHeld
        clear x0 x1 x2 x3 x4 x5 x6
        go_wp2
        go_roundw
        case rel => exact ⟨j + 1, by omega, by go_num, HJ2, IE⟩
        case measure => simp [intOf]; omega
      ·
       obtain rfl : j = rn := by omega
       obtain rfl : t = true := by rw [← HJ.out, ← HL.out, List.drop_length]; rfl
       have xq : Hid (leftV P Q j ys rows (k + 1) = r) := aa (by have h9 := HST.out; rw [Bool.true_and] at h9; exact h9.symm)
       clear HJ hjt
       go_wp2
       go_roundw
       case rel => exact ⟨k + 1, by omega, by go_num, xq, xW⟩
       case measure => simp [intOf]; omega
    ·
     have hrb : mo P Q n0 ⟨p, rn, rc, xs⟩ = false := by simp [mo, hne]
     rw [hrb, Bool.false_and] at hst
     obtain rfl : r = false := hst
     have hneq : ((rn : Int) != (n0 : Int)) = true := by simp; omega
     clear hrb QX
     go_wp2
     go_region_held3 (fun w' => w'.cell? ⟨w.heap.size, 0, none⟩ = some (.int .i64 P) ∧ w'.cell? ⟨w.heap.size, 1, none⟩ = some (.int .i64 Q) ∧ w'.cell? ⟨w.heap.size, 2, none⟩ = some (.int .i64 G) ∧ w'.cell? ⟨w.heap.size + 1, 0, none⟩ = some (.slice (some ⟨b1, o1, none⟩) yn yc) ∧ w'.cell? ⟨w.heap.size + 1, 1, none⟩ = some (.slice (some ⟨b, o, none⟩) yn bc) ∧ w'.cell? ⟨b1, o1 + k, none⟩ = some (.int .i64 y) ∧ w'.cell? ⟨b, o + k, none⟩ = some (.slice p rn rc) ∧ Hid (Below W.heap.size W w'))
      (first | exact hS.out _ au.out.drew | (go_split_ands; exact hS.out _ (au.out.drew.trans (bM.mono au.out.size))) | go_keep)
      ((first | (go_at_call 103; (with_reducible refine (aP P Q G y true HM hp (by omega) hQ _).mono ?_); rintro e wA ⟨rfl, bM⟩)))
     rename_i hHeld
     obtain ⟨x0, x1, x2, x3, x4, x5, x6, UL⟩ := hHeld
     have bV := ag rY.out UL.out
     clear x0 x1 x2 x3 x4 x5 x6
     go_wp2
     go_ret
     exact ⟨rfl, bV⟩
  ·
   obtain rfl : k = yn := by omega
   obtain rfl : r = true := by
    rw [← QX.out, leftV]
    have e1 : ys.drop k = [] := by rw [← hyn.out, List.drop_length]
    have e2 : rows.drop k = [] := by rw [← hbn.out, List.drop_length]
    rw [e1, e2]; rfl
   have bV := ag rY.out au.out
   clear QX hlt
   go_wp2
   go_ret
   exact ⟨rfl, bV⟩
theorem Ry (P Q G : Int) (Y : Option Addr) (ys : List Int) (yn yc : Nat) (B : Option Addr) (rows : List Row) (bn bc : Nat) (HG : Hid (aV P Q G = false)) (hyn : Hid (ys.length = yn)) (hbn : Hid (rows.length = bn)) (hQ : Q < 9223372036854775808) (w : World) (hY : Hid (Sl w Y ys)) (hB : Hid (Rw w B rows)) :
  Calls Tryz.prog 225 #[gv P Q G, gQ Y yn yc B bn bc] w (Rt w (.bool false)) := by
 obtain ⟨w0, hW⟩ : ∃ W, (w.alloc (bq P Q G)).alloc (jw Y yn yc B bn bc) = W := ⟨_, rfl⟩
 have ai : Hid (Below w.heap.size w w0) := aa (by rw [← hW]; exact aI (Below.refl _ _))
 have HX0 : Hid (nS w0 w.heap.size P Q G) := aa (by rw [← hW]; exact (aW w P Q G).below (af _ _))
 have ek : Hid (p_ w0 (w.heap.size + 1) (.slice Y yn yc) (.slice B bn bc)) := aa (by rw [← hW]; exact dN _ _ _ _ _)
 have w_ : Hid (Sl w0 Y ys) := aa (hY.out.below ai.out)
 have oJ : Hid (Rw w0 B rows) := aa (hB.out.below ai.out)
 have HW := aa hW
 clear hW hY hB
 go_in
 go_wp2_with fail
 rw [HW.out]
 go_wp2_with fail
 refine (bT P Q G false HG hQ _).mono ?_
 rintro e w1 ⟨rfl, hb0⟩
 have hb1 := ag (ai.out) hb0
 have qz := aa (HX0.out.below hb0)
 have HR1 := aa (ek.out.below hb0)
 have wZ := aa (w_.out.below hb0)
 have nP := aa (oJ.out.below hb0)
 clear hb0
 obtain ⟨c0, c1, c2⟩ := qz.out
 obtain ⟨d0, d1⟩ := HR1.out
 go_wp2
 go_ret
 exact ⟨rfl, hb1⟩
theorem RG (P Q G : Int) (Y : Option Addr) (ys : List Int) (yn yc : Nat) (B : Option Addr) (rows : List Row) (bn bc : Nat) (HG : Hid (aV P Q G = true)) (h1 : yn < 1) (hyn : Hid (ys.length = yn)) (hbn : Hid (rows.length = bn)) (hQ : Q < 9223372036854775808) (w : World) (hY : Hid (Sl w Y ys)) (hB : Hid (Rw w B rows)) :
  Calls Tryz.prog 225 #[gv P Q G, gQ Y yn yc B bn bc] w (Rt w (.bool false)) := by
 obtain ⟨w0, hW⟩ : ∃ W, (w.alloc (bq P Q G)).alloc (jw Y yn yc B bn bc) = W := ⟨_, rfl⟩
 have ai : Hid (Below w.heap.size w w0) := aa (by rw [← hW]; exact aI (Below.refl _ _))
 have HX0 : Hid (nS w0 w.heap.size P Q G) := aa (by rw [← hW]; exact (aW w P Q G).below (af _ _))
 have ek : Hid (p_ w0 (w.heap.size + 1) (.slice Y yn yc) (.slice B bn bc)) := aa (by rw [← hW]; exact dN _ _ _ _ _)
 have w_ : Hid (Sl w0 Y ys) := aa (hY.out.below ai.out)
 have oJ : Hid (Rw w0 B rows) := aa (hB.out.below ai.out)
 have HW := aa hW
 clear hW hY hB
 have d1 : decide ((yn : Int) < 1) = true := by simp; omega
 go_in
 go_wp2_with fail
 rw [HW.out]
 go_wp2_with fail
 refine (bT P Q G true HG hQ _).mono ?_
 rintro e w1 ⟨rfl, hb0⟩
 have hb1 := ag (ai.out) hb0
 have qz := aa (HX0.out.below hb0)
 have HR1 := aa (ek.out.below hb0)
 have wZ := aa (w_.out.below hb0)
 have nP := aa (oJ.out.below hb0)
 clear hb0
 obtain ⟨c0, c1, c2⟩ := qz.out
 obtain ⟨d0, d1⟩ := HR1.out
 go_wp2
 go_ret
 exact ⟨rfl, hb1⟩
theorem RF (P Q G : Int) (Y : Option Addr) (ys : List Int) (yn yc : Nat) (B : Option Addr) (rows : List Row) (bn bc : Nat) (HG : Hid (aV P Q G = true)) (h1 : 1 ≤ yn) (h2 : 8 < yn) (hyn : Hid (ys.length = yn)) (hbn : Hid (rows.length = bn)) (hQ : Q < 9223372036854775808) (w : World) (hY : Hid (Sl w Y ys)) (hB : Hid (Rw w B rows)) :
  Calls Tryz.prog 225 #[gv P Q G, gQ Y yn yc B bn bc] w (Rt w (.bool false)) := by
 obtain ⟨w0, hW⟩ : ∃ W, (w.alloc (bq P Q G)).alloc (jw Y yn yc B bn bc) = W := ⟨_, rfl⟩
 have ai : Hid (Below w.heap.size w w0) := aa (by rw [← hW]; exact aI (Below.refl _ _))
 have HX0 : Hid (nS w0 w.heap.size P Q G) := aa (by rw [← hW]; exact (aW w P Q G).below (af _ _))
 have ek : Hid (p_ w0 (w.heap.size + 1) (.slice Y yn yc) (.slice B bn bc)) := aa (by rw [← hW]; exact dN _ _ _ _ _)
 have w_ : Hid (Sl w0 Y ys) := aa (hY.out.below ai.out)
 have oJ : Hid (Rw w0 B rows) := aa (hB.out.below ai.out)
 have HW := aa hW
 clear hW hY hB
 have d1 : decide ((yn : Int) < 1) = false := by simp; omega
 have d2 : decide ((8 : Int) < (yn : Int)) = true := by simp; omega
 go_in
 go_wp2_with fail
 rw [HW.out]
 go_wp2_with fail
 refine (bT P Q G true HG hQ _).mono ?_
 rintro e w1 ⟨rfl, hb0⟩
 have hb1 := ag (ai.out) hb0
 have qz := aa (HX0.out.below hb0)
 have HR1 := aa (ek.out.below hb0)
 have wZ := aa (w_.out.below hb0)
 have nP := aa (oJ.out.below hb0)
 clear hb0
 obtain ⟨c0, c1, c2⟩ := qz.out
 obtain ⟨d0, d1⟩ := HR1.out
 go_wp2
 go_ret
 exact ⟨rfl, hb1⟩
theorem RD (P Q G : Int) (Y : Option Addr) (ys : List Int) (yn yc : Nat) (B : Option Addr) (rows : List Row) (bn bc : Nat) (HG : Hid (aV P Q G = true)) (h1 : 1 ≤ yn) (h2 : yn ≤ 8) (h3 : bn ≠ yn) (hyn : Hid (ys.length = yn)) (hbn : Hid (rows.length = bn)) (hQ : Q < 9223372036854775808) (w : World) (hY : Hid (Sl w Y ys)) (hB : Hid (Rw w B rows)) :
  Calls Tryz.prog 225 #[gv P Q G, gQ Y yn yc B bn bc] w (Rt w (.bool false)) := by
 obtain ⟨w0, hW⟩ : ∃ W, (w.alloc (bq P Q G)).alloc (jw Y yn yc B bn bc) = W := ⟨_, rfl⟩
 have ai : Hid (Below w.heap.size w w0) := aa (by rw [← hW]; exact aI (Below.refl _ _))
 have HX0 : Hid (nS w0 w.heap.size P Q G) := aa (by rw [← hW]; exact (aW w P Q G).below (af _ _))
 have ek : Hid (p_ w0 (w.heap.size + 1) (.slice Y yn yc) (.slice B bn bc)) := aa (by rw [← hW]; exact dN _ _ _ _ _)
 have w_ : Hid (Sl w0 Y ys) := aa (hY.out.below ai.out)
 have oJ : Hid (Rw w0 B rows) := aa (hB.out.below ai.out)
 have HW := aa hW
 clear hW hY hB
 have d1 : decide ((yn : Int) < 1) = false := by simp; omega
 have d2 : decide ((8 : Int) < (yn : Int)) = false := by simp; omega
 have d3 : ((bn : Int) != (yn : Int)) = true := by simp; omega
 go_in
 go_wp2_with fail
 rw [HW.out]
 go_wp2_with fail
 refine (bT P Q G true HG hQ _).mono ?_
 rintro e w1 ⟨rfl, hb0⟩
 have hb1 := ag (ai.out) hb0
 have qz := aa (HX0.out.below hb0)
 have HR1 := aa (ek.out.below hb0)
 have wZ := aa (w_.out.below hb0)
 have nP := aa (oJ.out.below hb0)
 clear hb0
 obtain ⟨c0, c1, c2⟩ := qz.out
 obtain ⟨d0, d1⟩ := HR1.out
 go_wp2
 go_ret
 exact ⟨rfl, hb1⟩
theorem RB (P Q G : Int) (Y : Option Addr) (ys : List Int) (yc : Nat) (B : Option Addr) (rows : List Row) (bn bc : Nat) (n0 : Nat) (hN : Hid (fZ rows = n0)) (HG : Hid (aV P Q G = true)) (h1 : 1 ≤ bn) (h2 : bn ≤ 8) (h4 : n0 < 1) (hyn : Hid (ys.length = bn)) (hbn : Hid (rows.length = bn)) (hQ : Q < 9223372036854775808) (w : World) (hY : Hid (Sl w Y ys)) (hB : Hid (Rw w B rows)) :
  Calls Tryz.prog 225 #[gv P Q G, gQ Y bn yc B bn bc] w (Rt w (.bool false)) := by
 obtain ⟨w0, hW⟩ : ∃ W, (w.alloc (bq P Q G)).alloc (jw Y bn yc B bn bc) = W := ⟨_, rfl⟩
 have ai : Hid (Below w.heap.size w w0) := aa (by rw [← hW]; exact aI (Below.refl _ _))
 have HX0 : Hid (nS w0 w.heap.size P Q G) := aa (by rw [← hW]; exact (aW w P Q G).below (af _ _))
 have ek : Hid (p_ w0 (w.heap.size + 1) (.slice Y bn yc) (.slice B bn bc)) := aa (by rw [← hW]; exact dN _ _ _ _ _)
 have w_ : Hid (Sl w0 Y ys) := aa (hY.out.below ai.out)
 have oJ : Hid (Rw w0 B rows) := aa (hB.out.below ai.out)
 have HW := aa hW
 clear hW hY hB
 have d1 : decide ((bn : Int) < 1) = false := by simp; omega
 have d2 : decide ((8 : Int) < (bn : Int)) = false := by simp; omega
 have d4 : decide ((n0 : Int) < 1) = true := by simp; omega
 go_in
 go_wp2_with fail
 rw [HW.out]
 go_wp2_with fail
 refine (bT P Q G true HG hQ _).mono ?_
 rintro e w1 ⟨rfl, hb0⟩
 have hb1 := ag (ai.out) hb0
 have qz := aa (HX0.out.below hb0)
 have HR1 := aa (ek.out.below hb0)
 have wZ := aa (w_.out.below hb0)
 have nP := aa (oJ.out.below hb0)
 clear hb0
 obtain ⟨c0, c1, c2⟩ := qz.out
 obtain ⟨d0, d1⟩ := HR1.out
 go_wp2_with fail
 refine (fM Y bn yc B rows bn bc n0 hbn (by omega) hN _ nP).mono ?_
 rintro e w2 ⟨rfl, hb0⟩
 have hb2 := ag hb1 hb0
 have zz := aa (qz.out.below hb0)
 have HR2 := aa (HR1.out.below hb0)
 have Nt := aa (wZ.out.below hb0)
 have Cb := aa (nP.out.below hb0)
 clear c0 c1 c2 d0 d1 hb0
 obtain ⟨c0, c1, c2⟩ := zz.out
 obtain ⟨d0, d1⟩ := HR2.out
 go_wp2
 go_ret
 exact ⟨rfl, hb2⟩
theorem Rz (P Q G : Int) (Y : Option Addr) (ys : List Int) (yc : Nat) (B : Option Addr) (rows : List Row) (bn bc : Nat) (n0 : Nat) (hN : Hid (fZ rows = n0)) (HG : Hid (aV P Q G = true)) (h1 : 1 ≤ bn) (h2 : bn ≤ 8) (h4 : 1 ≤ n0) (h5 : 12 < n0) (hyn : Hid (ys.length = bn)) (hbn : Hid (rows.length = bn)) (hQ : Q < 9223372036854775808) (w : World) (hY : Hid (Sl w Y ys)) (hB : Hid (Rw w B rows)) :
  Calls Tryz.prog 225 #[gv P Q G, gQ Y bn yc B bn bc] w (Rt w (.bool false)) := by
 obtain ⟨w0, hW⟩ : ∃ W, (w.alloc (bq P Q G)).alloc (jw Y bn yc B bn bc) = W := ⟨_, rfl⟩
 have ai : Hid (Below w.heap.size w w0) := aa (by rw [← hW]; exact aI (Below.refl _ _))
 have HX0 : Hid (nS w0 w.heap.size P Q G) := aa (by rw [← hW]; exact (aW w P Q G).below (af _ _))
 have ek : Hid (p_ w0 (w.heap.size + 1) (.slice Y bn yc) (.slice B bn bc)) := aa (by rw [← hW]; exact dN _ _ _ _ _)
 have w_ : Hid (Sl w0 Y ys) := aa (hY.out.below ai.out)
 have oJ : Hid (Rw w0 B rows) := aa (hB.out.below ai.out)
 have HW := aa hW
 clear hW hY hB
 have d1 : decide ((bn : Int) < 1) = false := by simp; omega
 have d2 : decide ((8 : Int) < (bn : Int)) = false := by simp; omega
 have d4 : decide ((n0 : Int) < 1) = false := by simp; omega
 have d5 : decide ((12 : Int) < (n0 : Int)) = true := by simp; omega
 go_in
 go_wp2_with fail
 rw [HW.out]
 go_wp2_with fail
 refine (bT P Q G true HG hQ _).mono ?_
 rintro e w1 ⟨rfl, hb0⟩
 have hb1 := ag (ai.out) hb0
 have qz := aa (HX0.out.below hb0)
 have HR1 := aa (ek.out.below hb0)
 have wZ := aa (w_.out.below hb0)
 have nP := aa (oJ.out.below hb0)
 clear hb0
 obtain ⟨c0, c1, c2⟩ := qz.out
 obtain ⟨d0, d1⟩ := HR1.out
 go_wp2_with fail
 refine (fM Y bn yc B rows bn bc n0 hbn (by omega) hN _ nP).mono ?_
 rintro e w2 ⟨rfl, hb0⟩
 have hb2 := ag hb1 hb0
 have zz := aa (qz.out.below hb0)
 have HR2 := aa (HR1.out.below hb0)
 have Nt := aa (wZ.out.below hb0)
 have Cb := aa (nP.out.below hb0)
 clear c0 c1 c2 d0 d1 hb0
 obtain ⟨c0, c1, c2⟩ := zz.out
 obtain ⟨d0, d1⟩ := HR2.out
 go_wp2
 go_ret
 exact ⟨rfl, hb2⟩
theorem iK (P Q G : Int) (Y : Option Addr) (ys : List Int) (yn yc : Nat) (B : Option Addr) (rows : List Row) (bn bc : Nat) (r : Bool) (hr : Hid (eD P Q G ys rows = r)) (hyn : Hid (ys.length = yn)) (hbn : Hid (rows.length = bn)) (hQ : Q < 9223372036854775808) (w : World) (hY : Hid (Sl w Y ys)) (hB : Hid (Rw w B rows)) :
  Calls Tryz.prog 225 #[gv P Q G, gQ Y yn yc B bn bc] w (Rt w (.bool r)) := by
 have hr' := hr.out
 rw [eD, hyn.out, hbn.out] at hr'
 cases hg : aV P Q G with
 | false =>
  obtain rfl : r = false := by rw [← hr', hg, Bool.false_and]
  exact Ry P Q G Y ys yn yc B rows bn bc (aa hg) hyn hbn hQ w hY hB
 | true =>
  rw [hg, Bool.true_and] at hr'
  by_cases h1 : yn < 1
  ·
   obtain rfl : r = false := by rw [← hr', decide_eq_false (show ¬ 1 ≤ yn by omega)]; rfl
   exact RG P Q G Y ys yn yc B rows bn bc (aa hg) h1 hyn hbn hQ w hY hB
  ·
   rw [decide_eq_true (show 1 ≤ yn by omega), Bool.true_and] at hr'
   by_cases h2 : 8 < yn
   ·
    obtain rfl : r = false := by rw [← hr', decide_eq_false (show ¬ yn ≤ 8 by omega)]; rfl
    exact RF P Q G Y ys yn yc B rows bn bc (aa hg) (by omega) h2 hyn hbn hQ w hY hB
   ·
    rw [decide_eq_true (show yn ≤ 8 by omega), Bool.true_and] at hr'
    by_cases h3 : bn = yn
    ·
     subst h3
     rw [decide_eq_true rfl, Bool.true_and] at hr'
     obtain ⟨n0, hn0⟩ : ∃ n, fZ rows = n := ⟨_, rfl⟩
     rw [hn0] at hr'
     by_cases h4 : n0 < 1
     ·
      obtain rfl : r = false := by rw [← hr', decide_eq_false (show ¬ 1 ≤ n0 by omega), Bool.false_and, Bool.and_false]
      exact RB P Q G Y ys yc B rows bn bc n0 (aa hn0) (aa hg) (by omega) (by omega) h4 hyn hbn hQ w hY hB
     ·
      rw [decide_eq_true (show 1 ≤ n0 by omega), Bool.true_and] at hr'
      by_cases h5 : 12 < n0
      ·
       obtain rfl : r = false := by rw [← hr', decide_eq_false (show ¬ n0 ≤ 12 by omega), Bool.false_and, Bool.and_false]
       exact Rz P Q G Y ys yc B rows bn bc n0 (aa hn0) (aa hg) (by omega) (by omega) (by omega) h5 hyn hbn hQ w hY hB
      ·
       rw [decide_eq_true (show n0 ≤ 12 by omega), Bool.true_and] at hr'
       exact KF P Q G Y ys bn yc B rows bc n0 r (aa hg) (aa (by rw [leftV, List.drop_zero, List.drop_zero]; exact hr')) (aa hn0) hyn hbn (by omega) (by omega) (by omega) (by omega) hQ w hY hB
    ·
     obtain rfl : r = false := by rw [← hr', decide_eq_false h3]; rfl
     exact RD P Q G Y ys yn yc B rows bn bc (aa hg) (by omega) (by omega) h3 hyn hbn hQ w hY hB
theorem Tx (g n cap : Nat) (zs : List Int) (Y : Option Addr) (ys : List Int) (m yc : Nat) (hn : zs.length = n) (hm : Hid (ys.length = m)) (hpos : 0 < m) (hbig : n < 1000) (hbig2 : m < 1000) (w : World) (h1 : Hid (Cells w g zs)) (h2 : Hid (Sl w Y ys)) :
  Calls Tryz.prog 241 #[.slice (some ⟨g, 0, none⟩) n cap, .slice Y m yc] w (Rt w (.bool (zs == ys))) := by
 obtain ⟨b, o, rfl, _⟩ := h2.out 0 (by rw [hm.out]; exact hpos)
 have hm' := hm.out
 refine (Tryz.slices_Equal_int g 0 n cap b o m yc zs ys w (by omega) (by omega) (by omega) (by omega) (fun j hj => ?_) (fun j hj => ?_)).mono ?_
 · rw [Nat.zero_add]; exact h1.out j hj
 ·
  obtain ⟨b', o', e1, e2⟩ := h2.out j hj
  cases e1
  exact e2
 ·
  rintro e w' ⟨rfl, q, rfl⟩
  refine ⟨?_, ay (Below.refl _ _) _⟩
  rw [List.take_of_length_le (by omega), List.take_of_length_le (by omega)]
def EM (zs : List Int) (n : Nat) (w : World) (e : Ending) (w' : World) : Prop := ∃ g cap, e = .returned (.slice (some ⟨g, 0, none⟩) n cap) ∧ Hid (Cells w' g zs) ∧ Below w.heap.size w w'
theorem B_.cells {zs : List Int} {n : Nat} {w w' : World} {e : Ending} (h : B_ zs w e w') (hn : zs.length = n) (hpos : 0 < n) : EM zs n w e w' := by
 obtain ⟨v, he, ho, hb⟩ := h
 obtain ⟨g, cap, rfl, _, hc⟩ := fT.cells ho (by omega)
 rw [hn] at he
 exact ⟨g, cap, he, aa hc, hb⟩
theorem fT.rowF {w : World} {B : Nat} {v : Value} {xs : List Int} (h : fT w B v xs) (hne : 0 < xs.length) : ∃ g cap, v = .slice (some ⟨g, 0, none⟩) xs.length cap ∧ B ≤ g ∧ zN w g xs.length (fun j => xs.getD j 0) := by
 obtain ⟨g, cap, hv, hg, hc⟩ := fT.cells h hne
 obtain ⟨_, h2⟩ := h
 rcases h2 with ⟨_, h0⟩ | ⟨g', cap', cur, hv', _, hh, _⟩
 · omega
 ·
  rw [hv] at hv'
  cases hv'
  exact ⟨g, cap, hv, hg, fun j hj => hc j hj, fun j => aX hh j⟩
theorem zN.below {w w' : World} {g n : Nat} {f : Nat → Int} (h : zN w g n f) (hn : 0 < n) (hb : Below w.heap.size w w') : zN w' g n f := by
 have hg : g < w.heap.size := World.block_lt_of_cell? _ _ (h.1 0 hn)
 exact ⟨fun j hj => (hb.cell (p := ⟨g, j, none⟩) hg).trans (h.1 j hj), fun j => (hb.frozen (p := ⟨g, j, none⟩) hg).trans (h.2 j)⟩
def yA (P Q c : Int) (ys : List Int) (rows : List Row) (zs : List Int) (i : Nat) : Int := dH P 1 (rows.getD i dh).xs zs * pw (ys.getD i 0) ((Q - c) % Q) P % P
def vE (P Q c : Int) (ys : List Int) (rows : List Row) (zs : List Int) : List Int := (List.range rows.length).map (yA P Q c ys rows zs)
theorem gG (P Q c : Int) (ys : List Int) (rows : List Row) (zs : List Int) : (vE P Q c ys rows zs).length = rows.length := by simp [vE]
theorem yz {P Q c : Int} {ys : List Int} {rows : List Row} {zs : List Int} {i : Nat} (h : i < rows.length) : (vE P Q c ys rows zs).getD i 0 = yA P Q c ys rows zs i := by
 rw [List.getD_eq_getElem?_getD, List.getElem?_eq_getElem (by rw [gG]; exact h)]
 simp [vE]
theorem LC {f : Row → Int} {rows : List Row} {i : Nat} (h : i < rows.length) : (rows.map f).getD i 0 = f (rows.getD i dh) := by
 rw [List.getD_eq_getElem?_getD, List.getElem?_eq_getElem (by simpa using h), List.getD_eq_getElem?_getD, List.getElem?_eq_getElem h]
 simp
theorem Dt {P : Int} (hp : 2 ≤ P) : ∀ (xs es : List Int) (acc : Int), 0 ≤ acc → acc < P → 0 ≤ dH P acc xs es ∧ dH P acc xs es < P
 | [], es, acc, h0, h1 => by cases es <;> exact ⟨h0, h1⟩
 | x :: xs, [], acc, h0, h1 => ⟨h0, h1⟩
 | x :: xs, e :: es, acc, h0, h1 => by
  rw [dH]
  exact Dt hp xs es _ (Int.emod_nonneg _ (by omega)) (Int.emod_lt_of_pos _ (by omega))
theorem O8 (P Q G : Int) (Y : Option Addr) (ys : List Int) (yc : Nat) (B : Option Addr) (rows : List Row) (n bc : Nat) (c : Int) (L : Option Addr) (zs : List Int) (ln lc : Nat) (jV : Hid (eD P Q G ys rows = true)) (hyn : Hid (ys.length = n)) (hbn : Hid (rows.length = n)) (hln : Hid (zs.length = ln)) (hlen : zs.length = fZ rows)
  (Hl : Hid (zs.all (gW Q) = true)) (hc0 : 0 ≤ c) (hc1 : c < Q) (hQ : Q < 9223372036854775808) (w : World) (hY : Hid (Sl w Y ys)) (hB : Hid (Rw w B rows)) (hL : Hid (Sl w L zs)) :
  Calls Tryz.prog 242 #[gv P Q G, gQ Y n yc B n bc, .int .i64 c, .slice L ln lc] w (EM (vE P Q c ys rows zs) n w) := by
 obtain ⟨v1, v2, v3, v4, v5, v6, v7, v8⟩ := bJ jV.out
 obtain ⟨hp2, hp, hq3, Av⟩ := bH v1
 rw [← hlen, hln.out] at v8
 have Ip := aa v8
 have hnp : 0 < n := by rw [← hyn.out]; omega
 have Ym : n ≤ 8 := by rw [← hyn.out]; omega
 have abF : ln ≤ 12 := by rw [← hln.out]; omega
 have HYM := aa v5
 have hzl : (rows.map fun r => dH P 1 r.xs zs).length = n := by rw [List.length_map]; exact hbn.out
 clear v1 v2 v3 v4 v5 v6 v7 v8
 obtain ⟨b1, o1, rfl, _⟩ := hY.out 0 (by rw [hyn.out]; exact hnp)
 obtain ⟨w0, hW⟩ : ∃ W, (w.alloc (bq P Q G)).alloc (jw (some ⟨b1, o1, none⟩) n yc B n bc) = W := ⟨_, rfl⟩
 have ai : Hid (Below w.heap.size w w0) := aa (by rw [← hW]; exact aI (Below.refl _ _))
 have HX0 : Hid (nS w0 w.heap.size P Q G) := aa (by rw [← hW]; exact (aW w P Q G).below (af _ _))
 have ek : Hid (p_ w0 (w.heap.size + 1) (.slice (some ⟨b1, o1, none⟩) n yc) (.slice B n bc)) := aa (by rw [← hW]; exact dN _ _ _ _ _)
 have w_ := aa (hY.out.below ai.out)
 have xY := aa (hB.out.below ai.out)
 have EX := aa (hL.out.below ai.out)
 have HW := aa hW
 clear hW hY hB hL
 obtain ⟨d0, d1⟩ := ek.out
 obtain ⟨c0, c1, c2⟩ := HX0.out
 go_in
 go_wp2_with fail
 rw [HW.out]
 refine (zH P Q G B rows n bc L zs ln lc hbn hln (by omega) (by omega) Ip Hl hp2 hp hQ _ xY EX).mono ?_
 rintro e W ⟨v, rfl, ho, hb0⟩
 obtain ⟨g, cap, rfl, hg, hrf⟩ := ho.rowF (by rw [hzl]; exact hnp)
 rw [hzl] at hrf
 have hvl : (Value.slice (some ⟨g, 0, none⟩) ((rows.map fun r => dH P 1 r.xs zs).length) cap) = .slice (some ⟨g, 0, none⟩) n cap := by rw [hzl]
 rw [hvl]
 have P7 := aa (HX0.out.below hb0)
 have HRW := aa (ek.out.below hb0)
 have HYW := aa (w_.out.below hb0)
 have rY := aa (ag ai.out hb0)
 have hgw : w.heap.size + 1 < g := by have h1 : w.heap.size + 1 < w0.heap.size := World.block_lt_of_cell? _ _ ek.out.1; omega
 have hyg : b1 < g := by
  obtain ⟨bb, oo, e1, e2⟩ := w_.out 0 (by rw [hyn.out]; exact hnp)
  cases e1
  have h1 : b1 < w0.heap.size := World.block_lt_of_cell? _ _ e2
  omega
 have vz : Hid (zN W g n (fun j => if j < 0 then yA P Q c ys rows zs j else dH P 1 (rows.getD j dh).xs zs)) := aa ⟨fun j hj => by
  have h1 := hrf.1 j hj
  dsimp only at h1
  rw [LC (by rw [hbn.out]; exact hj)] at h1
  dsimp only
  rw [if_neg (by omega)]
  exact h1, hrf.2⟩
 have HG_ := aa (Nat.le_trans ai.out.size hg)
 clear ho hb0 hrf hvl hg c0 c1 c2 d0 d1
 obtain ⟨d0, d1⟩ := HRW.out
 go_wp2
 go_loopw [22] (fun i wr => ∃ k : Nat, k ≤ n ∧ i = .int .i64 k ∧ Hid (zN wr g n (fun j => if j < k then yA P Q c ys rows zs j else dH P 1 (rows.getD j dh).xs zs)) ∧ Hid (Below g W wr)) (fun i _ => n - (intOf i).toNat)
 case atStart => exact ⟨0, by omega, rfl, vz, aa (Below.refl _ _)⟩
 case round =>
  obtain ⟨k, hk, rfl, Uh, au⟩ := hrel
  by_cases hlt : k < n
  ·
   have hkl : k < ys.length := by rw [hyn.out]; exact hlt
   have hkr : k < rows.length := by rw [hbn.out]; exact hlt
   obtain ⟨bb, oo, e1, hi0⟩ := HYW.out k hkl
   cases e1
   have hi1 := (au.out.cell (p := ⟨b1, o1 + k, none⟩) hyg).trans hi0
   have c0 := (au.out.cell (p := ⟨w.heap.size, 0, none⟩) (by show w.heap.size < g; omega)).trans P7.out.1
   have c1 := (au.out.cell (p := ⟨w.heap.size, 1, none⟩) (by show w.heap.size < g; omega)).trans P7.out.2.1
   have hcell : wr.cell? ⟨g, k, none⟩ = some (.int .i64 (dH P 1 (rows.getD k dh).xs zs)) := by
    have h3 := Uh.out.1 k hlt
    simp only [Nat.lt_irrefl, if_false] at h3
    exact h3
   have hfz := Uh.out.2 k
   have FW := ig HYM.out hkl
   obtain ⟨q0, q1⟩ := Dt hp2 (rows.getD k dh).xs zs 1 (by omega) (by omega)
   have Qz : yA P Q c ys rows zs k = dH P 1 (rows.getD k dh).xs zs * pw (ys.getD k 0) ((Q - c) % Q) P % P := rfl
   obtain ⟨a, ha⟩ : ∃ a, dH P 1 (rows.getD k dh).xs zs = a := ⟨_, rfl⟩
   obtain ⟨y, hy⟩ : ∃ x, ys.getD k 0 = x := ⟨_, rfl⟩
   rw [ha] at hcell q0 q1 Qz
   rw [hy] at hi1 FW Qz
   have y0 := fE FW
   have y1 := fF FW
   obtain ⟨ex, hex⟩ : ∃ e, (Q - c) % Q = e := ⟨_, rfl⟩
   have ex0 : 0 ≤ ex := by rw [← hex]; exact Int.emod_nonneg _ (by omega)
   have ex1 : ex < Q := by rw [← hex]; exact Int.emod_lt_of_pos _ (by omega)
   rw [hex] at Qz
   obtain ⟨p, hpw⟩ : ∃ p, pw y ex P = p := ⟨_, rfl⟩
   obtain ⟨p0, p1⟩ : 0 ≤ p ∧ p < P := by rw [← hpw]; exact vW _ _ _ (by omega)
   rw [hpw] at Qz
   obtain ⟨t, ht⟩ : ∃ t, a * p % P = t := ⟨_, rfl⟩
   rw [ht] at Qz
   have HN : ∀ q, Hid (zN ((wr.drewN q).setCell ⟨g, k, none⟩ (.int .i64 t)) g n (fun j => if j < k + 1 then yA P Q c ys rows zs j else dH P 1 (rows.getD j dh).xs zs)) := fun q => by
    have h3 := K4 (zN.below Uh.out hnp (ay (Below.refl _ _) q)) hlt t
    have e : (fun j => if j = k then t else if j < k then yA P Q c ys rows zs j else dH P 1 (rows.getD j dh).xs zs) = (fun j => if j < k + 1 then yA P Q c ys rows zs j else dH P 1 (rows.getD j dh).xs zs) := by
     funext j
     by_cases hj : j = k
     · subst hj; rw [if_pos rfl, if_pos (by omega), Qz]
     ·
      rw [if_neg hj]
      by_cases hj2 : j < k
      · rw [if_pos hj2, if_pos (by omega)]
      · rw [if_neg hj2, if_neg (by omega)]
    rw [e] at h3
    exact aa h3
   have HNH := aa HN
   have HB2 := aa (show ∀ q, Hid (Below g W ((wr.drewN q).setCell ⟨g, k, none⟩ (.int .i64 t))) from fun q => aa ((ay au.out q).setCell (Nat.le_refl _) _))
   have hdf : IntKind.i64.wrap (Q - c) = Q - c := IntWalk.i64_in _ (by omega)
   have htm : (Q - c).tmod Q = ex := by rw [Int.tmod_eq_emod_of_nonneg (by omega), hex]
   have hwx : IntKind.i64.wrap ex = ex := IntWalk.i64_in _ (by omega)
   have hQn : ¬ (Q = 0) := by omega
   have XA := aa hpw
   have Ye := aa ht
   have YH := aa Qz
   clear hkl hkr hi0 FW Qz ha hy hex hpw ht HN
   go_wp2
   go_quiet ((go_at_call 105; exact Calls.quiet_of (pow_eq y ex P p XA (by omega) hp (by omega) y1 ex0 (by omega) _)))
   go_wp2_with fail
   go_region_with ((go_at_call 35; refine (xx a p P t Ye hp q0 q1 p0 p1 _).mono ?_; rintro e w' ⟨rfl, n3, rfl⟩))
   all_goals
    go_wp2
    go_roundw
    case rel => exact ⟨k + 1, by omega, by go_num, HNH.out _, HB2.out _⟩
    case measure => simp [intOf]; omega
  ·
   obtain rfl : k = n := by omega
   have HF : Hid (Cells wr g (vE P Q c ys rows zs)) := aa (fun j hj => by
    rw [gG, hbn.out] at hj
    rw [yz (by rw [hbn.out]; exact hj), Uh.out.1 j hj]
    dsimp only
    rw [if_pos hj])
   have bV : Below w.heap.size w wr := rY.out.trans (au.out.mono HG_.out)
   clear Uh hlt
   go_wp2
   go_ret
   exact ⟨g, cap, rfl, HF, bV⟩
end Go.Proofs.YtchcllcbknfikaaGreatDoor