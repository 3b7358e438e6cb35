/- Contracts and lemmas: Psm, Psn, Ppr, Pin, Pvl, Pty, Poy, Rse. -/
import Derived.Maps.OwnSet
import Derived.Test.YtchcllcbknfikaaGreatDoorTs3
set_option linter.unusedVariables false
set_option linter.unusedSimpArgs false
set_option maxRecDepth 100000
set_option maxHeartbeats 25600000
namespace Go.Proofs.YtchcllcbknfikaaGreatDoor
open Go.RowKit jK
theorem wL (q x : Int) (zs : List Int) : ∀ k, k ≤ zs.length → rU q x zs k = hv q (zs.drop (zs.length - k)) x
 | 0, _ => by rw [Nat.sub_zero, List.drop_length]; rfl
 | k + 1, h => by
  have e : zs.length - (k + 1) + 1 = zs.length - k := by omega
  rw [rU, wL q x zs k (by omega), show zs.length - 1 - k = zs.length - (k + 1) by omega, y_ (k := zs.length - (k + 1)) (by omega), e]
theorem qL {q : Int} (hq : 1 ≤ q) (x : Int) (zs : List Int) (n : Nat) (hn : zs.length = n) : rU q x zs n = pv zs x % q := by
 rw [wL q x zs n (by omega), hn, Nat.sub_self, List.drop_zero, Db (by omega)]
def bD (xs : List Int) : Nat → Nat
 | 0 => 0
 | k + 1 => if xs.getD k 0 = 0 then bD xs k else k + 1
theorem oJ (xs : List Int) : ∀ k, bD xs k ≤ k
 | 0 => Nat.le_refl _
 | k + 1 => by rw [bD]; split; exact Nat.le_succ_of_le (oJ xs k); exact Nat.le_refl _
theorem oI (xs : List Int) (X : Int) : ∀ k, k ≤ xs.length → pv (xs.take (bD xs k)) X = pv (xs.take k) X
 | 0, _ => rfl
 | k + 1, h => by
  rw [bD]
  split
  · rename_i h0; rw [oI xs X k (by omega), yU h h0]
  · rfl
theorem j_ (xs : List Int) : ∀ k, bD xs k = 0 ∨ xs.getD (bD xs k - 1) 0 ≠ 0
 | 0 => .inl rfl
 | k + 1 => by
  rw [bD]
  split
  · exact j_ xs k
  · rename_i h0; exact .inr (by rw [Nat.add_sub_cancel]; exact h0)
def jL (q : Int) (m : Nat) (v : Int → Int) (w : World) (e : Ending) (w' : World) : Prop := ∃ A c L, e = .returned (.slice A L.length c) ∧ Sl w' A L ∧ Pl q m L ∧ (∀ X, Cg q (pv L X) (v X)) ∧ Below w.heap.size w w'
theorem uD {q : Int} {xs : List Int} (h : xs.all (aQ q) = true) (k : Nat) : (xs.take k).all (aQ q) = true := by
 rw [List.all_eq_true] at h ⊢
 exact fun x hx => h x (List.mem_of_mem_take hx)
theorem rG {q : Int} {xs : List Int} {n m : Nat} (hn : xs.length = n) (hm : n ≤ m) (h : xs.all (aQ q) = true) : Pl q m (xs.take (bD xs n)) ∧ ∀ X, Cg q (pv (xs.take (bD xs n)) X) (pv xs X) := by
 have h1 := oJ xs n
 have hl : (xs.take (bD xs n)).length = bD xs n := by rw [List.length_take]; omega
 refine ⟨⟨uD h _, by omega, ?_⟩, fun X => Cg.of_eq ?_⟩
 ·
  rw [hl]
  rcases j_ xs n with e | e
  · exact .inl e
  ·
   by_cases e0 : bD xs n = 0
   · exact .inl e0
   ·
    refine .inr ?_
    rw [List.getD_eq_getElem?_getD, List.getElem?_take_of_lt (by omega), ← List.getD_eq_getElem?_getD]; exact e
 · rw [oI xs X n (by omega), List.take_of_length_le (by omega)]
theorem gM (q : Int) (A : Option Addr) (xs : List Int) (n c m : Nat) (hn : Hid (xs.length = n)) (hnc : n ≤ c) (hm : n ≤ m) (hbig : n < 1000000) (hs : Hid (xs.all (aQ q) = true)) (w : World) (hS : Hid (Sl w A xs)) :
  Calls Tryz.prog 117 #[.slice A n c] w (jL q m (pv xs) w) := by
 go_in
 go_wp2
 go_loopw [3] (fun i wr => ∃ k : Nat, k ≤ n ∧ i = .int .i64 k ∧ bD xs n = bD xs k ∧ Hid (Below w.heap.size w wr)) (fun i _ => (intOf i).toNat)
 case atStart => exact ⟨n, by omega, rfl, rfl, aa (Below.refl _ _)⟩
 case round =>
  obtain ⟨k, hk, rfl, htr, ax⟩ := hrel
  have Az := aa (hS.out.below ax.out)
  by_cases h0 : k = 0
  ·
   subst h0
   have HM := aa (rG hn.out hm hs.out)
   rw [htr] at HM
   clear htr
   have HST : Hid (Sl wr A (xs.take 0)) := aa (fC Az.out 0)
   have hd : decide ((0 : Int) < ((0 : Nat) : Int)) = false := by simp
   go_wp2_with fail
   refine (iF A (xs.take 0) 0 c (aa rfl) (by omega) _ HST).mono ?_
   rintro e w2 ⟨A2, c2, rfl, hs2, _, hb2⟩
   have HQ := aa (af ax.out hb2)
   have DI := aa hs2
   clear hs2 hb2
   go_wp2
   go_ret
   exact ⟨A2, c2, _, rfl, DI.out, HM.out.1, HM.out.2, HQ.out⟩
  ·
   obtain ⟨j, rfl⟩ : ∃ j, k = j + 1 := ⟨k - 1, by omega⟩
   have hjn : j < n := by omega
   have e1 : ((j + 1 : Nat) : Int) - 1 = (j : Int) := by omega
   have e2 : (j : Int) + 1 - 1 = (j : Int) := by omega
   have d1 : decide ((0 : Int) < ((j + 1 : Nat) : Int)) = true := by simp <;> omega
   obtain ⟨b, o, hA, hi0⟩ := Az.out j (by rw [hn.out]; omega)
   subst hA
   obtain ⟨v, hv⟩ : ∃ v, xs.getD j 0 = v := ⟨_, rfl⟩
   rw [hv] at hi0
   by_cases hv0 : v = 0
   ·
    have dz : ((v : Int) == 0) = true := by simpa using hv0
    have ze : bD xs n = bD xs j := by rw [htr, bD, if_pos (by rw [hv]; exact hv0)]
    clear htr hv
    go_wp2
    go_roundw
    case rel => exact ⟨j, by omega, rfl, ze, ax⟩
    case measure => simp [intOf] <;> omega
   ·
    have dz : ((v : Int) == 0) = false := by simpa using hv0
    have ze : bD xs n = j + 1 := by rw [htr, bD, if_neg (by rw [hv]; exact hv0)]
    have HM := aa (rG hn.out hm hs.out)
    rw [ze] at HM
    have HL : Hid ((xs.take (j + 1)).length = j + 1) := aa (by rw [List.length_take, hn.out]; omega)
    have HST : Hid (Sl wr (some ⟨b, o, none⟩) (xs.take (j + 1))) := aa (fC Az.out (j + 1))
    have hjc : j + 1 ≤ c := by omega
    clear htr ze hv
    go_wp2_with fail
    refine (iF (some ⟨b, o, none⟩) (xs.take (j + 1)) (j + 1) c HL (by omega) _ HST).mono ?_
    rintro e w2 ⟨A2, c2, rfl, hs2, _, hb2⟩
    have HQ := aa (af ax.out hb2)
    have DI := aa hs2
    clear hs2 hb2
    go_wp2
    go_ret
    exact ⟨A2, c2, _, by rw [HL.out]; rfl, DI.out, HM.out.1, HM.out.2, HQ.out⟩
def Rl (w : World) (g : Nat) (xs : List Int) : Prop := (∀ j, j < xs.length → w.cell? ⟨g, j, none⟩ = some (.int .i64 (xs.getD j 0))) ∧ ∀ j, w.frozen? ⟨g, j, none⟩ = false
theorem Rl.set {w : World} {g k : Nat} {xs : List Int} (h : Rl w g xs) (hk : k < xs.length) (v : Int) : Rl (w.setCell ⟨g, k, none⟩ (.int .i64 v)) g (xs.set k v) := by
 refine ⟨fun j hj => ?_, fun j => by rw [World.frozen?_setCell]; exact h.2 j⟩
 rw [List.length_set] at hj
 by_cases e : j = k
 ·
  subst e
  rw [World.cell?_setCell_same _ _ _ (h.1 j hj), List.getD_eq_getElem?_getD, List.getElem?_set_self hk]; rfl
 · rw [World.cell?_setCell_other _ _ _ _ (by intro e2; injection e2 with _ e3; omega), h.1 j hj, List.getD_eq_getElem?_getD, List.getD_eq_getElem?_getD, List.getElem?_set_ne (by omega)]
theorem Rl.below {w w' : World} {g : Nat} {xs : List Int} (h : Rl w g xs) (hb : Below w.heap.size w w') (hg : g < w.heap.size) : Rl w' g xs :=
 ⟨fun j hj => (hb.cell (p := ⟨g, j, none⟩) hg).trans (h.1 j hj), fun j => (hb.frozen (p := ⟨g, j, none⟩) hg).trans (h.2 j)⟩
theorem Rl.sl {w : World} {g : Nat} {xs : List Int} (h : Rl w g xs) : Sl w (some ⟨g, 0, none⟩) xs := fun k hk => ⟨g, 0, rfl, by rw [Nat.zero_add]; exact h.1 k hk⟩
theorem aO.rl {w : World} {B : Nat} {v : Value} {xs : List Int} (h : aO w B v xs) (hne : 0 < xs.length) : ∃ g cap, v = .slice (some ⟨g, 0, none⟩) xs.length cap ∧ B ≤ g ∧ xs.length ≤ cap ∧ Rl w g xs ∧ g < w.heap.size := by
 obtain ⟨h1, h2⟩ := h
 rcases h2 with ⟨_, h0⟩ | ⟨g, cap, cur, rfl, hg, hh, hn, hc, hs, ht⟩
 · omega
 ·
  refine ⟨g, cap, rfl, hg, by omega, ⟨fun j hj => ?_, fun j => dV hh j⟩, (Array.getElem?_eq_some_iff.1 hh).1⟩
  rw [ah hh]
  have e : cur.toList[j]? = (xs.map (Value.int .i64))[j]? := by
   rw [← ht, List.getElem?_take_of_lt (by omega)]
  rw [← Array.getElem?_toList, e, List.getElem?_map, List.getElem?_eq_getElem hj, List.getD_eq_getElem?_getD, List.getElem?_eq_getElem hj]
  rfl
theorem rW (A : Option Addr) (xs : List Int) (n c : Nat) (hn : Hid (xs.length = n)) (h0 : 0 < n) (hbig : n < 1000000) (w : World) (hA : Hid (Sl w A xs)) :
  Calls Tryz.prog 153 #[.slice A n c] w fun e w' => ∃ g cap, e = .returned (.slice (some ⟨g, 0, none⟩) n cap) ∧ w.heap.size ≤ g ∧ n ≤ cap ∧ Rl w' g xs ∧ g < w'.heap.size ∧ Below w.heap.size w w' := by
 have hn' := hn.out
 obtain ⟨b1, o1, rfl, hc1⟩ := hA.out.at0 (by omega)
 refine (Tryz.slices_Clone_int b1 o1 n c xs w (by omega) (by omega) hc1).mono ?_
 rintro e w' ⟨v', rfl, ho, _, hb⟩
 rw [List.take_of_length_le (by omega), ← hn'] at ho
 obtain ⟨g, cc, hv, hg, hcc, hr, hl⟩ := aO.rl (xs := xs) ho (by omega)
 exact ⟨g, cc, by rw [hv, hn'], hg, by omega, hr, hl, hb⟩
def bQ (q : Int) (a b : List Int) : Nat → List Int
 | 0 => a
 | k + 1 => (bQ q a b k).set k ((a.getD k 0 + b.getD k 0) % q)
theorem cZ (q : Int) (a b : List Int) : ∀ k, (bQ q a b k).length = a.length
 | 0 => rfl
 | k + 1 => by rw [bQ, List.length_set, cZ q a b k]
theorem jb (q : Int) (a b : List Int) : ∀ k j, k ≤ j → (bQ q a b k).getD j 0 = a.getD j 0
 | 0, _, _ => rfl
 | k + 1, j, h => by
  rw [bQ, List.getD_eq_getElem?_getD, List.getElem?_set_ne (by omega), ← List.getD_eq_getElem?_getD]
  exact jb q a b k j (by omega)
theorem lI {q : Int} (hq : 1 ≤ q) (a b : List Int) (h : a.all (aQ q) = true) : ∀ k, (bQ q a b k).all (aQ q) = true
 | 0 => h
 | k + 1 => by rw [bQ]; exact r_ (lI hq a b h k) (rz hq)
theorem nW {q : Int} (a b : List Int) (X : Int) : ∀ k, k ≤ a.length → k ≤ b.length → Cg q (pv (bQ q a b k) X) (pv a X + pv (b.take k) X)
 | 0, _, _ => Cg.of_eq (by rw [bQ, List.take_zero, pv]; omega)
 | k + 1, h1, h2 => by
  rw [bQ, iM X b k (by omega)]
  refine (vC (by rw [cZ]; omega) (by rw [jb q a b k k (Nat.le_refl _)])).trans ?_
  exact ((nW a b X k (by omega) (by omega)).add (Cg.refl _ _)).trans (Cg.of_eq (by omega))
theorem jL.to {q : Int} {m : Nat} {v v' : Int → Int} {w0 w w' : World} {e : Ending} (h : jL q m v w e w') (hv : ∀ X, Cg q (v X) (v' X)) (hb : Below w0.heap.size w0 w) : jL q m v' w0 e w' := by
 obtain ⟨A, c, L, h1, h2, h3, h4, h5⟩ := h
 exact ⟨A, c, L, h1, h2, h3, fun X => (h4 X).trans (hv X), hb.trans (h5.mono hb.size)⟩
theorem fE {q : Int} {xs : List Int} (h : xs.all (aQ q) = true) {k : Nat} (hk : k < xs.length) : 0 ≤ xs.getD k 0 ∧ xs.getD k 0 < q := by
 have h9 := (List.all_eq_true.1 h) (xs.getD k 0) (by rw [List.getD_eq_getElem?_getD, List.getElem?_eq_getElem hk]; exact List.getElem_mem _)
 simpa [aQ] using h9
theorem Bn (q : Int) (A : Option Addr) (xs : List Int) (n c : Nat) (B : Option Addr) (ys : List Int) (m d M : Nat) (h1 : 1 ≤ q) (h2 : q < 2305843009213693952) (hn : Hid (xs.length = n)) (hm : Hid (ys.length = m)) (hM : n ≤ M) (hnm : m ≤ n) (hbig : n < 1000000) (hx : Hid (xs.all (aQ q) = true)) (hy : Hid (ys.all (aQ q) = true)) (w : World) (hS : Hid (Sl w A xs)) (hT : Hid (Sl w B ys)) :
  Calls Tryz.prog 99 #[.int .i64 q, .slice A n c, .slice B m d] w (jL q M (fun X => pv xs X + pv ys X) w) := by
 have d0 : decide ((n : Int) < (m : Int)) = false := by simp; omega
 have hQn : ¬ (q = 0) := by omega
 have Am : ((q : Int) == 0) = false := by simp; omega
 have uf : Hid (∀ X, Cg q (pv (bQ q xs ys m) X) (pv xs X + pv ys X)) := aa (fun X => by
  have h9 := nW (q := q) xs ys X m (by rw [hn.out]; omega) (by rw [hm.out]; exact Nat.le_refl _)
  rwa [List.take_of_length_le (by rw [hm.out]; exact Nat.le_refl _)] at h9)
 have CK : Hid ((bQ q xs ys m).all (aQ q) = true) := aa (lI h1 xs ys hx.out m)
 have yl : Hid ((bQ q xs ys m).length = n) := aa (by rw [cZ]; exact hn.out)
 by_cases h0 : n = 0
 ·
  subst h0
  obtain rfl : m = 0 := by omega
  go_in
  go_wp2_with fail
  refine (iF A xs 0 c hn (by omega) _ hS).mono ?_
  rintro e w2 ⟨A2, c2, rfl, hs2, _, hb2⟩
  have HQ := aa hb2
  have DI : Hid (Sl w2 A2 (bQ q xs ys 0)) := aa hs2
  clear hs2 hb2
  go_wp2
  go_loopw [21] (fun i wr => i = .int .i64 0 ∧ wr = w2) (fun _ _ => 0)
  case atStart => exact ⟨rfl, rfl⟩
  case round =>
   obtain ⟨rfl, rfl⟩ := hrel
   go_wp2_with fail
   refine (gM q A2 (bQ q xs ys 0) 0 c2 M yl (by omega) (by omega) (by omega) CK _ DI).mono ?_
   rintro e w3 ⟨A3, c3, L3, rfl, hs3, hp3, hv3, hb3⟩
   have HR := aa hs3
   have HP := aa hp3
   have HV := aa hv3
   have HB3 := aa (af HQ.out hb3)
   clear hs3 hp3 hv3 hb3
   go_wp2
   go_ret
   exact ⟨A3, c3, L3, rfl, HR.out, HP.out, fun X => (HV.out X).trans (uf.out X), HB3.out⟩
 ·
  go_in
  go_wp2_with fail
  refine (rW A xs n c hn (by omega) hbig _ hS).mono ?_
  rintro e w2 ⟨g, cap, rfl, hg, hcap, hr2, hgl, hb2⟩
  have HQ := aa hb2
  have Gf := aa hr2
  have hgw : w.heap.size ≤ g := hg
  clear hr2 hb2 hg
  go_wp2
  go_loopw [21] (fun i wr => ∃ k : Nat, k ≤ m ∧ i = .int .i64 k ∧ Hid (Rl wr g (bQ q xs ys k)) ∧ Hid (Below w.heap.size w wr)) (fun i _ => m - (intOf i).toNat)
  case atStart => exact ⟨0, by omega, rfl, Gf, HQ⟩
  case round =>
   obtain ⟨k, hk, rfl, xC, ax⟩ := hrel
   by_cases hlt : k < m
   ·
    have DC := aa (hT.out.below ax.out)
    obtain ⟨b, o, hB, hi0⟩ := DC.out k (by rw [hm.out]; exact hlt)
    subst hB
    have hkn : k < n := by omega
    have hi1 : wr.cell? ⟨g, k, none⟩ = some (.int .i64 (xs.getD k 0)) := by rw [← jb q xs ys k k (Nat.le_refl _)]; exact xC.out.1 k (by rw [cZ, hn.out]; exact hkn)
    have fz := xC.out.2 k
    obtain ⟨x0, x1⟩ := fE hx.out (k := k) (by rw [hn.out]; exact hkn)
    obtain ⟨y0, y1⟩ := fE hy.out (k := k) (by rw [hm.out]; exact hlt)
    have HN := aa (xC.out.set (k := k) (by rw [cZ, hn.out]; exact hkn) ((xs.getD k 0 + ys.getD k 0) % q))
    have Dl : (bQ q xs ys k).set k ((xs.getD k 0 + ys.getD k 0) % q) = bQ q xs ys (k + 1) := rfl
    rw [Dl] at HN
    clear Dl
    obtain ⟨x, hxv⟩ : ∃ x, xs.getD k 0 = x := ⟨_, rfl⟩
    obtain ⟨y, hyv⟩ : ∃ y, ys.getD k 0 = y := ⟨_, rfl⟩
    rw [hxv] at hi1 HN x0 x1
    rw [hyv] at hi0 HN y0 y1
    obtain ⟨R, hR⟩ : ∃ R, (x + y) % q = R := ⟨_, rfl⟩
    rw [hR] at HN
    have R0 : 0 ≤ R := by rw [← hR]; exact Int.emod_nonneg _ (by omega)
    have R1 : R < q := by rw [← hR]; exact Int.emod_lt_of_pos _ (by omega)
    have e1 : IntKind.i64.wrap (x + y) = x + y := IntWalk.i64_in _ (by omega)
    have e2 : wrap64 (x + y) = x + y := IntWalk.wrap64_in _ (by omega)
    have Ai : (x + y).tmod q = R := ek (by omega) hR
    have hwt : IntKind.i64.wrap R = R := IntWalk.i64_in _ (by omega)
    have BA : wrap64 R = R := IntWalk.wrap64_in _ (by omega)
    have HB2 : Hid (Below w.heap.size w (wr.setCell ⟨g, k, none⟩ (.int .i64 R))) := aa (ax.out.setCell hgw _)
    clear hxv hyv hR
    go_wp2
    go_roundw
    case rel => exact ⟨k + 1, by omega, by go_num, HN, HB2⟩
    case measure => simp [intOf]; omega
   ·
    obtain rfl : k = m := by omega
    have BZ : Hid (Sl wr (some ⟨g, 0, none⟩) (bQ q xs ys k)) := aa xC.out.sl
    go_wp2_with fail
    refine (gM q (some ⟨g, 0, none⟩) (bQ q xs ys k) n cap M yl hcap hM hbig CK _ BZ).mono ?_
    rintro e w3 ⟨A3, c3, L3, rfl, hs3, hp3, hv3, hb3⟩
    have HR := aa hs3
    have HP := aa hp3
    have HV := aa hv3
    have HB3 := aa (af ax.out hb3)
    clear hs3 hp3 hv3 hb3
    go_wp2
    go_ret
    exact ⟨A3, c3, L3, rfl, HR.out, HP.out, fun X => (HV.out X).trans (uf.out X), HB3.out⟩
theorem Bl (q : Int) (A : Option Addr) (xs : List Int) (n c : Nat) (B : Option Addr) (ys : List Int) (m d M : Nat) (h1 : 1 ≤ q) (h2 : q < 2305843009213693952) (hn : Hid (xs.length = n)) (hm : Hid (ys.length = m)) (hM : n ≤ M) (hnm : m < n) (hbig : n < 1000000) (hx : Hid (xs.all (aQ q) = true)) (hy : Hid (ys.all (aQ q) = true)) (w : World) (hS : Hid (Sl w A xs)) (hT : Hid (Sl w B ys)) :
  Calls Tryz.prog 99 #[.int .i64 q, .slice B m d, .slice A n c] w (jL q M (fun X => pv xs X + pv ys X) w) := by
 have d0 : decide ((m : Int) < (n : Int)) = true := by simp; omega
 have hQn : ¬ (q = 0) := by omega
 have Am : ((q : Int) == 0) = false := by simp; omega
 have uf : Hid (∀ X, Cg q (pv (bQ q xs ys m) X) (pv xs X + pv ys X)) := aa (fun X => by
  have h9 := nW (q := q) xs ys X m (by rw [hn.out]; omega) (by rw [hm.out]; exact Nat.le_refl _)
  rwa [List.take_of_length_le (by rw [hm.out]; exact Nat.le_refl _)] at h9)
 have CK : Hid ((bQ q xs ys m).all (aQ q) = true) := aa (lI h1 xs ys hx.out m)
 have yl : Hid ((bQ q xs ys m).length = n) := aa (by rw [cZ]; exact hn.out)
 by_cases h0 : n = 0
 · omega
 ·
  go_in
  go_wp2_with fail
  refine (rW A xs n c hn (by omega) hbig _ hS).mono ?_
  rintro e w2 ⟨g, cap, rfl, hg, hcap, hr2, hgl, hb2⟩
  have HQ := aa hb2
  have Gf := aa hr2
  have hgw : w.heap.size ≤ g := hg
  clear hr2 hb2 hg
  go_wp2
  go_loopw [21] (fun i wr => ∃ k : Nat, k ≤ m ∧ i = .int .i64 k ∧ Hid (Rl wr g (bQ q xs ys k)) ∧ Hid (Below w.heap.size w wr)) (fun i _ => m - (intOf i).toNat)
  case atStart => exact ⟨0, by omega, rfl, Gf, HQ⟩
  case round =>
   obtain ⟨k, hk, rfl, xC, ax⟩ := hrel
   by_cases hlt : k < m
   ·
    have DC := aa (hT.out.below ax.out)
    obtain ⟨b, o, hB, hi0⟩ := DC.out k (by rw [hm.out]; exact hlt)
    subst hB
    have hkn : k < n := by omega
    have hi1 : wr.cell? ⟨g, k, none⟩ = some (.int .i64 (xs.getD k 0)) := by rw [← jb q xs ys k k (Nat.le_refl _)]; exact xC.out.1 k (by rw [cZ, hn.out]; exact hkn)
    have fz := xC.out.2 k
    obtain ⟨x0, x1⟩ := fE hx.out (k := k) (by rw [hn.out]; exact hkn)
    obtain ⟨y0, y1⟩ := fE hy.out (k := k) (by rw [hm.out]; exact hlt)
    have HN := aa (xC.out.set (k := k) (by rw [cZ, hn.out]; exact hkn) ((xs.getD k 0 + ys.getD k 0) % q))
    have Dl : (bQ q xs ys k).set k ((xs.getD k 0 + ys.getD k 0) % q) = bQ q xs ys (k + 1) := rfl
    rw [Dl] at HN
    clear Dl
    obtain ⟨x, hxv⟩ : ∃ x, xs.getD k 0 = x := ⟨_, rfl⟩
    obtain ⟨y, hyv⟩ : ∃ y, ys.getD k 0 = y := ⟨_, rfl⟩
    rw [hxv] at hi1 HN x0 x1
    rw [hyv] at hi0 HN y0 y1
    obtain ⟨R, hR⟩ : ∃ R, (x + y) % q = R := ⟨_, rfl⟩
    rw [hR] at HN
    have R0 : 0 ≤ R := by rw [← hR]; exact Int.emod_nonneg _ (by omega)
    have R1 : R < q := by rw [← hR]; exact Int.emod_lt_of_pos _ (by omega)
    have e1 : IntKind.i64.wrap (x + y) = x + y := IntWalk.i64_in _ (by omega)
    have e2 : wrap64 (x + y) = x + y := IntWalk.wrap64_in _ (by omega)
    have Ai : (x + y).tmod q = R := ek (by omega) hR
    have hwt : IntKind.i64.wrap R = R := IntWalk.i64_in _ (by omega)
    have BA : wrap64 R = R := IntWalk.wrap64_in _ (by omega)
    have HB2 : Hid (Below w.heap.size w (wr.setCell ⟨g, k, none⟩ (.int .i64 R))) := aa (ax.out.setCell hgw _)
    clear hxv hyv hR
    go_wp2
    go_roundw
    case rel => exact ⟨k + 1, by omega, by go_num, HN, HB2⟩
    case measure => simp [intOf]; omega
   ·
    obtain rfl : k = m := by omega
    have BZ : Hid (Sl wr (some ⟨g, 0, none⟩) (bQ q xs ys k)) := aa xC.out.sl
    go_wp2_with fail
    refine (gM q (some ⟨g, 0, none⟩) (bQ q xs ys k) n cap M yl hcap hM hbig CK _ BZ).mono ?_
    rintro e w3 ⟨A3, c3, L3, rfl, hs3, hp3, hv3, hb3⟩
    have HR := aa hs3
    have HP := aa hp3
    have HV := aa hv3
    have HB3 := aa (af ax.out hb3)
    clear hs3 hp3 hv3 hb3
    go_wp2
    go_ret
    exact ⟨A3, c3, L3, rfl, HR.out, HP.out, fun X => (HV.out X).trans (uf.out X), HB3.out⟩
theorem vE (q : Int) (A : Option Addr) (xs : List Int) (n c : Nat) (B : Option Addr) (ys : List Int) (m d M : Nat) (h1 : 1 ≤ q) (h2 : q < 2305843009213693952) (hn : Hid (xs.length = n)) (hm : Hid (ys.length = m)) (hM : n ≤ M) (hM2 : m ≤ M) (hbig : M < 1000000) (hx : Hid (xs.all (aQ q) = true)) (hy : Hid (ys.all (aQ q) = true)) (w : World) (hS : Hid (Sl w A xs)) (hT : Hid (Sl w B ys)) :
  Calls Tryz.prog 99 #[.int .i64 q, .slice A n c, .slice B m d] w (jL q M (fun X => pv xs X + pv ys X) w) := by
 by_cases h : m ≤ n
 · exact Bn q A xs n c B ys m d M h1 h2 hn hm hM h (by omega) hx hy w hS hT
 · exact (Bl q B ys m d A xs n c M h1 h2 hm hn hM2 (by omega) (by omega) hy hx w hT hS).mono fun e w' h => h.to (fun X => Cg.of_eq (Int.add_comm _ _)) (Below.refl _ _)
def ow (q x : Int) (ys : List Int) (i : Nat) (L : List Int) : Nat → List Int
 | 0 => L
 | k + 1 => (ow q x ys i L k).set (i + k) (((ow q x ys i L k).getD (i + k) 0 + x * ys.getD k 0 % q) % q)
def lT (q : Int) (xs ys : List Int) (N : Nat) : Nat → List Int
 | 0 => List.replicate N 0
 | i + 1 => ow q (xs.getD i 0) ys i (lT q xs ys N i) ys.length
theorem jW (q x : Int) (ys : List Int) (i : Nat) (L : List Int) : ∀ k, (ow q x ys i L k).length = L.length
 | 0 => rfl
 | k + 1 => by rw [ow, List.length_set, jW q x ys i L k]
theorem jX (q : Int) (xs ys : List Int) (N : Nat) : ∀ i, (lT q xs ys N i).length = N
 | 0 => List.length_replicate
 | i + 1 => by rw [lT, jW, jX q xs ys N i]
theorem nJ {q x : Int} (hq : 1 ≤ q) (ys : List Int) (i : Nat) {L : List Int} (h : L.all (aQ q) = true) : ∀ k, (ow q x ys i L k).all (aQ q) = true
 | 0 => h
 | k + 1 => by rw [ow]; exact r_ (nJ hq ys i h k) (rz hq)
theorem nK {q : Int} (hq : 1 ≤ q) (xs ys : List Int) (N : Nat) : ∀ i, (lT q xs ys N i).all (aQ q) = true
 | 0 => tY hq N
 | i + 1 => nJ hq ys i (nK hq xs ys N i) _
theorem vF {q x : Int} (ys : List Int) (i : Nat) (L : List Int) (X : Int) : ∀ k, i + k ≤ L.length → k ≤ ys.length → Cg q (pv (ow q x ys i L k) X) (pv L X + x * X ^ i * pv (ys.take k) X)
 | 0, _, _ => Cg.of_eq (by rw [ow, List.take_zero, pv]; omega)
 | k + 1, h1, h2 => by
  rw [ow, iM X ys k (by omega)]
  refine (vC (by rw [jW]; omega) rfl).trans ?_
  refine ((vF ys i L X k (by omega) (by omega)).add ((Cg.mod _ _).mul (Cg.refl _ _))).trans (Cg.of_eq ?_)
  rw [Int.pow_add]
  grind
theorem vG {q : Int} (xs ys : List Int) (N : Nat) (X : Int) (hN : xs.length + ys.length ≤ N + 1) (hy : 1 ≤ ys.length) : ∀ i, i ≤ xs.length → Cg q (pv (lT q xs ys N i) X) (pv (xs.take i) X * pv ys X)
 | 0, _ => Cg.of_eq (by rw [lT, oW, List.take_zero, pv, Int.zero_mul])
 | i + 1, h => by
  rw [lT, iM X xs i (by omega)]
  refine (vF ys i _ X ys.length (by rw [jX]; omega) (Nat.le_refl _)).trans ?_
  rw [List.take_of_length_le (Nat.le_refl _)]
  refine ((vG xs ys N X hN hy i (by omega)).add (Cg.refl _ _)).trans (Cg.of_eq ?_)
  grind
theorem yN (w : World) (T : TypeId) (n : Nat) : Rl (w.alloc (.cells (madeCells #[.int .i64 0] n) T)) w.heap.size (List.replicate n 0) := by
 obtain ⟨h1, h2⟩ := sV w T n
 refine ⟨fun j hj => ?_, h2⟩
 rw [List.length_replicate] at hj
 rw [h1 j hj, List.getD_eq_getElem?_getD, List.getElem?_replicate, if_pos hj]; rfl
theorem mJ (q : Int) (A : Option Addr) (xs : List Int) (n c : Nat) (B : Option Addr) (ys : List Int) (m d M : Nat) (h1 : 1 ≤ q) (h2 : q < 2305843009213693952) (hn : Hid (xs.length = n)) (hm : Hid (ys.length = m)) (hM : n + m ≤ M + 1) (hbig : M < 100000) (hx : Hid (xs.all (aQ q) = true)) (hy : Hid (ys.all (aQ q) = true)) (w : World) (hS : Hid (Sl w A xs)) (hT : Hid (Sl w B ys)) :
  Calls Tryz.prog 100 #[.int .i64 q, .slice A n c, .slice B m d] w (jL q M (fun X => pv xs X * pv ys X) w) := by
 by_cases hn0 : n = 0
 ·
  subst hn0
  have e0 : xs = [] := List.eq_nil_of_length_eq_zero hn.out
  subst e0
  go_in
  go_wp2
  go_ret
  exact ⟨none, 0, [], rfl, sl0 _ _, Pl.nil q M, fun X => Cg.of_eq (by show (0 : Int) = 0 * _; rw [Int.zero_mul]), Below.refl _ _⟩
 by_cases hm0 : m = 0
 ·
  subst hm0
  have e0 : ys = [] := List.eq_nil_of_length_eq_zero hm.out
  subst e0
  have dn : ((n : Int) == 0) = false := by simp; omega
  go_in
  go_wp2
  go_ret
  exact ⟨none, 0, [], rfl, sl0 _ _, Pl.nil q M, fun X => Cg.of_eq (by show (0 : Int) = _ * 0; rw [Int.mul_zero]), Below.refl _ _⟩
 have dn : ((n : Int) == 0) = false := by simp; omega
 have dm : ((m : Int) == 0) = false := by simp; omega
 obtain ⟨N, hN⟩ : ∃ N, n + m - 1 = N := ⟨_, rfl⟩
 have eN : (n : Int) + (m : Int) - 1 = (N : Int) := by omega
 have hmm := fun W => run_make_row' (P := Tryz.prog) 24 3 (.int .i64 0) 8 Tryz.underlying24 fJ rfl .i64 .i64 N (by omega) (by omega) W
 have DN := aa (yN w 3 N)
 have uf : Hid (∀ X, Cg q (pv (lT q xs ys N n) X) (pv xs X * pv ys X)) := aa (fun X => by
  have h9 := vG (q := q) xs ys N X (by rw [hn.out, hm.out]; omega) (by rw [hm.out]; omega) n (by rw [hn.out]; exact Nat.le_refl _)
  rwa [List.take_of_length_le (by rw [hn.out]; exact Nat.le_refl _)] at h9)
 have CK : Hid ((lT q xs ys N n).all (aQ q) = true) := aa (nK h1 xs ys N n)
 have yl : Hid ((lT q xs ys N n).length = N) := aa (jX q xs ys N n)
 have hQn : ¬ (q = 0) := by omega
 have Am : ((q : Int) == 0) = false := by simp; omega
 go_in
 go_wp2
 obtain ⟨W, hW⟩ : ∃ W, w.alloc (.cells (madeCells #[.int .i64 0] N) 3) = W := ⟨_, rfl⟩
 have xO : Hid (Below w.heap.size w W) := aa (by rw [← hW]; exact ag _ _)
 rw [hW] at DN ⊢
 clear hW hmm
 go_loopw [29] (fun i wr => ∃ k : Nat, k ≤ n ∧ i = .int .i64 k ∧ Hid (Rl wr w.heap.size (lT q xs ys N k)) ∧ Hid (Below w.heap.size w wr)) (fun i _ => n - (intOf i).toNat)
 case atStart => exact ⟨0, by omega, rfl, DN, xO⟩
 case round =>
  obtain ⟨i, hi, rfl, H_, GA⟩ := hrel
  by_cases hin : i < n
  ·
   have Jq := aa (hS.out.below GA.out)
   obtain ⟨b, o, hA, hi0⟩ := Jq.out i (by rw [hn.out]; exact hin)
   subst hA
   obtain ⟨x0, x1⟩ := fE hx.out (k := i) (by rw [hn.out]; exact hin)
   obtain ⟨x, hxv⟩ : ∃ x, xs.getD i 0 = x := ⟨_, rfl⟩
   have Jz : Hid (lT q xs ys N (i + 1) = ow q x ys i (lT q xs ys N i) m) := aa (by rw [lT, hxv, hm.out])
   rw [hxv] at hi0 x0 x1
   clear hxv DN xO
   go_wp2
   go_loopw [36] (fun j wr => ∃ k : Nat, k ≤ m ∧ j = .int .i64 k ∧ Hid (Rl wr w.heap.size (ow q x ys i (lT q xs ys N i) k)) ∧ Hid (Below w.heap.size w wr)) (fun j _ => m - (intOf j).toNat)
   case atStart => exact ⟨0, by omega, rfl, H_, GA⟩
   case round =>
    obtain ⟨k, hk, rfl, DL, Gz⟩ := hrel
    by_cases hkm : k < m
    ·
     have Jl := aa (hT.out.below Gz.out)
     obtain ⟨b2, o2, hB, hk0⟩ := Jl.out k (by rw [hm.out]; exact hkm)
     subst hB
     obtain ⟨y0, y1⟩ := fE hy.out (k := k) (by rw [hm.out]; exact hkm)
     obtain ⟨J, hJ⟩ : ∃ J, i + k = J := ⟨_, rfl⟩
     have eJ : (i : Int) + (k : Int) = (J : Int) := by omega
     have FE : J < N := by omega
     have Gm : Hid ((ow q x ys i (lT q xs ys N i) k).length = N) := aa (by rw [jW, jX])
     have hz0 := DL.out.1 J (by rw [Gm.out]; exact FE)
     have IE := DL.out.2 J
     obtain ⟨z0, z1⟩ := fE (nJ (x := x) h1 ys i (nK h1 xs ys N i) k) (k := J) (by rw [Gm.out]; exact FE)
     obtain ⟨y, hyv⟩ : ∃ y, ys.getD k 0 = y := ⟨_, rfl⟩
     obtain ⟨z, hzv⟩ : ∃ z, (ow q x ys i (lT q xs ys N i) k).getD J 0 = z := ⟨_, rfl⟩
     have xI : Hid (ow q x ys i (lT q xs ys N i) (k + 1) = (ow q x ys i (lT q xs ys N i) k).set J ((z + x * y % q) % q)) := aa (by rw [ow, hJ, hyv, hzv])
     rw [hyv] at hk0 y0 y1
     rw [hzv] at hz0 z0 z1
     obtain ⟨m1, hm1⟩ : ∃ m1, x * y % q = m1 := ⟨_, rfl⟩
     have JL := aa hm1
     have a0 : 0 ≤ m1 := by rw [← hm1]; exact Int.emod_nonneg _ (by omega)
     have a1 : m1 < q := by rw [← hm1]; exact Int.emod_lt_of_pos _ (by omega)
     rw [hm1] at xI
     obtain ⟨R, hR⟩ : ∃ R, (z + m1) % q = R := ⟨_, rfl⟩
     rw [hR] at xI
     have e1 : IntKind.i64.wrap (z + m1) = z + m1 := IntWalk.i64_in _ (by omega)
     have e2 : wrap64 (z + m1) = z + m1 := IntWalk.wrap64_in _ (by omega)
     have Ai : (z + m1).tmod q = R := ek (by omega) hR
     have R0 : 0 ≤ R := by rw [← hR]; exact Int.emod_nonneg _ (by omega)
     have R1 : R < q := by rw [← hR]; exact Int.emod_lt_of_pos _ (by omega)
     have hwt : IntKind.i64.wrap R = R := IntWalk.i64_in _ (by omega)
     have BA : wrap64 R = R := IntWalk.wrap64_in _ (by omega)
     have e3 : IntKind.i64.wrap (J : Int) = (J : Int) := IntWalk.i64_in _ (by omega)
     have e4 : wrap64 (J : Int) = (J : Int) := IntWalk.wrap64_in _ (by omega)
     clear hyv hzv hm1 hR hJ
     go_upto_region 10 with (fail)
     have hO : Hid (∀ u, Hid (Below wr.heap.size wr u) → u.cell? ⟨w.heap.size, J, none⟩ = some (.int .i64 z)) := aa (fun u h => (h.out.cell (World.block_lt_of_cell? _ _ hz0)).trans hz0)
     refine mG (fun u => Below wr.heap.size wr u) [18] (aa (Below.refl _ _).drew) (fun hHeld => ?_)
     refine aK 0 1 2 3 ?_
     refine aK 4 5 6 7 ?_
     refine aK 8 9 10 11 ?_
     refine aM 12 ?_
     refine aM 15 ?_
     have FB := hHeld
     refine eX 13 fun K hK => ?_
     go_simp
     refine (dN q x y m1 JL h2 x0 x1 y0 y1 _).mono ?_
     rintro e u1 ⟨rfl, hq1⟩
     have lN := aa (af FB.out hq1)
     refine hK.out _ _ lN (fun hHeld => ?_)
     clear hK K
     try simp only [qq]
     refine aM 14 ?_
     refine aM 16 ?_
     refine aM 17 ?_
     refine GD 18 fun K hK => ?_
     have ER := (lN.out.cell (World.block_lt_of_cell? _ _ hz0)).trans hz0
     have FN := (lN.out.frozen (World.block_lt_of_cell? _ _ hz0)).trans IE
     have JY : Hid (Below w.heap.size w (u1.setCell ⟨w.heap.size, J, none⟩ (.int .i64 R))) := aa ((af Gz.out lN.out).setCell (Nat.le_refl _) _)
     have Jw : Hid (Rl (u1.setCell ⟨w.heap.size, J, none⟩ (.int .i64 R)) w.heap.size (ow q x ys i (lT q xs ys N i) (k + 1))) := aa (by
      rw [xI.out]
      exact (DL.out.below lN.out (World.block_lt_of_cell? _ _ hz0)).set (by rw [Gm.out]; exact FE) R)
     go_simp
     refine hK.out _ _ ?_
     clear hK K
     try simp only [qq]
     refine jD ?_
     clear ER FN
     go_wp2
     go_roundw
     case rel => exact ⟨k + 1, by omega, by go_num, Jw, JY⟩
     case measure => simp [intOf]; omega
    ·
     obtain rfl : k = m := by omega
     rw [← Jz.out] at DL
     go_wp2
     go_roundw
     case rel => exact ⟨i + 1, by omega, by go_num, DL, Gz⟩
     case measure => simp [intOf]; omega
  ·
   obtain rfl : i = n := by omega
   have BZ : Hid (Sl wr (some ⟨w.heap.size, 0, none⟩) (lT q xs ys N i)) := aa H_.out.sl
   go_wp2_with fail
   refine (gM q (some ⟨w.heap.size, 0, none⟩) (lT q xs ys N i) N N M yl (Nat.le_refl _) (by omega) (by omega) CK _ BZ).mono ?_
   rintro e w3 ⟨A3, c3, L3, rfl, hs3, hp3, hv3, hb3⟩
   have HR := aa hs3
   have HP := aa hp3
   have HV := aa hv3
   have HB3 := aa (af GA.out hb3)
   clear hs3 hp3 hv3 hb3
   go_wp2
   go_ret
   exact ⟨A3, c3, L3, rfl, HR.out, HP.out, fun X => (HV.out X).trans (uf.out X), HB3.out⟩
def Dy (q : Int) (xs ys : List Int) (n : Nat) (w : World) (e : Ending) (w' : World) : Prop := ∃ A c L, e = .returned (.tuple #[.slice A L.length c, .int .i64 0]) ∧ Sl w' A L ∧ Pl q n L ∧ qd q xs ys n L ∧ Below w.heap.size w w'
theorem vD (k X : Int) : pv [k] X = k := by show k + X * 0 = k; omega
theorem Bj (a X : Int) : pv [a, 1] X = a + X := by show a + X * (1 + X * 0) = a + X; simp
theorem yV (q : Int) (A : Option Addr) (xs : List Int) (n c : Nat) (B : Option Addr) (ys : List Int) (d : Nat) (h2 : q < 2305843009213693952) (hp : Hid (di q = true)) (hn : Hid (xs.length = n)) (hm : Hid (ys.length = n)) (hbig : n ≤ 100) (hcap : n ≤ c)
  (hx : Hid (xs.all (aQ q) = true)) (hy : Hid (ys.all (aQ q) = true)) (hnt : Hid (aP xs)) (hu : Hid (∀ i j, i < n → j < n → i ≠ j → Un q (dF xs i - dF xs j))) (w : World) (hv : Hid (Vars w)) (hS : Hid (Sl w A xs)) (hT : Hid (Sl w B ys)) :
  Calls Tryz.prog 39 #[.int .i64 q, .slice A n c, .slice B n d] w (Dy q xs ys n w) := by
 have q2 := fI hp.out
 have q1 : 1 ≤ q := by omega
 have dn : ((n : Int) != (n : Int)) = false := by simp
 go_in
 go_wp2_with fail
 refine (mM q A xs n c B ys n d h2 hp hn hbig hcap hm hbig hx hy hnt _ hv hS hT).mono ?_
 rintro e W ⟨rfl, hb0⟩
 have xO := aa hb0
 clear hb0
 go_wp2
 have hb1 := ag W (.cells #[.int .i64 1] 3)
 have Jv : Hid (Sl (W.alloc (.cells #[.int .i64 1] 3)) (some ⟨W.heap.size, 0, none⟩) [1]) := aa (cu (lG W 3 1))
 have yh : Hid (Pl q (0 + 1) [1]) := aa ⟨jV (by omega) (by omega), by simp, .inr (by simp)⟩
 have DZ : Hid (∀ X, Cg q (pv [1] X) (gp (dF xs) X 0)) := aa (fun X => Cg.of_eq (by rw [vD]; rfl))
 have HB1 : Hid (Below w.heap.size w (W.alloc (.cells #[.int .i64 1] 3))) := aa (af xO.out hb1)
 clear hb1
 go_loopw [9, 10, 29] (fun vf vg i wr => ∃ (k : Nat) (Af : Option Addr) (cf : Nat) (F : List Int) (Ag : Option Addr) (cg : Nat) (G : List Int), k ≤ n ∧ i = .int .i64 k ∧ vf = .slice Af F.length cf ∧ vg = .slice Ag G.length cg ∧ Hid (Sl wr Af F) ∧ Hid (Sl wr Ag G) ∧ Hid (Pl q k F) ∧ Hid (Pl q (k + 1) G) ∧ Hid (qd q xs ys k F) ∧ Hid (∀ X, Cg q (pv G X) (gp (dF xs) X k)) ∧ Hid (Below w.heap.size w wr)) (fun _ _ i _ => n - (intOf i).toNat)
 case atStart => exact ⟨0, none, 0, [], some ⟨W.heap.size, 0, none⟩, 1, [1], by omega, rfl, rfl, rfl, aa (sl0 _ _), Jv, aa (Pl.nil q 0), yh, aa (tF q xs ys), DZ, HB1⟩
 case round =>
  obtain ⟨k, Af, cf, F, Ag, cg, G, hk, rfl, rfl, rfl, F9, F6, EB, EA, Ib, Gv, ax⟩ := hrel
  obtain ⟨lf, hlf⟩ : ∃ l, F.length = l := ⟨_, rfl⟩
  obtain ⟨lg, Ej⟩ : ∃ l, G.length = l := ⟨_, rfl⟩
  have EF := aa hlf
  have EE := aa Ej
  have lf1 : lf ≤ k := by rw [← hlf]; exact EB.out.len
  have Ko : lg ≤ k + 1 := by rw [← Ej]; exact EA.out.len
  rw [hlf, Ej]
  clear hlf Ej
  by_cases hlt : k < n
  ·
   have Az := aa (hS.out.below ax.out)
   have DC := aa (hT.out.below ax.out)
   obtain ⟨b, o, hA, hi0⟩ := Az.out k (by rw [hn.out]; exact hlt)
   subst hA
   obtain ⟨b2, o2, hB, hk0⟩ := DC.out k (by rw [hm.out]; exact hlt)
   subst hB
   obtain ⟨x0, x1⟩ := fE hx.out (k := k) (by rw [hn.out]; exact hlt)
   obtain ⟨y0, y1⟩ := fE hy.out (k := k) (by rw [hm.out]; exact hlt)
   have Jk : Hid (Un q (pv G (dF xs k))) := aa ((Ao k (fun j hj => hu.out k j hlt (by omega) (by omega))).cg (Gv.out _).symm)
   obtain ⟨x, hxv⟩ : ∃ x, xs.getD k 0 = x := ⟨_, rfl⟩
   obtain ⟨y, hyv⟩ : ∃ y, ys.getD k 0 = y := ⟨_, rfl⟩
   have HX : Hid (dF xs k = x) := aa hxv
   have HY : Hid (dF ys k = y) := aa hyv
   rw [hxv] at hi0 x0 x1
   rw [hyv] at hk0 y0 y1
   clear hxv hyv
   obtain ⟨E1, hE1⟩ : ∃ z, rU q x F lf = z := ⟨_, rfl⟩
   obtain ⟨a0, a1⟩ := kT q1 x F lf
   obtain ⟨E2, hE2⟩ : ∃ z, rU q x G lg = z := ⟨_, rfl⟩
   obtain ⟨c0, c1⟩ := kT q1 x G lg
   rw [hE1] at a0 a1
   rw [hE2] at c0 c1
   have Ik := aa hE1
   have HE2 := aa hE2
   obtain ⟨S1, hS1⟩ : ∃ z, (y - E1 + q) % q = z := ⟨_, rfl⟩
   have s0 : 0 ≤ S1 := by rw [← hS1]; exact Int.emod_nonneg _ (by omega)
   have s1 : S1 < q := by rw [← hS1]; exact Int.emod_lt_of_pos _ (by omega)
   have DK := aa hS1
   obtain ⟨V, hV⟩ : ∃ z, dH E2 q = z := ⟨_, rfl⟩
   have HV := aa hV
   obtain ⟨v0, v1⟩ := vW q2 hV
   obtain ⟨KK, Ep⟩ : ∃ z, S1 * V % q = z := ⟨_, rfl⟩
   have k0 : 0 ≤ KK := by rw [← Ep]; exact Int.emod_nonneg _ (by omega)
   have k1 : KK < q := by rw [← Ep]; exact Int.emod_lt_of_pos _ (by omega)
   have HKK := aa Ep
   obtain ⟨N1, hN1⟩ : ∃ z, (0 - x + q) % q = z := ⟨_, rfl⟩
   have n0 : 0 ≤ N1 := by rw [← hN1]; exact Int.emod_nonneg _ (by omega)
   have n1 : N1 < q := by rw [← hN1]; exact Int.emod_lt_of_pos _ (by omega)
   have xI := aa hN1
   clear hE1 hE2 hS1 hV Ep hN1
   go_upto_region 11 with (fail)
   have hO : Hid (∀ u, Hid (Below wr.heap.size wr u) → u.cell? ⟨b2, o2 + k, none⟩ = some (.int .i64 y)) := aa (fun u h => (h.out.cell (World.block_lt_of_cell? _ _ hk0)).trans hk0)
   refine mG (fun u => Below wr.heap.size wr u) [] (aa (Below.refl _ _).drew) (fun hHeld => ?_)
   refine aK 0 1 2 3 ?_
   refine aK 4 5 6 7 ?_
   refine aK 8 11 12 13 ?_
   refine aM 14 ?_
   have Co := hHeld
   refine eX 9 fun K hK => ?_
   go_simp
   refine (jm q Af F lf cf x q1 h2 (aa EB.out.sc) EF (by omega) x0 x1 _ (aa (F9.out.below Co.out))).mono ?_
   rintro e u1 ⟨rfl, hq1⟩
   rw [Ik.out]
   have Ef := aa (af Co.out hq1)
   refine hK.out _ _ Ef (fun hHeld => ?_)
   clear hK K hq1
   try simp only [qq]
   refine eX 10 fun K hK => ?_
   go_simp
   refine (iN q y E1 S1 DK q1 h2 y0 y1 a0 a1 _).mono ?_
   rintro e u2 ⟨rfl, hq1⟩
   have lN := aa (af Ef.out hq1)
   refine hK.out _ _ lN (fun hHeld => ?_)
   clear hK K hq1
   try simp only [qq]
   refine eX 15 fun K hK => ?_
   go_simp
   refine (jm q Ag G lg cg x q1 h2 (aa EA.out.sc) EE (by omega) x0 x1 _ (aa (F6.out.below lN.out))).mono ?_
   rintro e u3 ⟨rfl, hq1⟩
   rw [HE2.out]
   have Iu := aa (af lN.out hq1)
   refine hK.out _ _ Iu (fun hHeld => ?_)
   clear hK K hq1
   try simp only [qq]
   refine eX 16 fun K hK => ?_
   go_simp
   refine (o6 q E2 V HV q2 h2 c0 c1 _).mono ?_
   rintro e u4 ⟨rfl, _, _, hq1⟩
   have Ir := aa (af Iu.out hq1)
   refine hK.out _ _ Ir (fun hHeld => ?_)
   clear hK K hq1
   try simp only [qq]
   refine eX 17 fun K hK => ?_
   go_simp
   refine (dN q S1 V KK HKK h2 s0 s1 v0 v1 _).mono ?_
   rintro e u5 ⟨rfl, hq1⟩
   have Iq := aa (af Ir.out hq1)
   refine hK.out _ _ Iq (fun hHeld => ?_)
   clear hK K hq1
   try simp only [qq]
   refine aM 18 ?_
   refine jD ?_
   clear hO
   go_wp2_with fail
   have Ip := aa (af Iq.out (ag u5 (.cells #[.int .i64 KK] 3)))
   have H9 := aa (cu (lG u5 3 KK))
   have xB := aa (F6.out.below Ip.out)
   refine (mJ q (some ⟨u5.heap.size, 0, none⟩) [KK] 1 1 Ag G lg cg (k + 1) q1 h2 (aa rfl) EE (by omega) (by omega) (aa (jV k0 k1)) (aa EA.out.sc) _ H9 xB).mono ?_
   rintro e u6 ⟨A6, c6, P6, rfl, hs6, Fa, hv6, hb6⟩
   have Jt := aa hs6
   have JD := aa Fa
   have Jj := aa hv6
   have Io := aa (af Ip.out hb6)
   obtain ⟨l6, El⟩ : ∃ l, P6.length = l := ⟨_, rfl⟩
   have IA : l6 ≤ k + 1 := by rw [← El]; exact Fa.len
   have JO := aa El
   rw [El]
   clear hs6 Fa hv6 hb6 El H9 xB
   have DJ := aa (F9.out.below Io.out)
   go_wp2_with fail
   refine (vE q Af F lf cf A6 P6 l6 c6 (k + 1) q1 h2 EF JO (by omega) IA (by omega) (aa EB.out.sc) (aa JD.out.sc) _ DJ Jt).mono ?_
   rintro e u7 ⟨A7, c7, F7, rfl, hs7, GQ, hv7, G7⟩
   have Js := aa hs7
   have JC := aa GQ
   have Ji := aa hv7
   have J7 := aa (af Io.out G7)
   clear hs7 GQ hv7 G7 DJ
   obtain ⟨l7, Fq⟩ : ∃ l, F7.length = l := ⟨_, rfl⟩
   have JN := aa Fq
   rw [Fq]
   clear Fq
   go_wp2_with fail
   refine (iN q 0 x N1 xI q1 h2 (by omega) (by omega) x0 x1 _).mono ?_
   rintro e u8 ⟨rfl, Em⟩
   have J6 := aa (af J7.out Em)
   have Gb := aa (Js.out.below Em)
   clear Em
   go_wp2_with fail
   have hbx := ag u8 (.cells #[.int .i64 N1, .int .i64 1] 3)
   have Ee := aa (af J6.out hbx)
   have H8 := aa (cu (xe u8 3 N1 1))
   have Ga := aa (Gb.out.below hbx)
   have xB := aa (F6.out.below Ee.out)
   have Gi : Hid ([N1, 1].all (aQ q) = true) := aa (by simp [aQ]; omega)
   clear hbx
   refine (mJ q Ag G lg cg (some ⟨u8.heap.size, 0, none⟩) [N1, 1] 2 2 (k + 1 + 1) q1 h2 EE (aa rfl) (by omega) (by omega) (aa EA.out.sc) Gi _ xB H8).mono ?_
   rintro e u9 ⟨A9, c9, G9, rfl, wB, GN, qG, BF⟩
   have zU := aa wB
   have JB := aa GN
   have Dz := aa qG
   have J3 := aa (af (af ax.out Ee.out) BF)
   have F_ := aa (Ga.out.below BF)
   obtain ⟨l9, Fp⟩ : ∃ l, G9.length = l := ⟨_, rfl⟩
   have JM := aa Fp
   rw [Fp]
   clear wB GN qG BF Fp xB H8
   have Gh : Hid (qd q xs ys (k + 1) F7) := aa (by
    refine tH (k := KK) Ib.out Gv.out ?_ (fun X => (Ji.out X).trans ((Cg.refl _ _).add ((Jj.out X).trans (Cg.of_eq (by rw [vD])))))
    have e2 : Cg q E2 (pv G (dF xs k)) := by rw [HX.out, ← HE2.out, qL q1 x G lg EE.out]; exact Cg.mod _ _
    have e1 : Cg q E1 (pv F (dF xs k)) := by rw [HX.out, ← Ik.out, qL q1 x F lf EF.out]; exact Cg.mod _ _
    have e3 : Cg q (V * E2) 1 := by rw [← HV.out]; exact iT q2 (Jk.out.cg e2.symm)
    have e4 : Cg q S1 (dF ys k - pv F (dF xs k)) := by
     rw [← DK.out, HY.out]
     exact (Cg.mod _ _).trans ((((Cg.refl _ _).sub e1).add ⟨1, by omega⟩).trans (Cg.of_eq (Int.add_zero _)))
    rw [← HKK.out]
    refine ((Cg.mod _ _).mul e2.symm).trans ?_
    refine (Cg.of_eq (show S1 * V * E2 = S1 * (V * E2) from Int.mul_assoc _ _ _)).trans ?_
    exact (((Cg.refl _ _).mul e3).trans (Cg.of_eq (Int.mul_one _))).trans e4)
   have Gu : Hid (∀ X, Cg q (pv G9 X) (gp (dF xs) X (k + 1))) := aa (fun X => by
    refine (Dz.out X).trans ?_
    rw [gp]
    dsimp only
    rw [Bj]
    refine (Gv.out X).mul ?_
    have e5 : Cg q N1 (0 - x) := by rw [← xI.out]; exact (Cg.mod _ _).trans ⟨1, by omega⟩
    exact (e5.add (Cg.refl _ _)).trans (Cg.of_eq (by rw [HX.out]; omega)))
   go_wp2
   go_roundw
   case rel => exact ⟨k + 1, A7, c7, F7, A9, c9, G9, by omega, by go_num, by rw [JN.out], by rw [JM.out], F_, zU, JC, JB, Gh, Gu, J3⟩
   case measure => simp [intOf]; omega
  ·
   obtain rfl : k = n := by omega
   go_wp2
   go_ret2
   exact ⟨Af, cf, F, by rw [EF.out]; rfl, F9.out, EB.out, Ib.out, ax.out⟩
theorem y8 (c0 : Value) (p : Row → Bool) (A : Option Addr) (xs : List Row) (n c : Nat) (hn : Hid (xs.length = n)) (hbig : Hid (n < 1000000)) (w : World) (hs : Hid (Rw w A xs)) (hp : Hid (xw 155 #[c0] p w)) :
  Calls Tryz.prog 187 #[.slice A n c, .func (.func 155) #[] #[c0]] w (zR p xs w) := by
 have hn0 : n < 1000000 := hbig.out
 go_in
 go_wp2
 go_loopw [8] (fun i wr => ∃ k : Nat, k ≤ n ∧ i = .int .i64 k ∧ Hid (xs.any p = (xs.drop k).any p) ∧ Hid (Below w.heap.size w wr)) (fun i _ => n - (intOf i).toNat)
 case atStart => exact ⟨0, by omega, rfl, aa rfl, aa (Below.refl _ _)⟩
 case round =>
  obtain ⟨k, hk, rfl, HR, ax⟩ := hrel
  by_cases hlt : k < n
  ·
   have hkl : k < xs.length := by rw [hn.out]; exact hlt
   obtain ⟨⟨b, o, hA, hi⟩, hok⟩ := hs.out.below ax.out k hkl
   subst hA
   cases hpx : p (xs.getD k ic) with
   | false =>
    have HN : Hid (xs.any p = (xs.drop (k + 1)).any p) := aa (HR.out.trans (tX hkl hpx))
    obtain ⟨x, hx⟩ : ∃ x, xs.getD k ic = x := ⟨_, rfl⟩
    rw [hx] at hi hpx hok
    have HC := aa (hp.out x wr ax.out hok)
    have Ca := aa hpx
    obtain ⟨xp, xn, xc, xl⟩ := x
    dsimp only [Row.val] at hi
    clear hx hkl hpx HR hok
    go_wp2_with fail
    refine HC.out.mono ?_
    rintro e w2 ⟨rfl, hb0⟩
    rw [Ca.out]
    have HB2 := aa (af ax.out hb0)
    clear hb0
    go_wp2
    go_roundw
    case rel => exact ⟨k + 1, by omega, by go_num, HN, HB2⟩
    case measure => simp [intOf]; omega
   | true =>
    have HN : Hid (decide ((0 : Int) ≤ (k : Int)) = xs.any p) := aa (by rw [HR.out, xq hkl hpx]; simp)
    obtain ⟨x, hx⟩ : ∃ x, xs.getD k ic = x := ⟨_, rfl⟩
    rw [hx] at hi hpx hok
    have HC := aa (hp.out x wr ax.out hok)
    have Ca := aa hpx
    obtain ⟨xp, xn, xc, xl⟩ := x
    dsimp only [Row.val] at hi
    clear hx hkl hpx HR hok
    go_wp2_with fail
    refine HC.out.mono ?_
    rintro e w2 ⟨rfl, hb0⟩
    rw [Ca.out]
    have HB2 := aa (af ax.out hb0)
    clear hb0
    go_wp2
    go_ret
    exact ⟨k, rfl, HN.out, HB2.out⟩
  ·
   obtain rfl : k = n := by omega
   have HN : Hid (decide ((0 : Int) ≤ (-1 : Int)) = xs.any p) := aa (by rw [HR.out, ← hn.out]; simp)
   clear HR hlt
   go_wp2
   go_ret
   exact ⟨-1, rfl, HN.out, ax.out⟩
theorem BL (c0 : Value) (p : Row → Bool) (r : Bool) (A : Option Addr) (xs : List Row) (n c : Nat) (hr : Hid (xs.any p = r)) (hn : Hid (xs.length = n)) (hbig : Hid (n < 1000000)) (w : World) (hs : Hid (Rw w A xs)) (hp : Hid (xw 155 #[c0] p w)) :
  Calls Tryz.prog 154 #[.slice A n c, .func (.func 155) #[] #[c0]] w (Rt w (.bool r)) := by
 go_in
 go_wp2_with fail
 refine (y8 c0 p A xs n c hn hbig _ hs hp).mono ?_
 rintro e w1 ⟨i, rfl, hi, hb1⟩
 have hd : decide ((0 : Int) ≤ i) = r := hi.trans hr.out
 clear hi
 go_wp2
 go_ret
 exact ⟨by first | rfl | (rw [← hd]) | simp [hd], hb1⟩
def gZ (q : Int) (r : Row) : Bool := decide (1000 < r.n) || ((decide (0 < r.n) && (r.xs.getD (r.n - 1) 0 == 0)) || !(r.xs.all (aQ q)))
theorem yM (q : Int) (a : Nat) (W : World) (hx : Hid (W.cell? ⟨a, 0, none⟩ = some (.int .i64 q))) :
  xw 155 #[.pointer (some ⟨a, 0, none⟩)] (gZ q) W := fun r w1 hb hok => by
 show Calls Tryz.prog 155 #[.slice r.p r.n r.c, .pointer (some ⟨a, 0, none⟩)] w1 fun e w' => e = .returned (.bool (gZ q r)) ∧ Below w1.heap.size w1 w'
 have c0 := cell_below hx.out hb
 obtain ⟨A, n, c, xs⟩ := r
 have hn : Hid (xs.length = n) := aa hok.1
 have hS : Hid (Sl w1 A xs) := aa hok.2
 clear hok hb
 by_cases hbig : 1000 < n
 ·
  have e : gZ q ⟨A, n, c, xs⟩ = true := by simp [gZ, hbig]
  rw [e]
  have d0 : decide ((1000 : Int) < (n : Int)) = true := by simp; omega
  clear e
  go_in
  go_wp2
  go_ret
  exact ⟨rfl, Below.refl _ _⟩
 ·
  have d0 : decide ((1000 : Int) < (n : Int)) = false := by simp; omega
  have Im : Hid (n < 1000000) := aa (by omega)
  obtain ⟨t, ht⟩ : ∃ t, xs.all (aQ q) = t := ⟨_, rfl⟩
  have HT := aa ht
  by_cases h0 : n = 0
  ·
   subst h0
   have e : gZ q ⟨A, 0, c, xs⟩ = !t := by simp [gZ, ht]
   rw [e]
   have d1 : decide ((0 : Int) < ((0 : Nat) : Int)) = false := by simp
   clear e ht
   go_in
   go_wp2_with fail
   refine (bL q A xs 0 c t HT hn Im _ hS).mono ?_
   rintro e w2 ⟨rfl, hb2⟩
   go_wp2
   go_ret
   exact ⟨rfl, hb2⟩
  ·
   obtain ⟨j, rfl⟩ : ∃ j, n = j + 1 := ⟨n - 1, by omega⟩
   have d1 : decide ((0 : Int) < ((j + 1 : Nat) : Int)) = true := by simp <;> omega
   have d2 : decide ((0 : Int) < (j : Int) + 1) = true := by simp <;> omega
   have d3 : decide ((1000 : Int) < (j : Int) + 1) = false := by simp <;> omega
   have e1 : ((j + 1 : Nat) : Int) - 1 = (j : Int) := by omega
   have e2 : (j : Int) + 1 - 1 = (j : Int) := by omega
   obtain ⟨b, o, hA, hi0⟩ := hS.out j (by rw [hn.out]; omega)
   subst hA
   obtain ⟨v, hv⟩ : ∃ v, xs.getD j 0 = v := ⟨_, rfl⟩
   rw [hv] at hi0
   by_cases hv0 : v = 0
   ·
    have e : gZ q ⟨some ⟨b, o, none⟩, j + 1, c, xs⟩ = true := by simp only [gZ, Nat.add_sub_cancel, hv, hv0]; simp
    rw [e]
    have dz : ((v : Int) == 0) = true := by simpa using hv0
    clear e hv ht
    go_in
    go_wp2
    go_ret
    exact ⟨rfl, Below.refl _ _⟩
   ·
    have e : gZ q ⟨some ⟨b, o, none⟩, j + 1, c, xs⟩ = !t := by
     have : (v == 0) = false := by simpa using hv0
     have h9 : decide (1000 < j + 1) = false := by simp; omega
     simp only [gZ, Nat.add_sub_cancel, hv, this, ht, h9]; simp
    rw [e]
    have dz : ((v : Int) == 0) = false := by simpa using hv0
    clear e hv ht
    go_in
    go_wp2_with fail
    refine (bL q (some ⟨b, o, none⟩) xs (j + 1) c t HT hn Im _ hS).mono ?_
    rintro e w2 ⟨rfl, hb2⟩
    go_wp2
    go_ret
    exact ⟨rfl, hb2⟩
theorem zH {q : Int} {m n c : Nat} {A : Option Addr} {xs : List Int} (h : Pl q m xs) (hn : xs.length = n) (hm : m ≤ 1000) : gZ q ⟨A, n, c, xs⟩ = false := by
 have h1 := h.len
 have h9 : decide (1000 < n) = false := by simp; omega
 have h8 : (decide (0 < n) && (xs.getD (n - 1) 0 == 0)) = false := by
  rcases h.trim with e | e
  ·
   have : decide (0 < n) = false := by simp; omega
   rw [this]; rfl
  ·
   rw [hn] at e
   have : (xs.getD (n - 1) 0 == 0) = false := by simpa using e
   rw [this, Bool.and_false]
 simp only [gZ, h9, h8, h.sc]; rfl
theorem tu (q : Int) (r : Row) (b : Nat) (h2 : q < 2305843009213693952) (hp : Hid (di q = true)) (hbad : Hid (gZ q r = false)) (w : World) (hv : Hid (Vars w)) (hS : Hid (Rw w (some ⟨b, 0, none⟩) [r])) :
  Calls Tryz.prog 101 #[.int .i64 q, .slice (some ⟨b, 0, none⟩) 1 1] w (Rt w (.bool true)) := by
 have hb0 := ag w (.cells #[.int .i64 q] 3)
 have HX0 : Hid ((w.alloc (.cells #[.int .i64 q] 3)).cell? ⟨w.heap.size, 0, none⟩ = some (.int .i64 q)) := aa (ah (heap_alloc_new _ _) 0)
 obtain ⟨W, hW⟩ : ∃ W, w.alloc (.cells #[.int .i64 q] 3) = W := ⟨_, rfl⟩
 rw [hW] at hb0 HX0
 have HW := aa hW
 have HB0 := aa hb0
 have yc := aa (hv.out.below hb0)
 have Gc := aa (hS.out.below hb0)
 have HA : Hid ([r].any (gZ q) = false) := aa (by rw [List.any_cons, hbad.out]; rfl)
 clear hv hS hb0 hW
 go_in
 go_upto_region 1 with (fail)
 rw [HW.out]
 have x0 := HX0.out
 go_wp2_with fail
 refine (kM q h2 hp _ yc).mono ?_
 rintro e w2 ⟨rfl, hb2⟩
 have HB2 := aa (af HB0.out hb2)
 have Jc : Hid (w2.cell? ⟨w.heap.size, 0, none⟩ = some (.int .i64 q)) := aa (cell_below HX0.out hb2)
 have HS2 := aa (Gc.out.below hb2)
 have zT := aa (yM q w.heap.size w2 Jc)
 clear hb2 x0
 go_wp2_with fail
 refine (BL (.pointer (some ⟨w.heap.size, 0, none⟩)) (gZ q) false (some ⟨b, 0, none⟩) [r] 1 1 HA (aa rfl) (aa (by omega)) _ HS2 zT).mono ?_
 rintro e w3 ⟨rfl, hb3⟩
 have HB3 := af HB2.out hb3
 clear hb3
 go_wp2
 go_ret
 exact ⟨rfl, HB3⟩
theorem vH (q : Int) (A : Option Addr) (xs : List Int) (n c m : Nat) (x : Int) (h2 : q < 2305843009213693952) (hp : Hid (di q = true)) (hn : Hid (xs.length = n)) (hpl : Hid (Pl q m xs)) (hm : m ≤ 1000) (x0 : 0 ≤ x) (x1 : x < q) (w : World) (hv : Hid (Vars w)) (hS : Hid (Sl w A xs)) :
  Calls Tryz.prog 40 #[.int .i64 q, .slice A n c, .int .i64 x] w (Rt w (.tuple #[.int .i64 (pv xs x % q), .int .i64 0])) := by
 have q2 := fI hp.out
 have hb0 := ag w (.cells #[.slice A n c] 24)
 have ug : Hid ((w.alloc (.cells #[.slice A n c] 24)).cell? ⟨w.heap.size, 0, none⟩ = some (.slice A n c)) := aa (ah (heap_alloc_new _ _) 0)
 have DN : Hid (Rw (w.alloc (.cells #[.slice A n c] 24)) (some ⟨w.heap.size, 0, none⟩) [⟨A, n, c, xs⟩]) := aa (fun k hk => by
  obtain rfl : k = 0 := by simpa using hk
  exact ⟨⟨w.heap.size, 0, rfl, ug.out⟩, hn.out, hS.out.below hb0⟩)
 have yc := aa (hv.out.below hb0)
 have HB0 := aa hb0
 have J4 : Hid (gZ q ⟨A, n, c, xs⟩ = false) := aa (zH hpl.out hn.out hm)
 have HE : Hid (rU q x xs n = pv xs x % q) := aa (qL (by omega) x xs n hn.out)
 clear hb0
 go_in
 go_wp2_with fail
 refine (tu q ⟨A, n, c, xs⟩ w.heap.size h2 hp J4 _ yc DN).mono ?_
 rintro e w2 ⟨rfl, hb2⟩
 have HB2 := aa (af HB0.out hb2)
 clear hb2
 go_wp2_with fail
 have Jp := aa (cu (lG w2 3 x))
 have HB3 := aa (af HB2.out (ag w2 (.cells #[.int .i64 x] 3)))
 refine (bL q (some ⟨w2.heap.size, 0, none⟩) [x] 1 1 true (aa (jV x0 x1)) (aa rfl) (aa (by omega)) _ Jp).mono ?_
 rintro e w4 ⟨rfl, hb4⟩
 have EL := aa (af HB3.out hb4)
 have Ju := aa (hS.out.below EL.out)
 clear hb4
 go_wp2_with fail
 refine (jm q A xs n c x (by omega) h2 (aa hpl.out.sc) hn (by have := hpl.out.len; have := hn.out; omega) x0 x1 _ Ju).mono ?_
 rintro e w5 ⟨rfl, hb5⟩
 rw [HE.out]
 have J5 := af EL.out hb5
 clear hb5
 obtain ⟨V, hV⟩ : ∃ V, pv xs x % q = V := ⟨_, rfl⟩
 rw [hV]
 go_wp2
 go_ret2
 exact ⟨by rw [hV]; rfl, J5⟩
end Go.Proofs.YtchcllcbknfikaaGreatDoor
namespace Go.Proofs.YtchcllcbknfikaaGreatDoor
open Go.RowKit jK Go.Maps
theorem mh (D : List (Int × Int)) (p : Int × Int) (a : Int) : valOf (D ++ [p]) a = (match valOf D a with | some v => some v | none => if p.1 = a then some p.2 else none) := by
 induction D with
 | nil => rfl
 | cons q t ih =>
  rw [List.cons_append, valOf, valOf]
  by_cases h : q.1 = a
  · rw [if_pos h, if_pos h]
  · rw [if_neg h, if_neg h, ih]
theorem uo (w : World) : (zeroValue 3).run Tryz.prog w = .ok (.int .i64 0) w := by kernel_rfl
theorem pG {a b : Int} (h : (DataW.lit (.int .i64 a) : DataW Unit) = .lit (.int .i64 b)) : a = b := by
 injection h with h1
 injection h1
def sw (pt : List (Int × Int)) (wr : World) (B kk : Nat) : Prop := ∃ D : DataW Unit, wr.ownsMap Tryz.prog 3 (plainElem Tryz.prog 3) B kk D ∧ ∀ a : Int, has D (.int .i64 a) = (valOf pt a).isSome ∧ ∀ v, valOf pt a = some v → D.atKey (.int .i64 a) (.lit (.int .i64 0)) = .lit (.int .i64 v)
theorem vO (w : World) : sw [] (w.alloc (.map #[] 0)) w.heap.size 0 := ⟨.map [], World.ownsMap_made _ _ _ _, fun a => ⟨by simp [has, valOf], fun v h => by cases h⟩⟩
theorem yY {pt : List (Int × Int)} {w' : World} {B kk : Nat} {x v : Int} {D : DataW Unit} (ht : Tidy D) (hx : valOf pt x = none)
  (h1 : w'.ownsMap Tryz.prog 3 (plainElem Tryz.prog 3) B (kk + 1) (D.put (.int .i64 x) (.lit (.int .i64 v))))
  (hA : ∀ a : Int, has D (.int .i64 a) = (valOf pt a).isSome ∧ ∀ v, valOf pt a = some v → D.atKey (.int .i64 a) (.lit (.int .i64 0)) = .lit (.int .i64 v)) : sw (pt ++ [(x, v)]) w' B (kk + 1) := by
 refine ⟨_, h1, fun a => ?_⟩
 rw [mh]
 by_cases hax : a = x
 ·
  subst hax
  rw [hx]
  dsimp only
  rw [if_pos rfl]
  refine ⟨has_put_same ht.isMap (by simp [WideAt.IsKeyLit]) _, fun v' h => ?_⟩
  cases h
  exact atKey_put_same ht.isMap (by simp [WideAt.IsKeyLit]) _ _
 ·
  rw [has_put_other (iU hax), atKey_put_other (iU hax)]
  have e : (match valOf pt a with | some v => some v | none => if (x, v).1 = a then some (x, v).2 else none) = valOf pt a := by
   cases valOf pt a with
   | some _ => rfl
   | none => exact if_neg (fun e => hax e.symm)
  rw [e]
  exact hA a
theorem sw.blk {pt : List (Int × Int)} {w w' : World} {B kk : Nat} (h : sw pt w B kk) (hb : w'.heap[B]? = w.heap[B]?) : sw pt w' B kk := by
 obtain ⟨D, ⟨es, clock, h1, h2⟩, h3⟩ := h
 exact ⟨D, ⟨es, clock, hb.trans h1, h2⟩, h3⟩
theorem sw.obj {pt : List (Int × Int)} {w : World} {B kk : Nat} (h : sw pt w B kk) : ∃ o, w.heap[B]? = some o := by
 obtain ⟨D, ⟨es, clock, h1, h2⟩, h3⟩ := h
 exact ⟨_, h1⟩
theorem sw.lt {pt : List (Int × Int)} {w : World} {B kk : Nat} (h : sw pt w B kk) : B < w.heap.size := by
 obtain ⟨o, h1⟩ := h.obj
 exact gT h1
structure bN (w0 : World) (hb : Nat) (box : Obj) (mb : Nat) (mo : Obj) (vX : Value) (nX : Nat) (xs : List Int) (vY : Value) (nY : Nat) (ys : List Int) (u : World) : Prop where
 a : dM w0 hb box vX nX xs vY nY ys u
 c : dM w0 mb mo vX nX xs vY nY ys u
section
variable {w0 : World} {hb : Nat} {box : Obj} {mb : Nat} {mo : Obj} {vX vY : Value} {nX nY : Nat} {xs ys : List Int} {u u2 : World}
theorem bN.b (h : bN w0 hb box mb mo vX nX xs vY nY ys u) : Below w0.heap.size w0 u := h.a.b
theorem bN.x (h : bN w0 hb box mb mo vX nX xs vY nY ys u) : u.heap[hb]? = some box := h.a.x
theorem bN.ox (h : bN w0 hb box mb mo vX nX xs vY nY ys u) : u.ownsRow w0.heap.size 3 1 vX nX (xs.map (Value.int .i64)) := h.a.ox
theorem bN.oy (h : bN w0 hb box mb mo vX nX xs vY nY ys u) : u.ownsRow w0.heap.size 3 1 vY nY (ys.map (Value.int .i64)) := h.a.oy
theorem bN.nxy (h : bN w0 hb box mb mo vX nX xs vY nY ys u) : ∀ j, vX.ownBlock = some j → vY.ownBlock ≠ some j := h.a.nxy
theorem bN.below (h : bN w0 hb box mb mo vX nX xs vY nY ys u) (hq : Below u.heap.size u u2) : bN w0 hb box mb mo vX nX xs vY nY ys u2 := ⟨h.a.below hq, h.c.below hq⟩
theorem bN.appX (h : bN w0 hb box mb mo vX nX xs vY nY ys u) {a : Int} {g cap : Nat} (ho : u2.ownsRow w0.heap.size 3 1 (.slice (some ⟨g, 0, none⟩) (nX + 1) cap) (nX + 1) (xs.map (Value.int .i64) ++ [.int .i64 a])) (hg : u.grownBy u2 vX.ownBlock) (hgg : vX.ownBlock = some g ∨ g = u.heap.size) :
  bN w0 hb box mb mo (.slice (some ⟨g, 0, none⟩) (nX + 1) cap) (nX + 1) (xs ++ [a]) vY nY ys u2 := ⟨h.a.appX ho hg hgg, h.c.appX ho hg hgg⟩
theorem bN.appY (h : bN w0 hb box mb mo vX nX xs vY nY ys u) {a : Int} {g cap : Nat} (ho : u2.ownsRow w0.heap.size 3 1 (.slice (some ⟨g, 0, none⟩) (nY + 1) cap) (nY + 1) (ys.map (Value.int .i64) ++ [.int .i64 a])) (hg : u.grownBy u2 vY.ownBlock) (hgg : vY.ownBlock = some g ∨ g = u.heap.size) :
  bN w0 hb box mb mo vX nX xs (.slice (some ⟨g, 0, none⟩) (nY + 1) cap) (nY + 1) (ys ++ [a]) u2 := ⟨h.a.appY ho hg hgg, h.c.appY ho hg hgg⟩
theorem aC.newB (h : bN w0 hb box mb mo vX nX xs vY nY ys u) (a : Int) : aC (u.alloc (.cells #[.int .i64 a] 3)) u.heap.size a vX vY := aC.new h.a a
end
theorem oO (q t : Int) (xs ys : List Int) (m : Nat) : ∀ k, k ≤ m → nD q t xs (ys.take m) k = nD q t xs ys k
 | 0, _ => rfl
 | k + 1, h => by
  rw [nD, nD, oO q t xs ys m k (by omega), List.getD_eq_getElem?_getD, List.getElem?_take_of_lt (by omega), ← List.getD_eq_getElem?_getD]
theorem mX {Q : Int} {kn : Nat} {l : List (Int × Int)} (h : l.all (bG Q kn) = true) {p : Int × Int} (hp : p ∈ l) : dU kn p.1 = true ∧ aQ Q p.2 = true := by
 have h9 := List.all_eq_true.1 h p hp
 simpa [bG] using h9
theorem rD {Q : Int} {kn : Nat} {l : List (Int × Int)} (h : l.all (bG Q kn) = true) (k : Nat) (hk : k ≤ l.length) (j : Nat) (hj : j < (pts l k).length) : dU kn (gz (pts l k) j).1 = true ∧ aQ Q (gz (pts l k) j).2 = true := by
 refine mX h (nH k hk _ ?_)
 rw [gz, List.getD_eq_getElem?_getD, List.getElem?_eq_getElem hj]
 exact List.getElem_mem _
theorem jY {Q : Int} {m kn : Nat} {l : List (Int × Int)} (h : l.all (bG Q kn) = false) : jk Q m kn l = 0 ∧ jl Q m kn l = 2 := by
 rw [jk, jl, h]; exact ⟨rfl, rfl⟩
theorem mK {Q : Int} {m kn : Nat} {l : List (Int × Int)} (h : l.all (bG Q kn) = true) (h2 : bP l l.length = false) : jk Q m kn l = 0 ∧ jl Q m kn l = 0 := by
 rw [jk, jl, h, h2]; exact ⟨rfl, rfl⟩
theorem rF {Q : Int} {m kn : Nat} {l : List (Int × Int)} (h : l.all (bG Q kn) = true) (h2 : bP l l.length = true) (h3 : ¬ m < (pts l l.length).length) (h4 : lY Q (m - (pts l l.length).length) = none) : jk Q m kn l = 0 ∧ jl Q m kn l = 9 := by
 rw [jk, jl, if_pos h, if_pos h2, if_neg h3, if_pos h, if_pos h2, if_neg h3, h4]; exact ⟨rfl, rfl⟩
theorem rE {Q N : Int} {m kn : Nat} {l : List (Int × Int)} (h : l.all (bG Q kn) = true) (h2 : bP l l.length = true) (h3 : ¬ m < (pts l l.length).length) (h4 : lY Q (m - (pts l l.length).length) = some N) : jk Q m kn l = N ∧ jl Q m kn l = 0 := by
 rw [jk, jl, if_pos h, if_pos h2, if_neg h3, if_pos h, if_pos h2, if_neg h3, h4]; exact ⟨rfl, rfl⟩
theorem jZ {Q : Int} {m kn : Nat} {l : List (Int × Int)} (h : l.all (bG Q kn) = true) (h2 : bP l l.length = true) (h3 : m < (pts l l.length).length) (b : Bool) (h4 : gq Q (pts l l.length) m (pts l l.length).length = b) : jk Q m kn l = (if b = true then 1 else 0) ∧ jl Q m kn l = 0 := by
 rw [jk, jl, if_pos h, if_pos h2, if_pos h3, if_pos h, if_pos h2, if_pos h3, h4]; exact ⟨rfl, rfl⟩
theorem Bp (P Q G need : Int) (Cs : Option Addr) (cs : List Int) (cn cc : Nat) (Ks : Option Addr) (ks : List Int) (kn kc : Nat) (hcn : Hid (cs.length = cn)) (hkn : Hid (ks.length = kn)) (A : Option Addr) (l : List (Int × Int)) (n c : Nat) (hn : Hid (l.length = n)) (hnb : n ≤ 100) (hlr : Hid (∀ k, k < n → kF (l.getD k (0, 0)))) (hr : Hid (ou P Q G need cs ks = false)) (hQ : Q < 9223372036854775808) (w : World) (hv : Hid (Vars w)) (hC : Hid (Sl w Cs cs)) (hK : Hid (Sl w Ks ks)) (hA : Hid (Sh w A l)) :
  Calls Tryz.prog 11 #[gv P Q G, fA need Cs cn cc Ks kn kc, .slice A n c] w (Rt w (.tuple #[.int .i64 0, .int .i64 1])) := by
 obtain ⟨w0, HW, az, kC⟩ := st2 (aG P Q G) gy (fB need Cs cn cc Ks kn kc) lW w
 have kV := mkV az hv
 have dh := mkS az hC
 have dA := mkS az hK
 have kA := xV (fun u => Sh u A l) az hA (·.below)
 have ai := bI w0
 clear hv hC hK hA
 go_in
 go_upto_region 1 with (fail)
 rw [HW.out]
 have zc := kC.out _ ai
 go_wp2_with fail
 clear zc
 refine bH kC ai (dJ P Q G need Cs cs cn cc Ks ks kn kc hcn hkn false hr hQ _ (kV.out _ ai) (dh.out _ ai) (dA.out _ ai)) fun w1 aD zc => ?_
 go_wp2
 go_ret2
 exact ⟨rfl, gW az aD⟩
theorem Bo (P Q G : Int) (m : Nat) (Cs : Option Addr) (cs : List Int) (cn cc : Nat) (Ks : Option Addr) (ks : List Int) (kn kc : Nat) (hcn : Hid (cs.length = cn)) (hkn : Hid (ks.length = kn)) (A : Option Addr) (l : List (Int × Int)) (n c : Nat) (hn : Hid (l.length = n)) (hnb : n ≤ 100) (hlr : Hid (∀ k, k < n → kF (l.getD k (0, 0)))) (hr : Hid (ou P Q G (m : Int) cs ks = true)) (hQ : Q < 9223372036854775808) (w : World) (hv : Hid (Vars w)) (hC : Hid (Sl w Cs cs)) (hK : Hid (Sl w Ks ks)) (hA : Hid (Sh w A l)) :
  Calls Tryz.prog 11 #[gv P Q G, fA (m : Int) Cs cn cc Ks kn kc, .slice A n c] w (Rt w (.tuple #[.int .i64 (jk Q m kn l), .int .i64 (jl Q m kn l)])) := by
 obtain ⟨i0, hi, hz0, hz1, hz2⟩ := info_parts fJ
 obtain ⟨bf, n1, n2, n3, n4, n5, n6⟩ := bV hr.out hcn.out hkn.out
 obtain ⟨w0, HW, az, kC⟩ := st2 (aG P Q G) gy (fB (m : Int) Cs cn cc Ks kn kc) lW w
 have kV := mkV az hv
 have dh := mkS az hC
 have dA := mkS az hK
 have kA := xV (fun u => Sh u A l) az hA (·.below)
 have ai := bI w0
 clear hv hC hK hA
 go_in
 go_upto_region 1 with (fail)
 rw [HW.out]
 have zc := kC.out _ ai
 go_wp2_with fail
 clear zc
 refine bH kC ai (dJ P Q G (m : Int) Cs cs cn cc Ks ks kn kc hcn hkn true hr hQ _ (kV.out _ ai) (dh.out _ ai) (dA.out _ ai)) fun w1 aD zc => ?_
 go_wp2
 clear zc
 go_loopw [30] (fun i wr => ∃ k : Nat, k ≤ n ∧ i = .int .i64 k ∧ Hid (l.all (bG Q kn) = (l.drop k).all (bG Q kn)) ∧ Hid (Below w0.heap.size w0 wr)) (fun i _ => n - (intOf i).toNat)
 case atStart => exact ⟨0, by omega, rfl, aa rfl, aD⟩
 case round =>
  obtain ⟨k, hk, rfl, HR, ax⟩ := hrel
  by_cases hlt : k < n
  ·
   have hkl : k < l.length := by rw [hn.out]; exact hlt
   obtain ⟨b, o, hA, fZ, f_⟩ := (kA.out _ ax).out k hkl
   subst hA
   obtain ⟨px, hpx⟩ : ∃ x, l.getD k (0, 0) = x := ⟨_, rfl⟩
   obtain ⟨ix, v⟩ := px
   rw [hpx] at fZ f_
   dsimp only at fZ f_
   have aL := bI wr
   have zc := kC.out _ ax
   obtain ⟨w2, hw, lJ, tZ, AP, kS⟩ := Cy (h_ ix v) rY wr
   have ak := uk ax lJ
   have aJ := uk aL lJ
   have aT := bI w2
   clear lJ
   have sN := kC.out _ ak
   have je := kS.out _ aT
   cases hmb : dU kn ix with
   | false =>
    have HF : Hid (l.all (bG Q kn) = false) := aa (HR.out.trans (fo hkl (by rw [hpx]; simp [bG, hmb])))
    have zW := aa hmb
    clear hmb HR hpx
    go_wp2_with fail
    clear zc sN je hw fZ f_
    refine l8 ak aJ aT (bW (m : Int) Cs cn cc Ks kn kc ix false zW _) fun w3 aH eF bu => ?_
    have zc := kC.out _ aH
    have jN := kS.out _ bu
    have dD := af az.out aH.out
    go_wp2
    go_ret2
    obtain ⟨e1, e2⟩ := jY (m := m) HF.out
    exact ⟨by rw [e1, e2]; rfl, dD⟩
   | true =>
    have zW := aa hmb
    cases hsc : aQ Q v with
    | false =>
     have HF : Hid (l.all (bG Q kn) = false) := aa (HR.out.trans (fo hkl (by rw [hpx]; simp [bG, hsc])))
     have B_ := aa hsc
     clear hmb hsc HR hpx
     go_wp2_with fail
     clear zc sN je hw fZ f_
     refine l8 ak aJ aT (bW (m : Int) Cs cn cc Ks kn kc ix true zW _) fun w3 aH eF bu => ?_
     have zc := kC.out _ aH
     have jN := kS.out _ bu
     go_wp2_with fail
     clear zc jN
     refine l8 aH eF bu (fD P Q G v false B_ _) fun w4 eT j6 om => ?_
     have zc := kC.out _ eT
     have jN := kS.out _ om
     have dD := af az.out eT.out
     go_wp2
     go_ret2
     obtain ⟨e1, e2⟩ := jY (m := m) HF.out
     exact ⟨by rw [e1, e2]; rfl, dD⟩
    | true =>
     have HS : Hid (l.all (bG Q kn) = (l.drop (k + 1)).all (bG Q kn)) := aa (HR.out.trans (gV hkl (by rw [hpx]; simp [bG, hsc, hmb])))
     have B_ := aa hsc
     clear hmb hsc HR hpx
     go_wp2_with fail
     clear zc sN je hw fZ f_
     refine l8 ak aJ aT (bW (m : Int) Cs cn cc Ks kn kc ix true zW _) fun w3 aH eF bu => ?_
     have zc := kC.out _ aH
     have jN := kS.out _ bu
     go_wp2_with fail
     clear zc jN
     refine l8 aH eF bu (fD P Q G v true B_ _) fun w4 eT j6 om => ?_
     have zc := kC.out _ eT
     have jN := kS.out _ om
     go_wp2
     go_roundw
     case rel => exact ⟨k + 1, by omega, by go_num, HS, eT⟩
     case measure => simp [intOf]; omega
  ·
   have hke : n = k := by omega
   subst hke
   have bJ : Hid (l.all (bG Q kn) = true) := aa (by rw [HR.out, ← hn.out, List.drop_length]; rfl)
   clear HR
   have hmm := fun t w => run_makeMap (P := Tryz.prog) t w
   have CG := aa (vO wr)
   have G5 := ag wr (.map #[] 0)
   obtain ⟨mb, zf⟩ : ∃ B, wr.heap.size = B := ⟨_, rfl⟩
   obtain ⟨W, BG⟩ : ∃ W, wr.alloc (.map #[] 0) = W := ⟨_, rfl⟩
   have Ff : w0.heap.size ≤ mb := by rw [← zf]; exact ax.out.size
   have xO : Hid (Below w0.heap.size w0 W) := aa (by rw [← BG]; exact af ax.out G5)
   rw [zf, BG] at CG
   have DW := aa zf
   have Hz := aa BG
   clear zf BG G5
   have zc := kC.out _ ax
   go_wp2
   rw [Hz.out, DW.out]
   clear zc
   go_loopw [11, 12, 50] (fun vx vy i wr => ∃ k kk : Nat, k ≤ n ∧ i = .int .i64 k ∧ Hid ((pts l k).length = kk) ∧ Hid (bP l k = true) ∧ Hid (wr.ownsRow w0.heap.size 3 1 vx kk ((ixs (pts l k)).map (Value.int .i64))) ∧ Hid (wr.ownsRow w0.heap.size 3 1 vy kk ((aS (pts l k)).map (Value.int .i64))) ∧ Hid (∀ j, vx.ownBlock = some j → vy.ownBlock ≠ some j) ∧ Hid (vx.ownBlock ≠ some mb) ∧ Hid (vy.ownBlock ≠ some mb) ∧ Hid (sw (pts l k) wr mb kk) ∧ Hid (Below w0.heap.size w0 wr)) (fun _ _ i _ => n - (intOf i).toNat)
   case atStart => exact ⟨0, 0, by omega, rfl, aa rfl, aa rfl, aa (World.ownsRow_nil _ _ _ _), aa (World.ownsRow_nil _ _ _ _), aa (fun j h => by cases h), aa (fun h => by cases h), aa (fun h => by cases h), CG, xO⟩
   case round =>
    clear CG xO DW Hz hmm ax
    obtain ⟨k, kk, hk, rfl, HKK, EH, oz, sH, jR, ED, EC, Gj, ax⟩ := hrel
    have hkk : kk ≤ k := by rw [← HKK.out]; exact nI l k
    by_cases hlt : k < n
    ·
     have hkl : k < l.length := by rw [hn.out]; exact hlt
     obtain ⟨b, o, hA, fZ, f_⟩ := (kA.out _ ax).out k hkl
     subst hA
     obtain ⟨px, hpx⟩ : ∃ x, l.getD k (0, 0) = x := ⟨_, rfl⟩
     obtain ⟨ix, v⟩ := px
     rw [hpx] at fZ f_
     dsimp only at fZ f_
     have aL := bI wr
     have zc := kC.out _ ax
     obtain ⟨w2, hw, lJ, tZ, AP, kS⟩ := Cy (h_ ix v) rY wr
     have ak := uk ax lJ
     have aJ := uk aL lJ
     have aT := bI w2
     clear lJ
     have sN := kC.out _ ak
     have je := kS.out _ aT
     have hpm : (ix, v) ∈ l := by rw [← hpx, List.getD_eq_getElem?_getD, List.getElem?_eq_getElem hkl]; exact List.getElem_mem _
     obtain ⟨hmb, hsc⟩ := mX bJ.out hpm
     obtain ⟨q1, q2, q3, q4⟩ := aB bf.out
     have v0 := dQ hsc
     have v1 := dR hsc
     obtain ⟨r1, r2⟩ := hlr.out k hlt
     rw [hpx] at r1 r2
     dsimp only at r1 r2
     have wf1 : (Lit.int .i64 ix).wf = true := WalkArith.wf_i64 (by omega)
     have Iy : (Lit.int .i64 v).wf = true := WalkArith.wf_i64 (by omega)
     have hkey : keyOf Tryz.prog 3 (.int .i64 ix) = some (.int .i64 ix) := keyOf_int_mk Tryz.underlying3 wf1
     have Fe := Gj.out.lt
     have Gl : Hid (sw (pts l k) w2 mb kk) := aa (Gj.out.blk (aJ.out.block mb Fe))
     obtain ⟨D, hown, qI⟩ := Gl.out
     have EM := aa qI
     have Jm := aa (hown.tidy pJ)
     obtain ⟨hA1, hA2⟩ := qI ix
     clear qI
     have hsh : gz l k = (ix, v) := hpx
     cases nS : valOf (pts l k) ix with
     | some z =>
      have hh : has D (.int .i64 ix) = true := by rw [hA1, nS]; rfl
      have hat := hA2 z nS
      have yh : Hid (pts l (k + 1) = pts l k) := aa (by rw [pts, hsh]; dsimp only; rw [nS])
      by_cases hzv : z = v
      ·
       have JS : Hid (bP l (k + 1) = true) := aa (by rw [bP, EH.out, hsh]; dsimp only; rw [nS]; simp [hzv])
       have og : Hid (w2.ownsRow w0.heap.size 3 1 u11 kk ((ixs (pts l (k + 1))).map (Value.int .i64))) := aa (by rw [yh.out]; exact oz.out.kept (bn aJ.out none) (bg _))
       have n_ : Hid (w2.ownsRow w0.heap.size 3 1 u12 kk ((aS (pts l (k + 1))).map (Value.int .i64))) := aa (by rw [yh.out]; exact sH.out.kept (bn aJ.out none) (bg _))
       have JJ : Hid (sw (pts l (k + 1)) w2 mb kk) := aa (by rw [yh.out]; exact Gl.out)
       have Gq : Hid ((pts l (k + 1)).length = kk) := aa (by rw [yh.out]; exact HKK.out)
       have hza : D.atKey (.int .i64 ix) (.lit (.int .i64 0)) = .lit (.int .i64 v) := by rw [hat, hzv]
       have dz : ((v : Int) != v) = false := by simp
       clear hat nS hA1 hA2 hpm hpx hsh hzv
       go_wp2_with (at_lookup; refine wpList_lookup_own_ok_int _ rfl _ _ 75 rfl 3 3 .i64 pJ Tryz.underlying75 Tryz.underlying3 (uo _) mb kk D rfl hown _ _ rfl hkey ?_; intro c qH hwc; rw [hh]; have hcv : c = v := pG (qH.symm.trans hza); clear qH hwc)
       go_roundw
       case rel => exact ⟨k + 1, kk, by omega, by go_num, Gq, JS, og, n_, jR, ED, EC, JJ, ak⟩
       case measure => simp [intOf]; omega
      ·
       have hF1 : bP l (k + 1) = false := by rw [bP, EH.out, hsh]; dsimp only; rw [nS]; simp [hzv]
       have EI : Hid (bP l l.length = false) := aa (by rw [hn.out]; exact mR hF1 n (by omega))
       have dz : ((z : Int) != v) = true := by simpa using hzv
       have dD := af az.out ak.out
       clear hF1 nS hA1 hA2 hpm hpx hsh hzv
       go_wp2_with (at_lookup; refine wpList_lookup_own_ok_int _ rfl _ _ 75 rfl 3 3 .i64 pJ Tryz.underlying75 Tryz.underlying3 (uo _) mb kk D rfl hown _ _ rfl hkey ?_; intro c qH hwc; rw [hh]; have hcv : c = z := pG (qH.symm.trans hat); clear qH hwc)
       go_ret2
       obtain ⟨e1, e2⟩ := mK (m := m) bJ.out EI.out
       exact ⟨by rw [e1, e2]; rfl, dD⟩
     | none =>
      have hh : has D (.int .i64 ix) = false := by rw [hA1, nS]; rfl
      have AB : Hid (pts l (k + 1) = pts l k ++ [(ix, v)]) := aa (by rw [pts, hsh]; dsimp only; rw [nS])
      have JR : Hid (bP l (k + 1) = true) := aa (by rw [bP, EH.out, hsh]; dsimp only; rw [nS]; rfl)
      have yl : Hid ((pts l (k + 1)).length = kk + 1) := aa (by rw [AB.out, List.length_append, HKK.out]; rfl)
      have Jh := aa nS
      clear nS hA1 hA2 hpm hpx hsh
      go_upto_region 19 with (first | (at_lookup; refine wpList_lookup_own_ok_int _ rfl _ _ 75 rfl 3 3 .i64 pJ Tryz.underlying75 Tryz.underlying3 (uo _) mb kk D rfl hown _ _ rfl hkey ?_; intro c qH hwc; rw [hh]; clear qH hwc) | (at_mapUpdate; refine wpList_mapUpdate_own _ rfl _ _ _ 75 rfl 3 3 pJ Tryz.underlying75 _ mb kk _ rfl hown (by unfold maxLen; omega) _ _ _ rfl rfl hkey _ [] (plainElem_int Tryz.underlying3 Iy) ?_; intro xS hown1 hgrow1))
      clear zc sN je hw
      have zX : Hid (sw (pts l k ++ [(ix, v)]) xS mb (kk + 1)) := aa (yY Jm.out Jh.out hown1 EM.out)
      obtain ⟨mo, hmo⟩ := zX.out.obj
      have JI := aa hmo
      have IK : mb < w2.heap.size := Gl.out.lt
      have Aa : Hid (Below w0.heap.size w0 xS) := aa (ak.out.grown hgrow1 ak.out.size (fun j hj => by cases hj; exact Ff))
      have HT : Hid (bN w0 wr.heap.size (h_ ix v) mb mo u11 kk (ixs (pts l k)) u12 kk (aS (pts l k)) xS) := aa (by
       have h1 : w2.ownsRow w0.heap.size 3 1 u11 kk ((ixs (pts l k)).map (Value.int .i64)) := oz.out.kept (bn aJ.out none) (bg _)
       have h2 : w2.ownsRow w0.heap.size 3 1 u12 kk ((aS (pts l k)).map (Value.int .i64)) := sH.out.kept (bn aJ.out none) (bg _)
       have h3 : xS.ownsRow w0.heap.size 3 1 u11 kk ((ixs (pts l k)).map (Value.int .i64)) := h1.kept hgrow1 (.inr ED.out)
       have h4 : xS.ownsRow w0.heap.size 3 1 u12 kk ((aS (pts l k)).map (Value.int .i64)) := h2.kept hgrow1 (.inr EC.out)
       exact ⟨⟨Aa.out, (hgrow1.block wr.heap.size (by have := tZ.out; omega) (fun e => by injection e with e; omega)).trans AP.out, h3, h4, jR.out, fun e => by have := (oz.out.lt _ e).2; omega, fun e => by have := (sH.out.lt _ e).2; omega⟩,
        ⟨Aa.out, hmo, h3, h4, jR.out, ED.out, EC.out⟩⟩)
      clear hmo hown hown1 hgrow1 hh
      have hS := aa (show ∀ (za : Value) (zi : Nat) (zl : List Int) (zb : Value) (zj : Nat) (zm : List Int) (zu : World), Hid (bN w0 (wr.heap.size) (h_ ix v) mb mo za (zi) (zl) zb (zj) (zm) zu) → (zu.cell? ⟨w.heap.size, 0, none⟩ = some (.int .i64 P) ∧ zu.cell? ⟨w.heap.size, 1, none⟩ = some (.int .i64 Q) ∧ zu.cell? ⟨w.heap.size, 2, none⟩ = some (.int .i64 G) ∧ zu.cell? ⟨w.heap.size + 1, 0, none⟩ = some (.int .i64 (m : Int)) ∧ zu.cell? ⟨w.heap.size + 1, 1, none⟩ = some (.slice Cs cn cc) ∧ zu.cell? ⟨w.heap.size + 1, 2, none⟩ = some (.slice Ks kn kc) ∧ zu.cell? ⟨wr.heap.size, 0, none⟩ = some (.int .i64 ix) ∧ zu.cell? ⟨wr.heap.size, 1, none⟩ = some (.int .i64 v)) from fun za zi zl zb zj zm zu h => by
       obtain ⟨y0, y1, y2, y3, y4, y5⟩ := kC.out _ (aa h.out.b)
       exact ⟨y0, y1, y2, y3, y4, y5, ah h.out.x 0, ah h.out.x 1⟩)
      have BX := aa (HT.out.below (Below.refl _ _).drew)
      refine d_ (S := fun w' => w'.cell? ⟨w.heap.size, 0, none⟩ = some (.int .i64 P) ∧ w'.cell? ⟨w.heap.size, 1, none⟩ = some (.int .i64 Q) ∧ w'.cell? ⟨w.heap.size, 2, none⟩ = some (.int .i64 G) ∧ w'.cell? ⟨w.heap.size + 1, 0, none⟩ = some (.int .i64 (m : Int)) ∧ w'.cell? ⟨w.heap.size + 1, 1, none⟩ = some (.slice Cs cn cc) ∧ w'.cell? ⟨w.heap.size + 1, 2, none⟩ = some (.slice Ks kn kc) ∧ w'.cell? ⟨wr.heap.size, 0, none⟩ = some (.int .i64 ix) ∧ w'.cell? ⟨wr.heap.size, 1, none⟩ = some (.int .i64 v)) (E := []) (by kernel_rfl) (hS.out _ _ _ _ _ _ _ BX) (fun hHeld => ?_)
      obtain ⟨wD, Da⟩ : ∃ u, xS.drew = u := ⟨_, rfl⟩
      rw [Da] at BX hHeld ⊢
      clear Da
      refine qi 0 ?_
      refine qi 1 ?_
      refine qi 2 ?_
      refine qi 5 ?_
      refine qi 6 ?_
      refine qi 7 ?_
      refine mg (fun T a0 hT ha0 => ?_)
      clear hHeld
      have lK : ∀ (g3 : Nat) (gX : Nat) (cX : Nat) (g8 : Nat) (gY : Nat) (cY : Nat) (uT : World), (Hid (bN w0 (wr.heap.size) (h_ ix v) mb mo (.slice (some ⟨gX, 0, none⟩) (kk + 1) cX) (kk + 1) (ixs (pts l k) ++ [ix]) (.slice (some ⟨gY, 0, none⟩) (kk + 1) cY) (kk + 1) (aS (pts l k) ++ [v]) uT)) → T 2 #[true, true, true, true, true, true, true, true, true, true, false, false] ((((a0.put (some 74) (.slice (some ⟨g3, 0, none⟩) 1 1)).put (some 75) (.slice (some ⟨gX, 0, none⟩) (kk + 1) cX)).put (some 79) (.slice (some ⟨g8, 0, none⟩) 1 1)).put (some 80) (.slice (some ⟨gY, 0, none⟩) (kk + 1) cY)) uT := by
       intro g3 gX cX g8 gY cY uT FT
       have hHeld := hS.out _ _ _ _ _ _ _ FT
       rw [hT, ha0]
       try simp only [qq]
       refine qi 10 ?_
       refine qi 11 ?_
       refine jD ?_
       clear hHeld hT ha0
       have Ea := aa FT.out.b
       have hox := FT.out.ox
       have hoy := FT.out.oy
       rw [show (ixs (pts l k) ++ [ix]) = ixs (pts l (k + 1)) by rw [AB.out]; simp] at hox
       rw [show (aS (pts l k) ++ [v]) = aS (pts l (k + 1)) by rw [AB.out]; simp] at hoy
       have og := aa hox
       have n_ := aa hoy
       have xG := aa FT.out.nxy
       have JH : Hid (sw (pts l (k + 1)) uT mb (kk + 1)) := aa (by rw [AB.out]; exact zX.out.blk (FT.out.c.x.trans JI.out.symm))
       have Gi := aa FT.out.c.nx
       have JF := aa FT.out.c.ny
       clear hox hoy FT
       have zc := kC.out _ Ea
       go_wp2
       go_roundw
       case rel => exact ⟨k + 1, kk + 1, by omega, by go_num, yl, JR, og, n_, xG, Gi, JF, JH, Ea⟩
       case measure => simp [intOf]; omega
      have lM : ∀ (g3 : Nat) (gX : Nat) (cX : Nat) (g8 : Nat) (uT : World), (Hid (bN w0 (wr.heap.size) (h_ ix v) mb mo (.slice (some ⟨gX, 0, none⟩) (kk + 1) cX) (kk + 1) (ixs (pts l k) ++ [ix]) u12 (kk) (aS (pts l k)) uT)) → (Hid (aC uT g8 (v) (.slice (some ⟨gX, 0, none⟩) (kk + 1) cX) u12)) → T 3 #[true, true, true, true, true, true, true, true, true, false, false, false] (((a0.put (some 74) (.slice (some ⟨g3, 0, none⟩) 1 1)).put (some 75) (.slice (some ⟨gX, 0, none⟩) (kk + 1) cX)).put (some 79) (.slice (some ⟨g8, 0, none⟩) 1 1)) uT := by
       intro g3 gX cX g8 uT FT F8
       have hHeld := hS.out _ _ _ _ _ _ _ FT
       rw [hT, ha0]
       try simp only [qq]
       refine eX 9 fun K hK => ?_
       refine step_append_lies _ (by rfl) _ _ _ (by rfl) w0.heap.size 3 i0 _ 1 8 Tryz.underlying24 hi hz0 hz1 hz2 rfl (by omega) u12 (kk) ((aS (pts l k)).map (Value.int .i64)) (by rfl) FT.out.oy ⟨g8, 0, none⟩ 1 1 [.int .i64 (v)] (by rfl) (by rfl) F8.out.news (ints_oneCell .i64 [v]) (by omega) (by unfold maxLen; omega) (by omega) FT.out.b.size uT.heap.size rfl ?_
       intro gY cY uN hown1 hgrow1 hgg hlt1
       have dX := aa (FT.out.appY hown1 hgrow1 hgg)
       refine hK.out _ _ ?_ (fun hHeld => ?_)
       · exact hS.out _ _ _ _ _ _ _ dX
       clear hK K hHeld
       try simp only [qq]
       have hG := lK g3 gX cX g8 gY cY uN dX
       rw [hT, ha0] at hG
       (try simp only [qq] at hG)
       exact hG
      have Cn : ∀ (g3 : Nat) (gX : Nat) (cX : Nat) (uT : World), (Hid (bN w0 (wr.heap.size) (h_ ix v) mb mo (.slice (some ⟨gX, 0, none⟩) (kk + 1) cX) (kk + 1) (ixs (pts l k) ++ [ix]) u12 (kk) (aS (pts l k)) uT)) → T 4 #[true, true, true, true, true, true, true, true, false, false, false, false] ((a0.put (some 74) (.slice (some ⟨g3, 0, none⟩) 1 1)).put (some 75) (.slice (some ⟨gX, 0, none⟩) (kk + 1) cX)) uT := by
       intro g3 gX cX uT FT
       have hHeld := hS.out _ _ _ _ _ _ _ FT
       rw [hT, ha0]
       try simp only [qq]
       refine eX 8 fun K hK => ?_
       go_simp
       have dX := aa (FT.out.below (ag uT (.cells #[.int .i64 (v)] 3)))
       refine hK.out _ _ ?_ (fun hHeld => ?_)
       · exact hS.out _ _ _ _ _ _ _ dX
       clear hK K hHeld
       try simp only [qq]
       have hG := lM g3 gX cX (uT.heap.size) (uT.alloc (.cells #[.int .i64 (v)] 3)) dX (aa (aC.newB FT.out (v)))
       rw [hT, ha0] at hG
       (try simp only [qq] at hG)
       exact hG
      have xQ : ∀ (g3 : Nat) (g8 : Nat) (uT : World), (Hid (bN w0 (wr.heap.size) (h_ ix v) mb mo u11 (kk) (ixs (pts l k)) u12 (kk) (aS (pts l k)) uT)) → (Hid (aC uT g3 (ix) u11 u12)) → (Hid (aC uT g8 (v) u11 u12)) → T 4 #[true, true, true, true, false, true, true, true, true, false, false, false] ((a0.put (some 74) (.slice (some ⟨g3, 0, none⟩) 1 1)).put (some 79) (.slice (some ⟨g8, 0, none⟩) 1 1)) uT := by
       intro g3 g8 uT FT F3 F8
       have hHeld := hS.out _ _ _ _ _ _ _ FT
       rw [hT, ha0]
       try simp only [qq]
       refine eX 4 fun K hK => ?_
       refine step_append_lies _ (by rfl) _ _ _ (by rfl) w0.heap.size 3 i0 _ 1 8 Tryz.underlying24 hi hz0 hz1 hz2 rfl (by omega) u11 (kk) ((ixs (pts l k)).map (Value.int .i64)) (by rfl) FT.out.ox ⟨g3, 0, none⟩ 1 1 [.int .i64 (ix)] (by rfl) (by rfl) F3.out.news (ints_oneCell .i64 [ix]) (by omega) (by unfold maxLen; omega) (by omega) FT.out.b.size uT.heap.size rfl ?_
       intro gX cX uN hown1 hgrow1 hgg hlt1
       have dX := aa (FT.out.appX hown1 hgrow1 hgg)
       refine hK.out _ _ ?_ (fun hHeld => ?_)
       · exact hS.out _ _ _ _ _ _ _ dX
       clear hK K hHeld
       try simp only [qq]
       have hG := lM g3 gX cX g8 uN dX (aa (F8.out.appX hgrow1 hgg))
       rw [hT, ha0] at hG
       (try simp only [qq] at hG)
       exact hG
      have G3 : ∀ (g3 : Nat) (uT : World), (Hid (bN w0 (wr.heap.size) (h_ ix v) mb mo u11 (kk) (ixs (pts l k)) u12 (kk) (aS (pts l k)) uT)) → (Hid (aC uT g3 (ix) u11 u12)) → T 5 #[true, true, true, true, false, true, true, true, false, false, false, false] (a0.put (some 74) (.slice (some ⟨g3, 0, none⟩) 1 1)) uT := by
       intro g3 uT FT F3
       have hHeld := hS.out _ _ _ _ _ _ _ FT
       rw [hT, ha0]
       try simp only [qq]
       refine jU (i1 := 4) (i2 := 8) (by kernel_rfl) rfl rfl (fun K hK => ?_) (fun K hK => ?_)
       ·
        refine step_append_lies _ (by rfl) _ _ _ (by rfl) w0.heap.size 3 i0 _ 1 8 Tryz.underlying24 hi hz0 hz1 hz2 rfl (by omega) u11 (kk) ((ixs (pts l k)).map (Value.int .i64)) (by rfl) FT.out.ox ⟨g3, 0, none⟩ 1 1 [.int .i64 (ix)] (by rfl) (by rfl) F3.out.news (ints_oneCell .i64 [ix]) (by omega) (by unfold maxLen; omega) (by omega) FT.out.b.size uT.heap.size rfl ?_
        intro gX cX uN hown1 hgrow1 hgg hlt1
        have dX := aa (FT.out.appX hown1 hgrow1 hgg)
        refine hK.out _ _ ?_ (fun hHeld => ?_)
        · exact hS.out _ _ _ _ _ _ _ dX
        clear hK K hHeld
        try simp only [qq]
        have hG := Cn g3 gX cX uN dX
        rw [hT, ha0] at hG
        (try simp only [qq] at hG)
        exact hG
       ·
        go_simp
        have dX := aa (FT.out.below (ag uT (.cells #[.int .i64 (v)] 3)))
        refine hK.out _ _ ?_ (fun hHeld => ?_)
        · exact hS.out _ _ _ _ _ _ _ dX
        clear hK K hHeld
        try simp only [qq]
        have hG := xQ g3 (uT.heap.size) (uT.alloc (.cells #[.int .i64 (v)] 3)) dX (aa (F3.out.below (ag uT (.cells #[.int .i64 (v)] 3)))) (aa (aC.newB FT.out (v)))
        rw [hT, ha0] at hG
        (try simp only [qq] at hG)
        exact hG
      have G8 : ∀ (g8 : Nat) (uT : World), (Hid (bN w0 (wr.heap.size) (h_ ix v) mb mo u11 (kk) (ixs (pts l k)) u12 (kk) (aS (pts l k)) uT)) → (Hid (aC uT g8 (v) u11 u12)) → T 5 #[true, true, true, false, false, true, true, true, true, false, false, false] (a0.put (some 79) (.slice (some ⟨g8, 0, none⟩) 1 1)) uT := by
       intro g8 uT FT F8
       have hHeld := hS.out _ _ _ _ _ _ _ FT
       rw [hT, ha0]
       try simp only [qq]
       refine eX 3 fun K hK => ?_
       go_simp
       have dX := aa (FT.out.below (ag uT (.cells #[.int .i64 (ix)] 3)))
       refine hK.out _ _ ?_ (fun hHeld => ?_)
       · exact hS.out _ _ _ _ _ _ _ dX
       clear hK K hHeld
       try simp only [qq]
       have hG := xQ (uT.heap.size) g8 (uT.alloc (.cells #[.int .i64 (ix)] 3)) dX (aa (aC.newB FT.out (ix))) (aa (F8.out.below (ag uT (.cells #[.int .i64 (ix)] 3))))
       rw [hT, ha0] at hG
       (try simp only [qq] at hG)
       exact hG
      have G0 : ∀  (uT : World), (Hid (bN w0 (wr.heap.size) (h_ ix v) mb mo u11 (kk) (ixs (pts l k)) u12 (kk) (aS (pts l k)) uT)) → T 6 #[true, true, true, false, false, true, true, true, false, false, false, false] a0 uT := by
       intro  uT FT
       have hHeld := hS.out _ _ _ _ _ _ _ FT
       rw [hT, ha0]
       try simp only [qq]
       refine jU (i1 := 3) (i2 := 8) (by kernel_rfl) rfl rfl (fun K hK => ?_) (fun K hK => ?_)
       ·
        go_simp
        have dX := aa (FT.out.below (ag uT (.cells #[.int .i64 (ix)] 3)))
        refine hK.out _ _ ?_ (fun hHeld => ?_)
        · exact hS.out _ _ _ _ _ _ _ dX
        clear hK K hHeld
        try simp only [qq]
        have hG := G3 (uT.heap.size) (uT.alloc (.cells #[.int .i64 (ix)] 3)) dX (aa (aC.newB FT.out (ix)))
        rw [hT, ha0] at hG
        (try simp only [qq] at hG)
        exact hG
       ·
        go_simp
        have dX := aa (FT.out.below (ag uT (.cells #[.int .i64 (v)] 3)))
        refine hK.out _ _ ?_ (fun hHeld => ?_)
        · exact hS.out _ _ _ _ _ _ _ dX
        clear hK K hHeld
        try simp only [qq]
        have hG := G8 (uT.heap.size) (uT.alloc (.cells #[.int .i64 (v)] 3)) dX (aa (aC.newB FT.out (v)))
        rw [hT, ha0] at hG
        (try simp only [qq] at hG)
        exact hG
      exact G0 _ BX
    ·
     have hke : n = k := by omega
     subst hke
     have hln : l.length = n := hn.out
     have oD : Hid ((ixs (pts l n)).length = kk) := aa (by rw [List.length_map]; exact HKK.out)
     have x_ : Hid ((aS (pts l n)).length = kk) := aa (by rw [List.length_map]; exact HKK.out)
     obtain ⟨AX, cX, BC, sX, Fw⟩ := bM oz.out oD.out
     obtain ⟨AY, cY, Dc, sY, GZ⟩ := bM sH.out x_.out
     subst BC
     subst Dc
     have xA := aa sX
     have zT := aa sY
     have yj : Hid (aP (ixs (pts l n))) := aa (vU l n)
     have CE : Hid (∀ j, j < kk → dU kn ((ixs (pts l n)).getD j 0) = true ∧ aQ Q ((aS (pts l n)).getD j 0) = true) := aa (fun j hj => by
      have h9 := rD bJ.out n (by rw [hln]; exact Nat.le_refl _) j (by rw [HKK.out]; exact hj)
      rw [gQ (by rw [HKK.out]; exact hj), iI (by rw [HKK.out]; exact hj)]
      exact h9)
     have zY : Hid (bP l l.length = true) := aa (by rw [hln]; exact EH.out)
     have q9 : Hid ((pts l l.length).length = kk) := aa (by rw [hln]; exact HKK.out)
     obtain ⟨q1, q2, q3, q4⟩ := aB bf.out
     clear sX sY oz sH jR ED EC Gj hln
     have aL := bI wr
     have kX := uj (w := wr) (fun u => Sl u AX (ixs (pts l n))) xA.out (·.below)
     have kY := uj (w := wr) (fun u => Sl u AY (aS (pts l n))) zT.out (·.below)
     have zc := kC.out _ ax
     obtain ⟨T, hT⟩ : ∃ T, (2305843009213693951 : Int) / Q = T := ⟨_, rfl⟩
     have hT0 : 0 ≤ T := by rw [← hT]; exact Int.ediv_nonneg (by omega) (by omega)
     have hT1 : T ≤ 2305843009213693951 := by rw [← hT]; exact Int.ediv_le_self _ (by omega)
     have IW : (2305843009213693951 : Int).tdiv Q = T := by rw [Int.tdiv_eq_ediv_of_nonneg (by omega)]; exact hT
     have IV : IntKind.i64.wrap T = T := IntWalk.i64_in _ (by omega)
     have FC : wrap64 T = T := IntWalk.wrap64_in _ (by omega)
     have hQn : ¬ (Q = 0) := by omega
     have Am : ((Q : Int) == 0) = false := by simp; omega
     go_wp2
     go_loopw [17, 87] (fun a i wz => ∃ (j : Nat) (nE : Int), j ≤ m - kk ∧ i = .int .i64 j ∧ a = .int .i64 nE ∧ Hid (lY Q j = some nE) ∧ wz = wr) (fun _ i _ => m - kk - (intOf i).toNat)
     case atStart => exact ⟨0, 1, by omega, rfl, rfl, aa rfl, rfl⟩
     case round =>
      obtain ⟨j, nE, hj, rfl, rfl, yg, rfl⟩ := hrel
      obtain ⟨p0, p1⟩ := dS (by omega) j nE yg.out
      by_cases hjm : j < m - kk
      ·
       have dj : decide ((j : Int) < (m : Int) - (kk : Int)) = true := by simp; omega
       by_cases hbg : T < nE
       ·
        have db : decide (T < nE) = true := by simp; omega
        have t_ : Hid (lY Q (m - kk) = none) := aa (kG (k := j + 1) (by rw [lY, yg.out]; dsimp only; rw [if_pos (by rw [hT]; exact hbg)]) _ (by omega))
        have dD := af az.out ax.out
        go_wp2
        go_ret2
        obtain ⟨e1, e2⟩ := rF (m := m) bJ.out zY.out (by rw [q9.out]; omega) (by rw [q9.out]; exact t_.out)
        exact ⟨by rw [e1, e2]; rfl, dD⟩
       ·
        have db : decide (T < nE) = false := by simp; omega
        have h8 : lY Q (j + 1) = some (nE * Q) := by rw [lY, yg.out]; dsimp only; rw [if_neg (by rw [hT]; exact hbg)]
        have xE := aa h8
        obtain ⟨p2, p3⟩ := dS (by omega) (j + 1) _ h8
        obtain ⟨pn, hpn⟩ : ∃ x, nE * Q = x := ⟨_, rfl⟩
        rw [hpn] at xE p2 p3
        have e1 : IntKind.i64.wrap pn = pn := IntWalk.i64_in _ (by omega)
        have e2 : wrap64 pn = pn := IntWalk.wrap64_in _ (by omega)
        clear h8
        go_wp2
        go_roundw
        case rel => exact ⟨j + 1, pn, by omega, by go_num, rfl, xE, by first | rfl | trivial⟩
        case measure => simp [intOf]; omega
      ·
       obtain rfl : j = m - kk := by omega
       have dj : decide ((((m - kk : Nat) : Nat) : Int) < (m : Int) - (kk : Int)) = false := by simp; omega
       obtain ⟨jj, hjj⟩ : ∃ x, m - kk = x := ⟨_, rfl⟩
       rw [hjj] at dj yg ⊢
       by_cases hle : kk ≤ m
       ·
        have dl : decide ((kk : Int) ≤ (m : Int)) = true := by simp; omega
        have dD := af az.out ax.out
        have JQ := aa hjj
        clear hjj
        go_wp2
        go_ret2
        obtain ⟨e1, e2⟩ := rE (m := m) bJ.out zY.out (by rw [q9.out]; omega) (by rw [q9.out, JQ.out]; exact yg.out)
        exact ⟨by rw [e1, e2]; rfl, dD⟩
       ·
        have dl : decide ((kk : Int) ≤ (m : Int)) = false := by simp; omega
        have hml : m < (pts l l.length).length := by rw [q9.out]; omega
        have zV : Hid (di Q = true) := aa (iJ bf.out)
        have Aw : Hid (((ixs (pts l n)).take m).length = m) := aa (by rw [List.length_take, oD.out]; omega)
        have FU : Hid (((aS (pts l n)).take m).length = m) := aa (by rw [List.length_take, x_.out]; omega)
        have CJ : Hid (∀ j, j < m → ((ixs (pts l n)).take m).getD j 0 = (ixs (pts l n)).getD j 0) := aa (fun j hj => by rw [List.getD_eq_getElem?_getD, List.getElem?_take_of_lt hj, ← List.getD_eq_getElem?_getD])
        have Ih : Hid (∀ j, j < m → ((aS (pts l n)).take m).getD j 0 = (aS (pts l n)).getD j 0) := aa (fun j hj => by rw [List.getD_eq_getElem?_getD, List.getElem?_take_of_lt hj, ← List.getD_eq_getElem?_getD])
        have Cf : Hid (∀ j, j < kk → 1 ≤ (ixs (pts l n)).getD j 0 ∧ (ixs (pts l n)).getD j 0 ≤ 8 ∧ (ixs (pts l n)).getD j 0 < Q) := aa (fun j hj => by
         obtain ⟨h1, _⟩ := CE.out j hj
         obtain ⟨mm, h3, h4⟩ := fH h1
         rw [h4]
         omega)
        have FV : Hid (((ixs (pts l n)).take m).all (aQ Q) = true) := aa (by
         rw [List.all_eq_true]
         intro x hx
         obtain ⟨j, hj, rfl⟩ := List.getElem_of_mem hx
         rw [Aw.out] at hj
         have h9 := Cf.out j (by omega)
         rw [← CJ.out j hj, List.getD_eq_getElem?_getD, List.getElem?_eq_getElem (by rw [Aw.out]; exact hj)] at h9
         obtain ⟨g1, _, g3⟩ := h9
         change 1 ≤ _ at g1
         have g4 : ∀ z : Int, 1 ≤ z → z < Q → aQ Q z = true := fun z z1 z2 => by simp [aQ]; omega
         exact g4 _ g1 g3)
        have Ja : Hid (((aS (pts l n)).take m).all (aQ Q) = true) := aa (by
         rw [List.all_eq_true]
         intro x hx
         obtain ⟨j, hj, rfl⟩ := List.getElem_of_mem hx
         rw [FU.out] at hj
         have h9 := (CE.out j (by omega)).2
         rw [← Ih.out j hj, List.getD_eq_getElem?_getD, List.getElem?_eq_getElem (by rw [FU.out]; exact hj)] at h9
         exact h9)
        have Jb : Hid (aP ((ixs (pts l n)).take m)) := aa (iO yj.out)
        have H7 : Hid (∀ i j, i < m → j < m → i ≠ j → Un Q (dF ((ixs (pts l n)).take m) i - dF ((ixs (pts l n)).take m) j)) := aa (fun i j hi hj hij => by
         show Un Q (((ixs (pts l n)).take m).getD i 0 - ((ixs (pts l n)).take m).getD j 0)
         rw [CJ.out i hi, CJ.out j hj]
         obtain ⟨a1, a2, a3⟩ := Cf.out i (by omega)
         obtain ⟨b1, b2, b3⟩ := Cf.out j (by omega)
         refine yH zV.out a1 a2 a3 (by omega) b2 b3 (fun e => ?_)
         rcases Nat.lt_or_gt_of_ne hij with h | h
         · exact yj.out j i (by rw [oD.out]; omega) h e.symm
         · exact yj.out i j (by rw [oD.out]; omega) h e)
        have GU : m ≤ cX := by omega
        have Kv : m ≤ cY := by omega
        have EZ := aa (show ∀ u : World, Hid (Below wr.heap.size wr u) → Hid (Sl u AX ((ixs (pts l n)).take m)) from fun u h => aa ((fC (xA.out.below h.out) m)))
        have IB := aa (show ∀ u : World, Hid (Below wr.heap.size wr u) → Hid (Sl u AY ((aS (pts l n)).take m)) from fun u h => aa ((fC (zT.out.below h.out) m)))
        have wE : m ≤ 100 := by omega
        clear hjj
        go_upto_region 30 with (fail)
        clear zc
        have hO := aa (fun (u : World) (h : Hid (Below w0.heap.size w0 u ∧ Below wr.heap.size wr u)) => kC.out u (aa h.out.1))
        refine mG (fun u => Below w0.heap.size w0 u ∧ Below wr.heap.size wr u) [] (bb2 (aa ⟨ax.out, aL.out⟩) ((Below.refl _ _).drew)) (fun hHeld => ?_)
        refine aK 0 1 2 3 ?_
        refine aK 4 5 6 7 ?_
        refine aM 8 ?_
        refine aM 9 ?_
        refine eX 10 fun K hK => ?_
        go_simp
        refine (yV Q AX ((ixs (pts l n)).take m) m cX AY ((aS (pts l n)).take m) cY (by omega) zV Aw FU wE GU FV Ja Jb H7 _ (kV.out _ (aa hHeld.out.1)) (EZ.out _ (aa hHeld.out.2)) (IB.out _ (aa hHeld.out.2))).mono ?_
        rintro e wA ⟨AL, cL, L, rfl, hsL, GM, GR, dL⟩
        have BZ := aa hsL
        have JA := aa GM
        have Ie := aa GR
        clear hsL GM GR
        refine hK.out _ _ (bb2 hHeld dL) (fun hHeld => ?_)
        clear hK K
        try simp only [qq]
        obtain ⟨lL, Fj⟩ : ∃ x, L.length = x := ⟨_, rfl⟩
        have Gp := aa Fj
        rw [Fj]
        clear Fj
        refine aK 11 12 13 14 ?_
        refine aM 15 ?_
        refine jD ?_
        clear hO
        have bT := (aa hHeld.out.1)
        have DX := (aa hHeld.out.2)
        clear hHeld
        have D8 := bI wA
        have kL := uj (w := wA) (fun u => Sl u AL L) BZ.out (·.below)
        have zc := kC.out _ bT
        go_wp2
        clear zc
        go_loopw [124] (fun i wz => ∃ j : Nat, j ≤ kk ∧ i = .int .i64 j ∧ Hid (gq Q (pts l n) m j = true) ∧ Hid (Below wA.heap.size wA wz)) (fun i _ => kk - (intOf i).toNat)
        case atStart => exact ⟨0, by omega, rfl, aa rfl, aa (Below.refl _ _)⟩
        case round =>
         obtain ⟨j, hj, rfl, Ed, dG⟩ := hrel
         have a_ := aa (af bT.out dG.out)
         have sG := aa (af DX.out dG.out)
         by_cases dZ : j < kk
         ·
          obtain ⟨b1, o1, hA1, i1⟩ := (kX.out _ sG).out j (by rw [oD.out]; exact dZ)
          obtain ⟨b2, o2, hA2, i2⟩ := (kY.out _ sG).out j (by rw [x_.out]; exact dZ)
          subst hA1
          subst hA2
          obtain ⟨x0, x8, x1⟩ := Cf.out j dZ
          have hsc := (CE.out j dZ).2
          have Cx : j < m → pv L ((ixs (pts l n)).getD j 0) % Q = (aS (pts l n)).getD j 0 := fun hjm => by
           have h9 := (yX Ie.out hjm).eq
           rw [show dF ((ixs (pts l n)).take m) j = (ixs (pts l n)).getD j 0 from CJ.out j hjm, show dF ((aS (pts l n)).take m) j = (aS (pts l n)).getD j 0 from Ih.out j hjm] at h9
           rw [h9]
           exact Int.emod_eq_of_lt (dQ hsc) (dR hsc)
          have BG : pv L ((ixs (pts l n)).getD j 0) % Q = nD Q ((ixs (pts l n)).getD j 0) ((ixs (pts l n)).take m) (aS (pts l n)) m := by
           rw [nM (by omega) Aw.out Ie.out H7.out, oO Q _ _ _ m m (Nat.le_refl _)]
          have kP : gq Q (pts l n) m (j + 1) = (decide (j < m) || pv L ((ixs (pts l n)).getD j 0) % Q == (aS (pts l n)).getD j 0) := by
           rw [gq, Ed.out, Bool.true_and, BG]
          obtain ⟨x, hx⟩ : ∃ x, (ixs (pts l n)).getD j 0 = x := ⟨_, rfl⟩
          obtain ⟨y, hy⟩ : ∃ x, (aS (pts l n)).getD j 0 = x := ⟨_, rfl⟩
          rw [hx] at i1 x0 x1 x8 Cx kP
          rw [hy] at i2 Cx kP
          obtain ⟨E, hE⟩ : ∃ z, pv L x % Q = z := ⟨_, rfl⟩
          rw [hE] at Cx kP
          have HE := aa hE
          clear BG hx hy hE hsc
          have zc := kC.out _ a_
          go_wp2_with fail
          refine (vH Q AL L lL cL m x (by omega) zV Gp JA (by omega) (by omega) x1 _ (kV.out _ a_) (kL.out _ dG)).mono ?_
          rintro e w9 ⟨rfl, BF⟩
          rw [HE.out]
          have Cj := aa (af dG.out BF)
          have i3 := cell_below i2 BF
          clear BF i1 i2 zc
          by_cases rQ : E = y
          ·
           have dE : ((E : Int) != y) = false := by simp [rQ]
           have Ck : Hid (gq Q (pts l n) m (j + 1) = true) := aa (by rw [kP, rQ]; simp)
           clear Cx kP rQ
           go_wp2
           go_roundw
           case rel => exact ⟨j + 1, by omega, by go_num, Ck, Cj⟩
           case measure => simp [intOf]; omega
          ·
           have dE : ((E : Int) != y) = true := by simpa using rQ
           have Gw : Hid (gq Q (pts l n) m kk = false) := aa (jy (k := j + 1) (by
            rw [kP]
            have h1 : decide (j < m) = false := by simp; exact Nat.le_of_not_lt (fun h => rQ (Cx h))
            have h2 : (E == y) = false := by simpa using rQ
            rw [h1, h2]; rfl) kk (by omega))
           have dD := af az.out (af bT.out Cj.out)
           clear Cx kP rQ
           go_wp2
           go_ret2
           obtain ⟨e1, e2⟩ := jZ (m := m) bJ.out zY.out hml false (by rw [q9.out, hn.out]; exact Gw.out)
           exact ⟨by rw [e1, e2]; rfl, dD⟩
         ·
          obtain rfl : j = kk := by omega
          have dD := af az.out a_.out
          have zc := kC.out _ a_
          go_wp2
          go_ret2
          obtain ⟨e1, e2⟩ := jZ (m := m) bJ.out zY.out hml true (by rw [q9.out, hn.out]; exact Ed.out)
          exact ⟨by rw [e1, e2]; rfl, dD⟩
end Go.Proofs.YtchcllcbknfikaaGreatDoor
namespace Go.Proofs.YtchcllcbknfikaaGreatDoor
open Go.RowKit jK
theorem oU (A : Option Addr) (l : List (Int × Int)) (n c j : Nat) (hn : Hid (l.length = n)) (hj : j ≤ n) (hnb : n ≤ 100) (w : World) (hA : Hid (Sh w A l)) :
  Calls Tryz.prog 53 #[.slice A n c, .int .i64 (j : Int)] w fun e w' => ∃ v, e = .returned v ∧ aO w' w.heap.size v (ixs (l.take j)) ∧ Below w.heap.size w w' := by
 obtain ⟨i0, hi, hz0, hz1, hz2⟩ := info_parts fJ
 go_in
 go_wp2
 go_loopw [5, 6] (fun v i wr => ∃ k : Nat, k ≤ j ∧ i = .int .i64 k ∧ Hid (wr.ownsRow w.heap.size 3 1 v k ((ixs (l.take k)).map (Value.int .i64))) ∧ Hid (Below w.heap.size w wr)) (fun _ i _ => j - (intOf i).toNat)
 case atStart => exact ⟨0, by omega, rfl, aa (World.ownsRow_nil _ _ _ _), aa (Below.refl _ _)⟩
 case round =>
  obtain ⟨k, hk, rfl, oz, ax⟩ := hrel
  by_cases hlt : k < j
  ·
   have hkl : k < l.length := by rw [hn.out]; omega
   obtain ⟨b, o, wH, fZ, f_⟩ := (hA.out.below ax.out) k hkl
   subst wH
   have TX := aa (oL hkl)
   obtain ⟨px, hpx⟩ : ∃ x, l.getD k (0, 0) = x := ⟨_, rfl⟩
   obtain ⟨ix, v⟩ := px
   rw [hpx] at fZ f_ TX
   dsimp only at fZ f_ TX
   have hown := oz.out
   have hbs := ax.out.size
   have hkn : k < n := by omega
   have hk2 : k + 1 ≤ 101 := by omega
   go_wp2_with (at_builtin; refine wpList_append_own _ rfl _ _ 24 rfl w.heap.size 3 i0 (.int .i64 0) 1 8 Tryz.underlying24 hi hz0 hz1 hz2 rfl (by decide) _ _ _ rfl (hown.alloc _) ⟨wr.heap.size, 0, none⟩ 1 1 [.int .i64 ix] rfl rfl (cell_one_new _ _ _) (ints_oneCell .i64 [ix]) (by unfold maxLen; omega) (by omega) (by simp; omega) ?_; intro v' y3 hown1 hgrow1 _)
   have DT : Hid (y3.ownsRow w.heap.size 3 1 v' (k + 1) ((ixs (l.take (k + 1))).map (Value.int .i64))) := aa (by rw [TX.out]; simpa using hown1)
   have HB3 : Hid (Below w.heap.size w y3) := aa ((ax.out.alloc hbs _).grown hgrow1 (by simp; omega) (fun j hj => (hown.lt j hj).1))
   clear hown hown1 hgrow1
   go_roundw
   case rel => exact ⟨k + 1, by omega, by go_num, DT, HB3⟩
   case measure => simp [intOf]; omega
  ·
   obtain rfl : k = j := by omega
   have HL : Hid ((ixs (l.take k)).length = k) := aa (by rw [List.length_map, List.length_take, hn.out]; omega)
   have HO : Hid (aO wr w.heap.size u5 (ixs (l.take k))) := aa (by unfold aO; rw [HL.out]; exact oz.out)
   clear oz
   go_wp2
   go_ret
   exact ⟨_, rfl, HO.out, ax.out⟩
theorem uW (P Q G : Int) (m : Nat) (Cs : Option Addr) (cs : List Int) (cn cc : Nat) (Ks : Option Addr) (ks : List Int) (kn kc : Nat) (hcn : Hid (cs.length = cn)) (hkn : Hid (ks.length = kn)) (A : Option Addr) (l : List (Int × Int)) (n c : Nat) (hn : Hid (l.length = n)) (hnb : n ≤ 100) (hlr : Hid (∀ k, k < n → kF (l.getD k (0, 0)))) (hr : Hid (ou P Q G (m : Int) cs ks = true)) (hQ : Q < 9223372036854775808) (w : World) (hK : Hid (Sl w Ks ks)) (hA : Hid (Sh w A l)) :
  Calls Tryz.prog 16 #[gv P Q G, fA (m : Int) Cs cn cc Ks kn kc, .slice A n c] w (Rt w (.tuple #[.int .i64 (iA P Q G (m : Int) ks l), .int .i64 (dY P Q G (m : Int) ks l)])) := by
 obtain ⟨bf, n1, n2, n3, n4, n5, n6⟩ := bV hr.out hcn.out hkn.out
 obtain ⟨w0, HW, az, kC⟩ := st2 (aG P Q G) gy (fB (m : Int) Cs cn cc Ks kn kc) lW w
 have dA := mkS az hK
 have kA := xV (fun u => Sh u A l) az hA (·.below)
 have ai := bI w0
 clear hK hA
 go_in
 go_upto_region 1 with (fail)
 rw [HW.out]
 have zc := kC.out _ ai
 go_wp2
 clear zc
 go_loopw [8] (fun i wr => ∃ k : Nat, k ≤ n ∧ i = .int .i64 k ∧ Hid (l.all (fun p => cK P Q G ks p.1 p.2) = (l.drop k).all (fun p => cK P Q G ks p.1 p.2)) ∧ Hid (Below w0.heap.size w0 wr)) (fun i _ => n - (intOf i).toNat)
 case atStart => exact ⟨0, by omega, rfl, aa rfl, ai⟩
 case round =>
  obtain ⟨k, hk, rfl, HR, ax⟩ := hrel
  have jd := bI wr
  by_cases hlt : k < n
  ·
   have hkl : k < l.length := by rw [hn.out]; exact hlt
   obtain ⟨b, o, wH, fZ, f_⟩ := (kA.out _ ax).out k hkl
   subst wH
   obtain ⟨px, hpx⟩ : ∃ x, l.getD k (0, 0) = x := ⟨_, rfl⟩
   obtain ⟨ix, v⟩ := px
   rw [hpx] at fZ f_
   dsimp only at fZ f_
   have hO := aa (fun (u : World) (h : Hid (Below w0.heap.size w0 u ∧ Below wr.heap.size wr u)) => And.intro (kC.out u (aa h.out.1)) (And.intro (cell_below fZ h.out.2) (cell_below f_ h.out.2)))
   cases hrg : cK P Q G ks ix v with
   | true =>
    have HS : Hid (l.all (fun p => cK P Q G ks p.1 p.2) = (l.drop (k + 1)).all (fun p => cK P Q G ks p.1 p.2)) := aa (HR.out.trans (gV hkl (by rw [hpx]; exact hrg)))
    have yf := aa hrg
    clear hrg HR hpx
    have zc := kC.out _ ax
    go_upto_region 4 with (fail)
    clear zc
    refine mG (fun u => Below w0.heap.size w0 u ∧ Below wr.heap.size wr u) [] (bb2 (aa ⟨ax.out, jd.out⟩) ((Below.refl _ _).drew)) (fun hHeld => ?_)
    refine aK 0 1 2 3 ?_
    refine aM 4 ?_
    refine aM 5 ?_
    refine eX 6 fun K hK => ?_
    go_simp
    refine (iB P Q G (m : Int) Cs cn cc Ks ks kn kc ix v hkn n2 bf true yf _ (dA.out _ (aa hHeld.out.1))).mono ?_
    rintro e wA ⟨rfl, dL⟩
    refine hK.out _ _ (bb2 hHeld dL) (fun hHeld => ?_)
    clear hK K
    try simp only [qq]
    refine aM 7 ?_
    refine jD ?_
    clear hO
    have bT := (aa hHeld.out.1)
    clear hHeld
    have zc := kC.out _ bT
    go_wp2
    go_roundw
    case rel => exact ⟨k + 1, by omega, by go_num, HS, bT⟩
    case measure => simp [intOf]; omega
   | false =>
    have HF : Hid (dY P Q G (m : Int) ks l = 11) := aa (by rw [dY, HR.out, fo hkl (by rw [hpx]; exact hrg)]; rfl)
    have yf := aa hrg
    clear hrg HR hpx
    have zc := kC.out _ ax
    go_upto_region 4 with (fail)
    clear zc
    refine mG (fun u => Below w0.heap.size w0 u ∧ Below wr.heap.size wr u) [] (bb2 (aa ⟨ax.out, jd.out⟩) ((Below.refl _ _).drew)) (fun hHeld => ?_)
    refine aK 0 1 2 3 ?_
    refine aM 4 ?_
    refine aM 5 ?_
    refine eX 6 fun K hK => ?_
    go_simp
    refine (iB P Q G (m : Int) Cs cn cc Ks ks kn kc ix v hkn n2 bf false yf _ (dA.out _ (aa hHeld.out.1))).mono ?_
    rintro e wA ⟨rfl, dL⟩
    refine hK.out _ _ (bb2 hHeld dL) (fun hHeld => ?_)
    clear hK K
    try simp only [qq]
    refine aM 7 ?_
    refine jD ?_
    clear hO
    have bT := (aa hHeld.out.1)
    clear hHeld
    have dD := af az.out bT.out
    have zc := kC.out _ bT
    go_wp2
    go_ret2
    exact ⟨by rw [iA, HF.out]; rfl, dD⟩
  ·
   have hke : n = k := by omega
   subst hke
   have bJ : Hid (l.all (fun p => cK P Q G ks p.1 p.2) = true) := aa (by rw [HR.out, ← hn.out, List.drop_length]; rfl)
   clear HR
   have zc := kC.out _ ax
   have hnn : n ≤ n := Nat.le_refl _
   go_wp2_with fail
   refine (oU A l n c n hn hnn hnb _ (kA.out _ ax)).mono ?_
   rintro e w2 ⟨vi, rfl, Dk, hb2⟩
   have hix : (ixs (l.take n)) = ixs l := by rw [List.take_of_length_le (by rw [hn.out]; exact Nat.le_refl _)]
   rw [hix] at Dk
   have pR : (ixs l).length = n := by rw [List.length_map]; exact hn.out
   unfold aO at Dk
   rw [pR] at Dk
   obtain ⟨AX, cX, BC, sX, Fw⟩ := bM Dk pR
   subst BC
   have xA := aa sX
   have oD := aa pR
   have ak := aa (af ax.out hb2)
   clear Dk hix pR sX hb2 zc
   have zc := kC.out _ ak
   by_cases hnt : aP (ixs l)
   ·
    have jS := aa hnt
    clear hnt
    go_wp2_with fail
    refine (kD AX (ixs l) n cX false (aa ⟨fun _ => jS.out, fun _ => rfl⟩) oD (by omega) _ xA).mono ?_
    rintro e w3 ⟨rfl, hb3⟩
    have aH := aa (af ak.out hb3)
    clear hb3 zc
    have zc := kC.out _ aH
    by_cases hfw : n < m
    ·
     have HF : Hid (dY P Q G (m : Int) ks l = 7) := aa (by rw [dY, if_pos bJ.out]; simp [jS.out, hn.out]; omega)
     have df : decide ((n : Int) < (m : Int)) = true := by simp; omega
     have dD := af az.out aH.out
     go_wp2
     go_ret2
     exact ⟨by rw [iA, HF.out]; rfl, dD⟩
    ·
     have HF : Hid (dY P Q G (m : Int) ks l = 0) := aa (by rw [dY, if_pos bJ.out]; simp [jS.out, hn.out]; omega)
     have FY : Hid (iA P Q G (m : Int) ks l = oP Q ((ixs l).take m) (aS l) m) := aa (by rw [iA, HF.out]; rfl)
     have df : decide ((n : Int) < (m : Int)) = false := by simp; omega
     have hmn : m ≤ n := by omega
     have BV : Hid (((ixs l).take m).length = m) := aa (by rw [List.length_take, oD.out]; omega)
     have F4 : Hid (((ixs l).take m).all (aQ Q) = true) := aa (vT bJ.out hkn.out n3)
     obtain ⟨q1, q2, q3, q4⟩ := aB bf.out
     have zV : Hid (di Q = true) := aa (iJ bf.out)
     go_upto_region 10 with (fail)
     clear zc
     have hO := aa (fun (u : World) (h : Hid (Below w0.heap.size w0 u)) => kC.out u h)
     have D9 := aa (af aH.out ((Below.refl w3.heap.size w3).drew))
     refine mG (fun u => Below w0.heap.size w0 u) [] D9 (fun hHeld => ?_)
     refine aK 0 1 2 3 ?_
     refine aM 4 ?_
     have Co := hHeld
     refine eX 5 fun K hK => ?_
     go_simp
     refine (oU A l n c m hn hmn hnb _ (kA.out _ Co)).mono ?_
     rintro e wI ⟨vj, rfl, Dj, G6⟩
     have Cv : (ixs (l.take m)) = (ixs l).take m := List.map_take
     rw [Cv] at Dj
     unfold aO at Dj
     rw [BV.out] at Dj
     obtain ⟨AJ, cJ, II, sJ, hcJ⟩ := bM Dj BV.out
     subst II
     have Jr := aa sJ
     have Ef := aa (af Co.out G6)
     clear Dj Cv sJ G6
     refine hK.out _ _ Ef (fun hHeld => ?_)
     clear hK K
     try simp only [qq]
     refine eX 6 fun K hK => ?_
     go_simp
     refine (iK Q AJ ((ixs l).take m) m cJ 0 (by omega) zV BV (by omega) F4 (by omega) (by omega) _ Jr).mono ?_
     rintro e wA ⟨vw, rfl, rP, dL⟩
     unfold aO at rP
     rw [aI] at rP
     obtain ⟨AW, cW, hvw, sW, hcW⟩ := bM rP (aI _ _ _ _)
     subst hvw
     have AA := aa sW
     have lN := aa (af Ef.out dL)
     clear rP sW dL
     refine hK.out _ _ lN (fun hHeld => ?_)
     clear hK K
     try simp only [qq]
     refine aM 7 ?_
     refine jD ?_
     clear hO hHeld
     have D8 := bI wA
     have kW := uj (w := wA) (fun u => Sl u AW (oq Q ((ixs l).take m) 0 m)) AA.out (·.below)
     have zc := kC.out _ lN
     go_wp2
     clear zc
     go_loopw [10, 11] (fun a i wz => ∃ j : Nat, j ≤ m ∧ i = .int .i64 j ∧ a = .int .i64 (oP Q ((ixs l).take m) (aS l) j) ∧ Hid (Below wA.heap.size wA wz)) (fun _ i _ => m - (intOf i).toNat)
     case atStart => exact ⟨0, by omega, rfl, rfl, aa (Below.refl _ _)⟩
     case round =>
      obtain ⟨j, hj, rfl, rfl, dG⟩ := hrel
      have a_ := aa (af lN.out dG.out)
      have hsb := kz (Q := Q) (by omega) ((ixs l).take m) (aS l) j
      by_cases dZ : j < m
      ·
       have hkl : j < l.length := by have := hn.out; omega
       obtain ⟨b1, o1, hA1, i1⟩ := (kW.out _ dG).out j (by rw [aI]; exact dZ)
       obtain ⟨b2, o2, hA2, Kq, i2⟩ := (kA.out _ a_).out j hkl
       subst hA1
       subst hA2
       rw [m_ _ _ _ _ _ dZ] at i1
       rw [← iI hkl] at i2
       have ss : oP Q ((ixs l).take m) (aS l) (j + 1) = (oP Q ((ixs l).take m) (aS l) j + jT Q ((ixs l).take m) 0 j * (aS l).getD j 0 % Q) % Q := rfl
       obtain ⟨x0, x1⟩ := iq (q := Q) (by omega) ((ixs l).take m) 0 j
       have hyb := uy bJ.out hkl
       obtain ⟨x, hx⟩ : ∃ x, jT Q ((ixs l).take m) 0 j = x := ⟨_, rfl⟩
       obtain ⟨y, hy⟩ : ∃ x, (aS l).getD j 0 = x := ⟨_, rfl⟩
       obtain ⟨s9, wB⟩ : ∃ x, oP Q ((ixs l).take m) (aS l) j = x := ⟨_, rfl⟩
       rw [hx] at i1 x0 x1 ss
       rw [hy] at i2 ss hyb
       rw [wB] at ss hsb ⊢
       obtain ⟨p, hp⟩ : ∃ z, x * y % Q = z := ⟨_, rfl⟩
       obtain ⟨t9, wm⟩ : ∃ z, (s9 + p) % Q = z := ⟨_, rfl⟩
       rw [hp, wm] at ss
       have p0 : 0 ≤ p := by rw [← hp]; exact Int.emod_nonneg _ (by omega)
       have p1 : p < Q := by rw [← hp]; exact Int.emod_lt_of_pos _ (by omega)
       obtain ⟨s0, s1⟩ := hsb
       have y0 := dQ hyb
       have y1 := dR hyb
       have SS := aa ss
       have HP := aa hp
       have DD := aa wm
       have d1 : IntKind.i64.wrap (s9 + p) = s9 + p := IntWalk.i64_in _ (by omega)
       have e1 : wrap64 (s9 + p) = s9 + p := IntWalk.wrap64_in _ (by omega)
       clear ss hx hy wB hp wm hyb
       have hjn : j < n := by omega
       have zc := kC.out _ a_
       have xM := bI wr
       have hO := aa (fun (u : World) (h : Hid (Below w0.heap.size w0 u ∧ Below wr.heap.size wr u)) => And.intro (kC.out u (aa h.out.1)) (And.intro (cell_below i1 h.out.2) (cell_below i2 h.out.2)))
       go_upto_region 15 with (fail)
       clear zc
       refine mG (fun u => Below w0.heap.size w0 u ∧ Below wr.heap.size wr u) [] (bb2 (aa ⟨a_.out, xM.out⟩) ((Below.refl _ _).drew)) (fun hHeld => ?_)
       refine aK 0 1 2 3 ?_
       refine aK 4 5 6 7 ?_
       refine aK 8 9 10 11 ?_
       refine aM 14 ?_
       refine aM 15 ?_
       refine eX 12 fun K hK => ?_
       go_simp
       refine (aU x y Q p HP (by omega) x0 x1 y0 y1 _).mono ?_
       rintro e u1 ⟨rfl, rfl⟩
       refine hK.out _ _ hHeld (fun hHeld => ?_)
       clear hK K
       try simp only [qq]
       refine aM 13 ?_
       refine eX 16 fun K hK => ?_
       go_simp
       refine (cB (s9 + p) Q t9 DD (by omega) (by omega) (by omega) (by omega) _).mono ?_
       rintro e u2 ⟨rfl, rfl⟩
       refine hK.out _ _ hHeld (fun hHeld => ?_)
       clear hK K
       try simp only [qq]
       refine aM 17 ?_
       refine jD ?_
       clear hO
       have Gx := aa (af dG.out hHeld.out.2)
       clear hHeld
       go_wp2
       go_roundw
       case rel => exact ⟨j + 1, by omega, by go_num, by rw [SS.out], Gx⟩
       case measure => simp [intOf]; omega
      ·
       obtain rfl : j = m := by omega
       have zc := kC.out _ a_
       have dD := af az.out a_.out
       go_wp2
       go_ret2
       exact ⟨by rw [FY.out, HF.out]; rfl, dD⟩
   ·
    have HF : Hid (dY P Q G (m : Int) ks l = 8) := aa (by rw [dY, if_pos bJ.out]; simp [hnt])
    have jS := aa hnt
    clear hnt
    go_wp2_with fail
    refine (kD AX (ixs l) n cX true (aa ⟨fun h => (by cases h), fun h => absurd h jS.out⟩) oD (by omega) _ xA).mono ?_
    rintro e w3 ⟨rfl, hb3⟩
    have aH := aa (af ak.out hb3)
    clear hb3 zc
    have zc := kC.out _ aH
    have dD := af az.out aH.out
    go_wp2
    go_ret2
    exact ⟨by rw [iA, HF.out]; rfl, dD⟩
end Go.Proofs.YtchcllcbknfikaaGreatDoor