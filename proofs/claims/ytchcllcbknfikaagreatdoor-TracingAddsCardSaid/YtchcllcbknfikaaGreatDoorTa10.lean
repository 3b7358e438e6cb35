/- Contracts and lemmas: TmC, TmD, TmE, TmF, TmK, TmHa, TlZb, TlV, TmH, TmO. -/
import Derived.Laws.BytesArg
import Derived.Laws.AppendOwnNone
import Derived.Test.YtchcllcbknfikaaGreatDoorTa9
set_option linter.unusedVariables false
set_option linter.unusedSimpArgs false
set_option maxRecDepth 100000
set_option maxHeartbeats 25600000
namespace Go.Proofs.YtchcllcbknfikaaGreatDoor
open Go.RowKit si
def DD (lw B : Nat) (v : Value) (Li : Option Nat) (b : Nat) : Prop := (lw ≤ b ∧ b ≤ B) ∨ v.ownBlock = some b ∨ Li = some b
structure Fb (lw ix B : Nat) (v : Value) (Li : Option Nat) (os os' : List az) (k : Nat) (u : World) : Prop where
 sam : ∀ j, j < k → sj (bL os j) (bL os' j)
 ne : ∀ j, j < k → j ≠ ix → nZ (DD lw B v Li) u (fun x => dW x (bL os' j))
 eq : ix < k → xA B (DD lw B v Li) u (bL os' ix) ∧ (Value.slice (bL os' ix).L (bL os' ix).np (bL os' ix).cp).ownBlock = Li
 no : k ≤ ix → Li = none
 fr : ∀ b, Li = some b → B < b ∧ b < u.heap.size ∧ v.ownBlock ≠ some b
theorem Fb.nil (lw ix B : Nat) (v : Value) (os : List az) (u : World) : Fb lw ix B v none os [] 0 u :=
 ⟨fun j h => absurd h (by omega), fun j h => absurd h (by omega), fun h => absurd h (by omega), fun _ => rfl, fun b h => by cases h⟩
theorem Fb.push {lw ix B S : Nat} {v v' : Value} {Li : Option Nat} {os os' : List az} {k : Nat} {u u7 u' : World} {o' : az} (h : Fb lw ix B v Li os os' k u) (hl : os'.length = k) (hS : u.heap.size = S) (hB : B < S) (Xj : lw ≤ B) (hv : ∀ b, v.ownBlock = some b → B < b ∧ b < S)
  (TY : S ≤ u7.heap.size) (hz : u7.heap.size ≤ u'.heap.size) (hu : ∀ b, b < S → (b < lw ∨ B < b) → v.ownBlock ≠ some b → u'.heap[b]? = u.heap[b]?) (hu7 : ∀ b, (b < lw ∨ S ≤ b) → b < u7.heap.size → u'.heap[b]? = u7.heap[b]?)
  (hv' : ∀ b, v'.ownBlock = some b → v.ownBlock = some b ∨ u7.heap.size ≤ b) (hs : sj (bL os k) o') (hq : xA B (fun b => (lw ≤ b ∧ b < S) ∨ (Value.slice o'.L o'.np o'.cp).ownBlock = some b) u7 o') (hlo : ∀ b, (Value.slice o'.L o'.np o'.cp).ownBlock = some b → S ≤ b ∧ b < u7.heap.size) :
  Fb lw ix B v' (if k = ix then (Value.slice o'.L o'.np o'.cp).ownBlock else Li) os (os' ++ [o']) (k + 1) u' := by
 have hD7 : ∀ b, b < u7.heap.size → DD lw B v' (if k = ix then (Value.slice o'.L o'.np o'.cp).ownBlock else Li) b → (lw ≤ b ∧ b < S) ∨ (Value.slice o'.L o'.np o'.cp).ownBlock = some b := fun b hb hd => by
  rcases hd with e | e | e
  · exact .inl (by omega)
  ·
   rcases hv' b e with e | e
   · exact .inl (by have := hv b e; omega)
   · omega
  ·
   by_cases hk : k = ix
   · rw [if_pos hk] at e; exact .inr e
   · rw [if_neg hk] at e; exact .inl (by have := h.fr b e; omega)
 have hq' : xA B (DD lw B v' (if k = ix then (Value.slice o'.L o'.np o'.cp).ownBlock else Li)) u' o' := hq.step hz (fun b hb hn => hu7 b (by by_cases e : S ≤ b; exact .inr e; by_cases e2 : lw ≤ b; exact absurd (Or.inl ⟨e2, by omega⟩) hn; exact .inl (by omega)) hb) hD7 (fun b e => hu7 b (.inr (hlo b e).1) (hlo b e).2)
 have hDa : ∀ b, b < u.heap.size → DD lw B v' (if k = ix then (Value.slice o'.L o'.np o'.cp).ownBlock else Li) b → DD lw B v Li b := fun b hb hd => by
  rcases hd with e | e | e
  · exact .inl e
  ·
   rcases hv' b e with e | e
   · exact .inr (.inl e)
   · omega
  ·
   by_cases hk : k = ix
   · rw [if_pos hk] at e; have := (hlo b e).1; omega
   · rw [if_neg hk] at e; exact .inr (.inr e)
 have hch : ∀ b, b < u.heap.size → ¬ DD lw B v Li b → u'.heap[b]? = u.heap[b]? := fun b hb hn => hu b (by omega) (by by_cases e : b < lw; exact .inl e; by_cases e2 : b ≤ B; exact absurd (Or.inl ⟨by omega, e2⟩) hn; exact .inr (by omega)) (fun e => hn (.inr (.inl e)))
 have hzu : u.heap.size ≤ u'.heap.size := by omega
 refine ⟨fun j hj => ?_, fun j hj hne => ?_, fun hi => ?_, fun hi => ?_, fun b e => ?_⟩
 ·
  by_cases e : j = k
  · subst e; rw [wW hl]; exact hs
  · rw [wX (by omega)]; exact h.sam j (by omega)
 ·
  by_cases e : j = k
  ·
   subst e
   rw [wW hl]
   refine hq'.dep (fun _ _ q => q) (fun b eb hd => ?_)
   have hb := hlo b eb
   rcases hd with e | e | e
   · omega
   ·
    rcases hv' b e with e | e
    · have := hv b e; omega
    · omega
   · rw [if_neg hne] at e; have := (h.fr b e).2.1; omega
  ·
   rw [wX (by omega)]
   exact (h.ne j (by omega) hne).step hzu hch hDa
 ·
  by_cases e : k = ix
  ·
   subst e
   rw [wW hl, if_pos rfl]
   rw [if_pos rfl] at hq'
   exact ⟨hq', rfl⟩
  ·
   rw [wX (by omega), if_neg e]
   rw [if_neg e] at hDa
   obtain ⟨h1, h2⟩ := h.eq (by omega)
   refine ⟨h1.step hzu hch hDa (fun b eb => ?_), h2⟩
   rw [h2] at eb
   have h3 := h.fr b eb
   exact hu b (by omega) (.inr (by omega)) h3.2.2
 · rw [if_neg (by omega)]; exact h.no (by omega)
 ·
  by_cases hk : k = ix
  ·
   rw [if_pos hk] at e
   have hb := hlo b e
   refine ⟨by omega, by omega, fun e2 => ?_⟩
   rcases hv' b e2 with e | e
   · have := hv b e; omega
   · omega
  ·
   rw [if_neg hk] at e
   have hb := h.fr b e
   refine ⟨hb.1, by omega, fun e2 => ?_⟩
   rcases hv' b e2 with e | e
   · exact hb.2.2 e
   · omega
theorem Fb.shut {lw ix B : Nat} {v : Value} {Li : Option Nat} {os os' : List az} {k : Nat} {u u' : World} (h : Fb lw ix B v Li os os' k u) (hz : u.heap.size ≤ u'.heap.size) (hu : ∀ b, b < u.heap.size → (b < lw ∨ B < b) → u'.heap[b]? = u.heap[b]?) : Fb lw ix B v Li os os' k u' := by
 have hch : ∀ b, b < u.heap.size → ¬ DD lw B v Li b → u'.heap[b]? = u.heap[b]? := fun b hb hn => hu b hb (by by_cases e : b < lw; exact .inl e; by_cases e2 : b ≤ B; exact absurd (Or.inl ⟨by omega, e2⟩) hn; exact .inr (by omega))
 refine ⟨h.sam, fun j hj hne => (h.ne j hj hne).step hz hch (fun _ _ q => q), fun hi => ?_, h.no, fun b e => ⟨(h.fr b e).1, Nat.lt_of_lt_of_le (h.fr b e).2.1 hz, (h.fr b e).2.2⟩⟩
 obtain ⟨h1, h2⟩ := h.eq hi
 refine ⟨h1.step hz hch (fun _ _ q => q) (fun b eb => ?_), h2⟩
 rw [h2] at eb
 have h3 := h.fr b eb
 exact hu b h3.2.1 (.inr h3.1)
def DN (lw B N : Nat) (v : Value) (Li : Option Nat) (b : Nat) : Prop := (lw ≤ b ∧ b ≤ B) ∨ N ≤ b ∨ v.ownBlock = some b ∨ Li = some b
structure KN (lw ix lo : Nat) (os : List az) (n : Nat) (hs : List (List Int)) (m : Nat) (O : Option Addr) (c : Nat) (K : Option Addr) (d : Nat) (os' : List az) (B N : Nat) (Li : Option Nat) (u : World) : Prop where
 l : os'.length = n
 nc : n ≤ c
 md : m ≤ d
 lwo : lw ≤ lo
 lB : lo ≤ B
 BN : B < N
 Nu : N ≤ u.heap.size
 ro : u.ownsRow (B + 1) 104 9 (.slice O n c) n (os'.flatMap lQ)
 rk : u.ownsRow lo 41 32 (.slice K m d) m (hs.flatMap oN)
 bo : ∀ b, (Value.slice O n c).ownBlock = some b → B < b ∧ b < N
 bk : ∀ b, (Value.slice K m d).ownBlock = some b → lo ≤ b ∧ b < B
 sam : ∀ j, j < n → sj (bL os j) (bL os' j)
 ne : ∀ j, j < n → j ≠ ix → nZ (DN lw B N (.slice O n c) Li) u (fun x => dW x (bL os' j))
 eq : ix < n → xA B (DN lw B N (.slice O n c) Li) u (bL os' ix) ∧ (Value.slice (bL os' ix).L (bL os' ix).np (bL os' ix).cp).ownBlock = Li
 no : n ≤ ix → Li = none
 fr : ∀ b, Li = some b → B < b ∧ b < N ∧ (Value.slice O n c).ownBlock ≠ some b
theorem vo {u u' : World} {base s n : Nat} {T : TypeId} {v : Value} {cs : List Value} (h : u.ownsRow base T s v n cs) (he : ∀ b, v.ownBlock = some b → u'.heap[b]? = u.heap[b]?) : u'.ownsRow base T s v n cs := by
 refine ⟨h.1, h.2.imp id ?_⟩
 rintro ⟨g, cap, cur, rfl, hg, hh, rest⟩
 exact ⟨g, cap, cur, rfl, hg, (he g rfl).trans hh, rest⟩
theorem KN.keep {lw ix lo n m c d B N : Nat} {os os' : List az} {hs : List (List Int)} {O K : Option Addr} {Li : Option Nat} {u u' : World} (h : KN lw ix lo os n hs m O c K d os' B N Li u) (hz : u.heap.size ≤ u'.heap.size) (hu : ∀ b, (b < lw ∨ B < b) → b < N → u'.heap[b]? = u.heap[b]?) (hk : ∀ b, lo ≤ b → b < B → u'.heap[b]? = u.heap[b]?) : KN lw ix lo os n hs m O c K d os' B N Li u' := by
 have hch : ∀ b, b < u.heap.size → ¬ DN lw B N (.slice O n c) Li b → u'.heap[b]? = u.heap[b]? := fun b hb hn => hu b (by by_cases e : b < lw; exact .inl e; by_cases e2 : b ≤ B; exact absurd (Or.inl ⟨by omega, e2⟩) hn; exact .inr (by omega)) (by by_cases e : N ≤ b; exact absurd (Or.inr (Or.inl e)) hn; omega)
 refine ⟨h.l, h.nc, h.md, h.lwo, h.lB, h.BN, Nat.le_trans h.Nu hz, vo h.ro (fun b e => hu b (.inr (h.bo b e).1) (h.bo b e).2), vo h.rk (fun b e => hk b (h.bk b e).1 (h.bk b e).2), h.bo, h.bk, h.sam, fun j hj hne => (h.ne j hj hne).step hz hch (fun _ _ q => q), fun hi => ?_, h.no, h.fr⟩
 obtain ⟨h1, h2⟩ := h.eq hi
 refine ⟨h1.step hz hch (fun _ _ q => q) (fun b eb => ?_), h2⟩
 rw [h2] at eb
 have h3 := h.fr b eb
 exact hu b (.inr h3.1) h3.2.1
theorem KN.below {lw ix lo n m c d B N : Nat} {os os' : List az} {hs : List (List Int)} {O K : Option Addr} {Li : Option Nat} {u u' : World} (h : KN lw ix lo os n hs m O c K d os' B N Li u) (hb : Below u.heap.size u u') : KN lw ix lo os n hs m O c K d os' B N Li u' :=
 h.keep hb.size (fun b _ h2 => hb.block b (Nat.lt_of_lt_of_le h2 h.Nu)) (fun b _ h2 => hb.block b (by have := h.Nu; have := h.BN; omega))
def Sb (lw ix : Nat) (os : List az) (n : Nat) (hs : List (List Int)) (m : Nat) (w : World) (e : Ending) (w' : World) : Prop := ∃ (O : Option Addr) (c : Nat) (K : Option Addr) (d : Nat) (os' : List az) (B : Nat) (Li : Option Nat), e = .returned (gI O n c K m d) ∧ KN lw ix w.heap.size os n hs m O c K d os' B w'.heap.size Li w' ∧ Below w.heap.size w w'
theorem Ny {lw ix lo n m c d B : Nat} {os os' : List az} {hs : List (List Int)} {O K : Option Addr} {Li : Option Nat} {u : World} (hl : os'.length = n) (hnc : n ≤ c) (hmd : m ≤ d) (Xj : lw ≤ lo) (hlB : lo ≤ B) (hBu : B < u.heap.size) (hro : u.ownsRow (B + 1) 104 9 (.slice O n c) n (os'.flatMap lQ)) (hrk : u.ownsRow lo 41 32 (.slice K m d) m (hs.flatMap oN)) (hkB : ∀ b, (Value.slice K m d).ownBlock = some b → b < B) (h : Fb lw ix B (.slice O n c) Li os os' n u) : KN lw ix lo os n hs m O c K d os' B u.heap.size Li u := by
 have hD : ∀ b, b < u.heap.size → DN lw B u.heap.size (.slice O n c) Li b → DD lw B (.slice O n c) Li b := fun b hb hd => by
  rcases hd with e | e | e | e
  · exact .inl e
  · omega
  · exact .inr (.inl e)
  · exact .inr (.inr e)
 refine ⟨hl, hnc, hmd, Xj, hlB, hBu, Nat.le_refl _, hro, hrk, fun b e => ?_, fun b e => ⟨(World.ownsRow.lt hrk b e).1, hkB b e⟩, h.sam, fun j hj hne => (h.ne j hj hne).shrink hD, fun hi => ?_, h.no, h.fr⟩
 ·
  have := World.ownsRow.lt hro b e
  exact ⟨by omega, this.2⟩
 ·
  obtain ⟨h1, h2⟩ := h.eq hi
  exact ⟨h1.step (Nat.le_refl _) (fun _ _ _ => rfl) hD (fun _ _ => rfl), h2⟩
theorem GR (ix : Nat) (O : Option Addr) (os : List az) (n c : Nat) (K : Option Addr) (hs : List (List Int)) (m d : Nat) (hn : Hid (os.length = n)) (hm : Hid (hs.length = m)) (hb1 : n ≤ 1000000) (hb2 : m ≤ 1000000) (hS : ∀ k, k < n → fH (bL os k)) (w : World) (hO : Hid (Os w O os)) (hK : Hid (Hs w K hs)) :
  Calls Tryz.prog 75 #[gI O n c K m d] w (Sb 0 ix os n hs m w) := by
 obtain ⟨w0, HW, aj, kC⟩ := st2 (jh O n c K m d) rq (.cells #[.slice none 0 0, .slice none 0 0] 52) sO w
 have Dm := fq (fun u => Os u O os) aj hO (·.below)
 have IE := fq (fun u => Hs u K hs) aj hK (·.below)
 have nT := Bg (w0 := w0) (o := .cells #[.slice none 0 0, .slice none 0 0] 52) (w.heap.size + 1) (by rw [← HW.out]; exact heap_alloc2_new _ _ _)
 have ah := bP w0
 clear hO hK
 have jO : Hid (w0.heap.size = w.heap.size + 2) := aa (by rw [← HW.out]; simp)
 obtain ⟨i1, hi1, hy0, hy1, hy2⟩ := info_parts Ch
 obtain ⟨i2, hi2, hx0, hx1, hx2⟩ := info_parts yC
 go_in
 go_wp2_with fail
 rw [HW.out]
 have zc := kC.out _ ah
 go_wp2_with fail
 refine (GQ K hs m d hm hb2 _ (IE.out _ ah)).mono ?_
 rintro e w1 ⟨K1, d1, rfl, hk1, hb0⟩
 have ax := bF ah hb0
 clear zc hb0
 have zc := kC.out _ ax
 go_upto_region 2 with (fail)
 have HB1 := ax
 have QZ := aa (iX hk1)
 have HK1 := aa hk1
 obtain ⟨B, hB⟩ : ∃ x, w1.heap.size = x := ⟨_, rfl⟩
 obtain ⟨W, hW⟩ : ∃ x, w1.alloc (.cells #[.slice none 0 0, .slice K1 m d1] 52) = x := ⟨_, rfl⟩
 have xW : Hid (W.heap.size = B + 1 ∧ w0.heap.size ≤ B) := aa ⟨by rw [← hW, ← hB]; simp, by rw [← hB]; exact HB1.out.size⟩
 have hbk : W.heap[B]? = some (.cells #[.slice none 0 0, .slice K1 m d1] 52) := by rw [← hW, ← hB]; exact heap_alloc_new _ _
 have pQ : Hid (Own W ⟨B, 0, none⟩ (.slice none 0 0)) := aa ⟨au hbk 0, av hbk 0⟩
 have U7 : Hid (Own W ⟨B, 1, none⟩ (.slice K1 m d1)) := aa ⟨au hbk 1, av hbk 1⟩
 have bT : Hid (Below w0.heap.size w0 W) := aa (ag HB1.out (by rw [← hW]; exact af _ _))
 have HKW : Hid (Below w1.heap.size w1 W) := aa (by rw [← hW]; exact af _ _)
 have Hf := aa hB
 rw [hW, hB]
 clear hW hB hbk hk1
 clear zc
 have zc := kC.out _ bT
 go_wp2
 clear zc
 go_loopw [16] (fun i u => ∃ (k : Nat) (v : Value) (os' : List az) (Li : Option Nat), k ≤ n ∧ i = .int .i64 k ∧ Hid (os'.length = k) ∧ Hid (Own u ⟨B, 0, none⟩ v) ∧ Hid (Own u ⟨B, 1, none⟩ (.slice K1 m d1)) ∧ Hid (u.ownsRow (B + 1) 104 9 v k (os'.flatMap lQ)) ∧ Hid (Fb 0 ix B v Li os os' k u) ∧ Hid (Below B W u)) (fun i _ => n - (intOf i).toNat)
 case atStart => exact ⟨0, _, [], none, by omega, rfl, aa rfl, pQ, U7, aa (World.ownsRow_nil _ _ _ _), aa (Fb.nil _ _ _ _ _ _), aa (Below.refl _ _)⟩
 case round =>
  obtain ⟨k, v, os', Li, hk, rfl, qH, HV, qF, HO, HG, aF⟩ := hrel
  obtain ⟨wo, rfl⟩ : ∃ wo : World, wo = wr := ⟨_, rfl⟩
  have iK : Hid (Below w0.heap.size w0 wo) := aa (bT.out.trans (aF.out.mono xW.out.2))
  have hBW := aF.out.size
  have hsb := xW.out
  by_cases hlt : k < n
  ·
   have hkl : k < os.length := by rw [hn.out]; exact hlt
   obtain ⟨b, f, hA, h9, hok⟩ := (Dm.out _ iK).out k hkl
   subst hA
   have hSo := hS k hlt
   obtain ⟨o, ho⟩ : ∃ o, os.getD k dI = o := ⟨_, rfl⟩
   have mY : Hid (bL os k = o) := aa ho
   rw [ho] at h9 hok
   rw [mY.out] at hSo
   obtain ⟨j0, j1, j2, j3, j4, j5, j6, j7, j8⟩ := h9
   obtain ⟨ok1, JM, ⟨JL, Rl⟩, Rn, Rm, JK⟩ := hok
   have Hr := aa JK
   have uh := aa JL
   have Ak := aa ok1
   have HLZ := aa JM
   have RX := aa Rn
   have lu := aa Rm
   have hna : o.na ≤ 100000 := by rw [← ok1]; have := hSo.a; omega
   have hnz : o.nz ≤ 100000 := by rw [← JM]; have := hSo.z; omega
   have hnp : o.np ≤ 8 := by rw [← JL]; exact hSo.n
   have HSO := aa hSo.p
   clear ho ok1 JM JL Rl Rn Rm JK hkl hSo
   have zc := kC.out _ iK
   have hq0 := af wo (lY o)
   have aK := bF iK hq0
   clear hq0
   have tJ := kC.out _ aK
   have hb5 : (wo.alloc (lY o)).heap[wo.heap.size]? = some (lY o) := heap_alloc_new _ _
   have HX0 : Hid (Own (wo.alloc (lY o)) ⟨wo.heap.size, 0, none⟩ (.int .i64 o.num) ∧ Own (wo.alloc (lY o)) ⟨wo.heap.size, 1, none⟩ (.string o.rs) ∧ Own (wo.alloc (lY o)) ⟨wo.heap.size, 2, none⟩ (.int .i64 o.E1) ∧ Own (wo.alloc (lY o)) ⟨wo.heap.size, 3, none⟩ (.int .i64 o.E2) ∧ Own (wo.alloc (lY o)) ⟨wo.heap.size, 4, none⟩ (.slice o.A o.na o.ca) ∧ Own (wo.alloc (lY o)) ⟨wo.heap.size, 5, none⟩ (.int .i64 o.C) ∧ Own (wo.alloc (lY o)) ⟨wo.heap.size, 6, none⟩ (.slice o.Z o.nz o.cz) ∧ Own (wo.alloc (lY o)) ⟨wo.heap.size, 7, none⟩ (.slice o.L o.np o.cp) ∧ Own (wo.alloc (lY o)) ⟨wo.heap.size, 8, none⟩ (.int .i64 o.key)) := aa ⟨⟨au hb5 0, av hb5 0⟩, ⟨au hb5 1, av hb5 1⟩, ⟨au hb5 2, av hb5 2⟩, ⟨au hb5 3, av hb5 3⟩, ⟨au hb5 4, av hb5 4⟩, ⟨au hb5 5, av hb5 5⟩, ⟨au hb5 6, av hb5 6⟩, ⟨au hb5 7, av hb5 7⟩, ⟨au hb5 8, av hb5 8⟩⟩
   obtain ⟨⟨x0, y0⟩, ⟨x1, y1⟩, ⟨x2, y2⟩, ⟨x3, y3⟩, ⟨x4, y4⟩, ⟨x5, y5⟩, ⟨x6, y6⟩, ⟨x7, y7⟩, ⟨x8, y8⟩⟩ := HX0.out
   clear hb5
   go_upto_region 5 with (fail)
   clear zc tJ
   clear x0 y0 x1 y1 x2 y2 x3 y3 x4 y4 x5 y5 x6 y6 x7 y7 x8 y8
   obtain ⟨w5, P8⟩ : ∃ x, wo.alloc (lY o) = x := ⟨_, rfl⟩
   rw [P8] at HX0 aK ⊢
   have KH : Hid (w5.heap.size = wo.heap.size + 1) := aa (by rw [← P8]; simp)
   have jZ : Hid (Below wo.heap.size wo w5) := aa (by rw [← P8]; exact af _ _)
   clear P8 j0 j1 j2 j3 j4 j5 j6 j7 j8
   obtain ⟨X, hX⟩ : ∃ x, wo.heap.size = x := ⟨_, rfl⟩
   have abT : Hid (Sl w5 o.A o.al) := aa (RX.out.below jZ.out)
   have abM : Hid (Sl w5 o.Z o.zs) := aa (lu.out.below jZ.out)
   have YK : Hid (Pa w5 o.L o.ps) := aa (Hr.out.below jZ.out)
   rw [hX] at HX0 KH hBW ⊢
   have QL := aa hX
   clear hX
   obtain ⟨⟨x0, y0⟩, ⟨x1, y1⟩, ⟨x2, y2⟩, ⟨x3, y3⟩, ⟨x4, y4⟩, ⟨x5, y5⟩, ⟨x6, y6⟩, ⟨x7, y7⟩, ⟨x8, y8⟩⟩ := HX0.out
   go_wp2_with fail
   refine (Ca o.A o.na o.ca o.al o.C o.Z o.nz o.cz o.zs Ak HLZ hna hnz _ abT abM).mono ?_
   rintro e w6 ⟨A2, CQ, Z2, CL, rfl, hsa, hsz, hb6⟩
   have YG := aa hsa
   have Yx := aa hsz
   have m_ : Hid (Below w5.heap.size w5 w6) := aa hb6
   clear hsa hsz hb6 x0 y0 x1 y1 x2 y2 x3 y3 x4 y4 x5 y5 x6 y6 x7 y7 x8 y8
   have HX6 : Hid (Own w6 ⟨X, 0, none⟩ (.int .i64 o.num) ∧ Own w6 ⟨X, 1, none⟩ (.string o.rs) ∧ Own w6 ⟨X, 2, none⟩ (.int .i64 o.E1) ∧ Own w6 ⟨X, 3, none⟩ (.int .i64 o.E2) ∧ Own w6 ⟨X, 4, none⟩ (.slice o.A o.na o.ca) ∧ Own w6 ⟨X, 5, none⟩ (.int .i64 o.C) ∧ Own w6 ⟨X, 6, none⟩ (.slice o.Z o.nz o.cz) ∧ Own w6 ⟨X, 7, none⟩ (.slice o.L o.np o.cp) ∧ Own w6 ⟨X, 8, none⟩ (.int .i64 o.key)) := aa (by
    obtain ⟨X0, X1, X2, X3, X4, X5, X6, X7, X8⟩ := HX0.out
    exact ⟨X0.below m_.out, X1.below m_.out, X2.below m_.out, X3.below m_.out, X4.below m_.out, X5.below m_.out, X6.below m_.out, X7.below m_.out, X8.below m_.out⟩)
   obtain ⟨⟨x0, y0⟩, ⟨x1, y1⟩, ⟨x2, y2⟩, ⟨x3, y3⟩, ⟨x4, y4⟩, ⟨x5, y5⟩, ⟨x6, y6⟩, ⟨x7, y7⟩, ⟨x8, y8⟩⟩ := HX6.out
   go_upto_region 6 with (fail)
   clear x0 y0 x1 y1 x2 y2 x3 y3 x4 y4 x5 y5 x6 y6 x7 y7 x8 y8
   obtain ⟨w7, hw7⟩ : ∃ x, ((w6.setCell ⟨X, 4, none⟩ (.slice A2 o.na CQ)).setCell ⟨X, 5, none⟩ (.int .i64 o.C)).setCell ⟨X, 6, none⟩ (.slice Z2 o.nz CL) = x := ⟨_, rfl⟩
   have Yj : Hid (Own w7 ⟨X, 0, none⟩ (.int .i64 o.num) ∧ Own w7 ⟨X, 1, none⟩ (.string o.rs) ∧ Own w7 ⟨X, 2, none⟩ (.int .i64 o.E1) ∧ Own w7 ⟨X, 3, none⟩ (.int .i64 o.E2) ∧ Own w7 ⟨X, 4, none⟩ (.slice A2 o.na CQ) ∧ Own w7 ⟨X, 5, none⟩ (.int .i64 o.C) ∧ Own w7 ⟨X, 6, none⟩ (.slice Z2 o.nz CL) ∧ Own w7 ⟨X, 7, none⟩ (.slice o.L o.np o.cp) ∧ Own w7 ⟨X, 8, none⟩ (.int .i64 o.key)) := aa (by
    obtain ⟨X0, X1, X2, X3, X4, X5, X6, X7, X8⟩ := HX6.out
    have gn : ∀ j u9, j ≠ 4 → j ≠ 5 → j ≠ 6 → Own w6 ⟨X, j, none⟩ u9 → Own w7 ⟨X, j, none⟩ u9 := fun j u9 h4 h5 h6 h => by
     rw [← hw7]
     exact ak (ak (ak h (by simp <;> omega)) (by simp <;> omega)) (by simp <;> omega)
    refine ⟨gn _ _ (by decide) (by decide) (by decide) X0, gn _ _ (by decide) (by decide) (by decide) X1, gn _ _ (by decide) (by decide) (by decide) X2, gn _ _ (by decide) (by decide) (by decide) X3, ?_, ?_, ?_, gn _ _ (by decide) (by decide) (by decide) X7, gn _ _ (by decide) (by decide) (by decide) X8⟩
    · rw [← hw7]; exact ak (ak (bu X4) (by simp)) (by simp)
    · rw [← hw7]; exact ak (bu (ak X5 (by simp))) (by simp)
    · rw [← hw7]; exact bu (ak (ak X6 (by simp)) (by simp)))
   have Uu : X < w5.heap.size := by have := KH.out; omega
   have acH : Hid (nZ (fun b => b < w5.heap.size) w7 (fun u => Sl u A2 o.al)) := aa (by rw [← hw7]; exact (((za YG.out.1 fun b o e h0 => Nat.not_lt.2 (YG.out.2 b o e h0)).setCell Uu).setCell Uu).setCell Uu)
   have acE : Hid (nZ (fun b => b < w5.heap.size) w7 (fun u => Sl u Z2 o.zs)) := aa (by rw [← hw7]; exact (((za Yx.out.1 fun b o e h0 => Nat.not_lt.2 (Yx.out.2 b o e h0)).setCell Uu).setCell Uu).setCell Uu)
   have uo : Hid (Below wo.heap.size wo w7) := aa (by
    have e9 : wo.heap.size ≤ X := by rw [QL.out]; exact Nat.le_refl _
    rw [← hw7]; exact (((ag jZ.out m_.out).setCell e9 _).setCell e9 _).setCell e9 _)
   have HZ7 : Hid (w5.heap.size ≤ w7.heap.size) := aa (by rw [← hw7, World.size_setCell, World.size_setCell, World.size_setCell]; exact m_.out.size)
   have ab3 : Hid (Pa w7 o.L o.ps) := aa (Hr.out.below uo.out)
   rw [hw7]
   clear hw7 Uu
   obtain ⟨⟨x0, y0⟩, ⟨x1, y1⟩, ⟨x2, y2⟩, ⟨x3, y3⟩, ⟨x4, y4⟩, ⟨x5, y5⟩, ⟨x6, y6⟩, ⟨x7, y7⟩, ⟨x8, y8⟩⟩ := Yj.out
   go_wp2
   clear x0 y0 x1 y1 x2 y2 x3 y3 x4 y4 x5 y5 x6 y6 x7 y7 x8 y8
   go_loopw [6, 29] (fun pv i u => ∃ (j : Nat) (ps' : List aV), j ≤ o.np ∧ i = .int .i64 j ∧ Hid (ps'.length = j) ∧ Hid (u.ownsRow w7.heap.size 56 5 pv j (ps'.flatMap qQ)) ∧ Hid (∀ q, q < j → qC (o.ps.getD q aH) (ps'.getD q aH) ∧ nZ (fun b => b < w7.heap.size ∨ pv.ownBlock = some b) u (fun x => vV x (ps'.getD q aH))) ∧ Hid (Below w7.heap.size w7 u)) (fun _ i _ => o.np - (intOf i).toNat)
   case atStart => exact ⟨0, [], by omega, rfl, aa rfl, aa (World.ownsRow_nil _ _ _ _), aa (fun q h => absurd h (by omega)), aa (Below.refl _ _)⟩
   case round =>
    obtain ⟨j, ps', hj, rfl, QV, ZR, HPS, Dc⟩ := hrel
    obtain ⟨wi, rfl⟩ : ∃ wi : World, wi = wr := ⟨_, rfl⟩
    by_cases hlj : j < o.np
    ·
     obtain ⟨b2, f2, hA2, i0, i1, i2, i3, i4, i5⟩ := (ab3.out.below Dc.out) j (by rw [uh.out]; exact hlj)
     obtain ⟨p, hp⟩ : ∃ x, o.ps.getD j aH = x := ⟨_, rfl⟩
     have hps := HSO.out p (by rw [← hp]; exact zI (by rw [uh.out]; exact hlj))
     rw [hp] at i0 i1 i2 i3 i4 i5
     obtain ⟨l1, l2, s1, s2⟩ := i5
     have Vi := aa l1
     have HP2 := aa l2
     have HP3 : Hid (Sl (wi.alloc (oh p)) p.A p.al) := aa (s1.below (af _ _))
     have HP4 : Hid (Sl (wi.alloc (oh p)) p.Z p.zs) := aa (s2.below (af _ _))
     have hpa : p.na ≤ 100000 := by rw [← l1]; have := hps.1; omega
     have hpz : p.nz ≤ 100000 := by rw [← l2]; have := hps.2; omega
     have HPE := aa hp
     clear hp hps l1 l2 s1 s2
     have hbp : (wi.alloc (oh p)).heap[wi.heap.size]? = some (oh p) := heap_alloc_new _ _
     have HLP := aa hA2
     have qP : Hid (Below wi.heap.size wi (wi.alloc (oh p))) := aa (af _ _)
     have p0 := au hbp 0
     have q0 := av hbp 0
     have p1 := au hbp 1
     have q1 := av hbp 1
     have p2 := au hbp 2
     have q2 := av hbp 2
     have p3 := au hbp 3
     have q3 := av hbp 3
     have p4 := au hbp 4
     have q4 := av hbp 4
     clear hbp
     have k0 := cell_below i0 qP.out
     have k1 := cell_below i1 qP.out
     have k2 := cell_below i2 qP.out
     have k3 := cell_below i3 qP.out
     have k4 := cell_below i4 qP.out
     have x7 := (Yj.out.2.2.2.2.2.2.2.1.below Dc.out).1
     obtain ⟨wp, hwp⟩ : ∃ x, wi.alloc (oh p) = x := ⟨_, rfl⟩
     go_upto_region 10 with (fail)
     rw [hwp] at HP3 HP4 qP p0 p1 p2 p3 p4
     have YC : Hid (wp.heap.size = wi.heap.size + 1) := aa (by rw [← hwp]; simp)
     clear hwp hA2 i0 i1 i2 i3 i4 k0 k1 k2 k3 k4 q0 q1 q2 q3 q4 x7
     go_wp2_with fail
     refine (LU p Vi HP2 hpa hpz _ HP3 HP4).mono ?_
     rintro e w8 ⟨p', rfl, hsp, hlp, hda, hdz, VM⟩
     have abQ := aa hsp
     have YS := aa hlp
     have acG := aa hda
     have acD := aa hdz
     have Al : Hid (Below wp.heap.size wp w8) := aa VM
     clear hsp hlp hda hdz VM p0 p1 p2 p3 p4
     have Ov : Hid (Below wi.heap.size wi w8) := aa (ag qP.out Al.out)
     have ab0 : Hid (w8.ownsRow w7.heap.size 56 5 u6 j (ps'.flatMap qQ)) := aa (World.ownsRow.kept ZR.out (nM Ov.out none) (nD _))
     have hown : (w8.alloc (.cells #[.int .i64 p'.ix, .int .i64 p'.v, .slice p'.A p'.na p'.ca, .int .i64 p'.C, .slice p'.Z p'.nz p'.cz] 56)).ownsRow w7.heap.size 56 5 u6 j (ps'.flatMap qQ) := ab0.out.alloc _
     have b5 : j + 1 ≤ maxLen := by unfold maxLen; omega
     have b6 : (j + 1) * 72 ≤ 140737488355328 := by omega
     have b7 : w7.heap.size ≤ (w8.alloc (.cells #[.int .i64 p'.ix, .int .i64 p'.v, .slice p'.A p'.na p'.ca, .int .i64 p'.C, .slice p'.Z p'.nz p'.cz] 56)).heap.size := by have := Dc.out.size; have := Ov.out.size; simp; omega
     go_wp2_with (at_builtin; refine wpList_append_lies rfl _ _ 102 rfl w7.heap.size 56 i2 (.agg #[.int .i64 0, .int .i64 0, .slice none 0 0, .int .i64 0, .slice none 0 0]) 5 72 Tryz.underlying102 hi2 hx0 hx1 hx2 (by rfl) (by decide) _ _ _ rfl hown ⟨w8.heap.size, 0, none⟩ 1 1 [.int .i64 p'.ix, .int .i64 p'.v, .slice p'.A p'.na p'.ca, .int .i64 p'.C, .slice p'.Z p'.nz p'.cz] rfl rfl (World.news_of_block (cs := #[.int .i64 p'.ix, .int .i64 p'.v, .slice p'.A p'.na p'.ca, .int .i64 p'.C, .slice p'.Z p'.nz p'.cz]) (t := 56) (fr := (0, 0)) (heap_alloc_new w8 _)) (by simp [Value.oneCell']) (by decide) b5 b6 b7 _ rfl ?_; intro gg cap w9 mD fo vL Cw)
     have Zi : Hid (Below w8.heap.size w8 (w8.alloc (.cells #[.int .i64 p'.ix, .int .i64 p'.v, .slice p'.A p'.na p'.ca, .int .i64 p'.C, .slice p'.Z p'.nz p'.cz] 56))) := aa (af _ _)
     have Zv : ∀ b9, Value.ownBlock u6 = some b9 → w7.heap.size ≤ b9 ∧ b9 < wi.heap.size := fun b9 e => World.ownsRow.lt ZR.out _ e
     have hzz := Ov.out.size
     have hzw := Al.out.size
     have aeP := YC.out
     have hga : ∀ b9, (w8.alloc (.cells #[.int .i64 p'.ix, .int .i64 p'.v, .slice p'.A p'.na p'.ca, .int .i64 p'.C, .slice p'.Z p'.nz p'.cz] 56)).heap.size ≤ b9 ∨ Value.ownBlock u6 = some b9 → ((.slice (some ⟨gg, 0, none⟩) (j + 1) cap) : Value).ownBlock = some b9 → True := fun _ _ _ => trivial
     have hnew : ∀ b9, ((.slice (some ⟨gg, 0, none⟩) (j + 1) cap) : Value).ownBlock = some b9 → Value.ownBlock u6 = some b9 ∨ (w8.alloc (.cells #[.int .i64 p'.ix, .int .i64 p'.v, .slice p'.A p'.na p'.ca, .int .i64 p'.C, .slice p'.Z p'.nz p'.cz] 56)).heap.size ≤ b9 := fun b9 e => by
      cases e
      rcases vL with e | e
      · exact Or.inl e
      · exact Or.inr (show (w8.alloc (.cells #[.int .i64 p'.ix, .int .i64 p'.v, .slice p'.A p'.na p'.ca, .int .i64 p'.C, .slice p'.Z p'.nz p'.cz] 56)).heap.size ≤ gg by omega)
     have ab1 : Hid ((ps' ++ [p']).length = j + 1) := aa (by rw [List.length_append, QV.out]; rfl)
     have abZ : Hid (w9.ownsRow w7.heap.size 56 5 (.slice (some ⟨gg, 0, none⟩) (j + 1) cap) (j + 1) ((ps' ++ [p']).flatMap qQ)) := aa (by rw [List.flatMap_append]; simpa using mD)
     have H9 : Hid (Below w7.heap.size w7 w9) := aa (((ag Dc.out Ov.out).alloc (by have := Dc.out.size; omega) (.cells #[.int .i64 p'.ix, .int .i64 p'.v, .slice p'.A p'.na p'.ca, .int .i64 p'.C, .slice p'.Z p'.nz p'.cz] 56)).grown fo (by have := Dc.out.size; simp; omega) (fun b9 e => (Zv b9 e).1))
     have abX : Hid (∀ q, q < j + 1 → qC (o.ps.getD q aH) ((ps' ++ [p']).getD q aH) ∧ nZ (fun b => b < w7.heap.size ∨ ((.slice (some ⟨gg, 0, none⟩) (j + 1) cap) : Value).ownBlock = some b) w9 (fun x => vV x ((ps' ++ [p']).getD q aH))) := aa (fun q hq => by
      by_cases e : q = j
      ·
       subst e
       have e9 : (ps' ++ [p']).getD q aH = p' := by rw [List.getD_eq_getElem?_getD, List.getElem?_append_right (by rw [QV.out]; exact Nat.le_refl _), QV.out, Nat.sub_self]; rfl
       rw [e9, HPE.out]
       refine ⟨abQ.out, ?_⟩
       have hd := ((acG.out.and acD.out).imp (ψ := fun x => vV x p') (fun u9 h9 => ⟨YS.out.1, YS.out.2, h9.1, h9.2⟩)).below Zi.out
       refine hd.grown fo (fun b9 e => by have := (Zv b9 e).2; omega) (fun b9 xu e => ?_)
       have h77 := Dc.out.size
       rcases e with e | e
       · omega
       ·
        rcases hnew b9 e with e | e
        · have := (Zv b9 e).2; omega
        · omega
      ·
       have e9 : (ps' ++ [p']).getD q aH = ps'.getD q aH := by rw [List.getD_eq_getElem?_getD, List.getElem?_append_left (by rw [QV.out]; omega), ← List.getD_eq_getElem?_getD]
       rw [e9]
       obtain ⟨h8, h9⟩ := HPS.out q (by omega)
       refine ⟨h8, ((h9.below Ov.out).below Zi.out).grown fo (fun b9 e => .inr e) (fun b9 xu e => ?_)⟩
       rcases e with e | e
       · exact .inl e
       ·
        rcases hnew b9 e with e | e
        · exact .inr e
        · omega)
     clear hown mD fo vL Cw hnew hga Zv b5 b6 b7
     go_wp2
     go_roundw
     case rel => exact ⟨j + 1, _, by omega, by go_num, ab1, abZ, abX, H9⟩
     case measure => simp [intOf]; omega
    ·
     obtain rfl : j = o.np := by omega
     obtain ⟨L3, Bv, hv3, hc3, Xq⟩ := iX ZR.out
     subst hv3
     have Oq := aa hc3
     have Ra := aa Xq
     clear hc3 Xq
     have HXi : Hid (Own wi ⟨X, 0, none⟩ (.int .i64 o.num) ∧ Own wi ⟨X, 1, none⟩ (.string o.rs) ∧ Own wi ⟨X, 2, none⟩ (.int .i64 o.E1) ∧ Own wi ⟨X, 3, none⟩ (.int .i64 o.E2) ∧ Own wi ⟨X, 4, none⟩ (.slice A2 o.na CQ) ∧ Own wi ⟨X, 5, none⟩ (.int .i64 o.C) ∧ Own wi ⟨X, 6, none⟩ (.slice Z2 o.nz CL) ∧ Own wi ⟨X, 7, none⟩ (.slice o.L o.np o.cp) ∧ Own wi ⟨X, 8, none⟩ (.int .i64 o.key)) := aa (by
      obtain ⟨X0, X1, X2, X3, X4, X5, X6, X7, X8⟩ := Yj.out
      exact ⟨X0.below Dc.out, X1.below Dc.out, X2.below Dc.out, X3.below Dc.out, X4.below Dc.out, X5.below Dc.out, X6.below Dc.out, X7.below Dc.out, X8.below Dc.out⟩)
     obtain ⟨⟨x0, y0⟩, ⟨x1, y1⟩, ⟨x2, y2⟩, ⟨x3, y3⟩, ⟨x4, y4⟩, ⟨x5, y5⟩, ⟨x6, y6⟩, ⟨x7, y7⟩, ⟨x8, y8⟩⟩ := HXi.out
     go_upto_region 13 with (fail)
     clear x0 y0 x1 y1 x2 y2 x3 y3 x4 y4 x5 y5 x6 y6 x7 y7 x8 y8
     obtain ⟨w8, hw8⟩ : ∃ x, wi.setCell ⟨X, 7, none⟩ (.slice L3 o.np Bv) = x := ⟨_, rfl⟩
     have HX8 : Hid (Own w8 ⟨X, 0, none⟩ (.int .i64 o.num) ∧ Own w8 ⟨X, 1, none⟩ (.string o.rs) ∧ Own w8 ⟨X, 2, none⟩ (.int .i64 o.E1) ∧ Own w8 ⟨X, 3, none⟩ (.int .i64 o.E2) ∧ Own w8 ⟨X, 4, none⟩ (.slice A2 o.na CQ) ∧ Own w8 ⟨X, 5, none⟩ (.int .i64 o.C) ∧ Own w8 ⟨X, 6, none⟩ (.slice Z2 o.nz CL) ∧ Own w8 ⟨X, 7, none⟩ (.slice L3 o.np Bv) ∧ Own w8 ⟨X, 8, none⟩ (.int .i64 o.key)) := aa (by
      obtain ⟨X0, X1, X2, X3, X4, X5, X6, X7, X8⟩ := HXi.out
      rw [← hw8]
      exact ⟨ak X0 (by simp), ak X1 (by simp), ak X2 (by simp), ak X3 (by simp), ak X4 (by simp), ak X5 (by simp), ak X6 (by simp), bu X7, ak X8 (by simp)⟩)
     have hX7 : X < w5.heap.size := by have := KH.out; omega
     have hZi : w7.heap.size ≤ wi.heap.size := Dc.out.size
     have hZ8 : w8.heap.size = wi.heap.size := by rw [← hw8, World.size_setCell]
     have hXo : wo.heap.size = X := QL.out
     have qP : Hid (Below wo.heap.size wo w8) := aa (by rw [← hw8]; exact (ag uo.out Dc.out).setCell (show wo.heap.size ≤ X by omega) _)
     have HQ8 : Hid (xA B (fun b => (0 ≤ b ∧ b < X) ∨ (Value.slice L3 o.np Bv).ownBlock = some b) w8 { o with A := A2, ca := CQ, Z := Z2, cz := CL, L := L3, cp := Bv, ps := ps' }) := aa (by
      have hbg : Below w7.heap.size w7 wi := Dc.out
      have TY := HZ7.out
      have h5 := KH.out
      refine ⟨Ak.out, HLZ.out, QV.out, Oq.out, ?_, ?_, ?_, ?_⟩
      ·
       refine acH.out.step (by omega) (fun b9 xu hn9 => ?_) (fun b9 xu e => ?_)
       · rw [← hw8]; exact (Go.Deep.blk_setCell_other _ _ _ _ (show b9 ≠ X by omega)).trans (hbg.block b9 xu)
       ·
        rcases e with e | e
        · omega
        · have := (Ra.out b9 e).1; omega
      ·
       refine acE.out.step (by omega) (fun b9 xu hn9 => ?_) (fun b9 xu e => ?_)
       · rw [← hw8]; exact (Go.Deep.blk_setCell_other _ _ _ _ (show b9 ≠ X by omega)).trans (hbg.block b9 xu)
       ·
        rcases e with e | e
        · omega
        · have := (Ra.out b9 e).1; omega
      ·
       intro w' h' q hq
       refine ((HPS.out q (by rw [← QV.out]; exact hq)).2.step (by omega) (fun b9 xu hn9 => ?_) (fun b9 xu e => ?_)) w' h'
       · rw [← hw8]; exact Go.Deep.blk_setCell_other _ _ _ _ (show b9 ≠ X from fun e9 => hn9 (Or.inl (show b9 < w7.heap.size by omega)))
       ·
        rcases e with e | e
        · exact Or.inl (by omega)
        · exact Or.inr e
      ·
       rw [← hw8]
       exact World.ownsRow.kept (vv ZR.out (by omega)) (iQ _ _ _ _) (Or.inr (fun e => by have := (Ra.out _ e).1; omega)))
     rw [hw8]
     clear hw8
     have HV8 : Hid (Own w8 ⟨B, 0, none⟩ v) := aa (HV.out.below qP.out)
     have abB : Hid (Own w8 ⟨B, 1, none⟩ (.slice K1 m d1)) := aa (qF.out.below qP.out)
     have Kn : Hid (w8.ownsRow (B + 1) 104 9 v k (os'.flatMap lQ)) := aa (World.ownsRow.kept HO.out (nM qP.out none) (nD _))
     have MF : ∀ b9, v.ownBlock = some b9 → B + 1 ≤ b9 ∧ b9 < X := fun b9 e => by have := World.ownsRow.lt HO.out _ e; rw [hXo] at this; exact this
     have hBX : B < X := by omega
     have aeH := qP.out.size
     have abw := aa hZ8
     obtain ⟨⟨x0, y0⟩, ⟨x1, y1⟩, ⟨x2, y2⟩, ⟨x3, y3⟩, ⟨x4, y4⟩, ⟨x5, y5⟩, ⟨x6, y6⟩, ⟨x7, y7⟩, ⟨x8, y8⟩⟩ := HX8.out
     obtain ⟨v3, FJ⟩ := HV8.out
     have hown : (w8.alloc (.cells #[.int .i64 o.num, .string o.rs, .int .i64 o.E1, .int .i64 o.E2, .slice A2 o.na CQ, .int .i64 o.C, .slice Z2 o.nz CL, .slice L3 o.np Bv, .int .i64 o.key] 104)).ownsRow (B + 1) 104 9 v k (os'.flatMap lQ) := Kn.out.alloc _
     have hno : v.ownBlock ≠ some B := fun e => by have := (MF _ e).1; omega
     have b5 : k + 1 ≤ maxLen := by unfold maxLen; omega
     have b6 : (k + 1) * 128 ≤ 140737488355328 := by omega
     have b7 : B + 1 ≤ (w8.alloc (.cells #[.int .i64 o.num, .string o.rs, .int .i64 o.E1, .int .i64 o.E2, .slice A2 o.na CQ, .int .i64 o.C, .slice Z2 o.nz CL, .slice L3 o.np Bv, .int .i64 o.key] 104)).heap.size := by simp; omega
     clear hZ8
     go_wp2_with (at_builtin; refine wpList_append_lies rfl _ _ 49 rfl (B + 1) 104 i1 (.agg #[.int .i64 0, .string ⟨#[]⟩, .int .i64 0, .int .i64 0, .slice none 0 0, .int .i64 0, .slice none 0 0, .slice none 0 0, .int .i64 0]) 9 128 Tryz.underlying49 hi1 hy0 hy1 hy2 (by rfl) (by decide) _ _ _ rfl hown ⟨w8.heap.size, 0, none⟩ 1 1 [.int .i64 o.num, .string o.rs, .int .i64 o.E1, .int .i64 o.E2, .slice A2 o.na CQ, .int .i64 o.C, .slice Z2 o.nz CL, .slice L3 o.np Bv, .int .i64 o.key] rfl rfl (World.news_of_block (cs := #[.int .i64 o.num, .string o.rs, .int .i64 o.E1, .int .i64 o.E2, .slice A2 o.na CQ, .int .i64 o.C, .slice Z2 o.nz CL, .slice L3 o.np Bv, .int .i64 o.key]) (t := 104) (fr := (0, 0)) (heap_alloc_new w8 _)) (by simp [Value.oneCell']) (by decide) b5 b6 b7 _ rfl ?_; intro gg cap w9 mD fo vL Cw; obtain ⟨p1, p2⟩ := aO (HV8.out.below (af w8 (.cells #[.int .i64 o.num, .string o.rs, .int .i64 o.E1, .int .i64 o.E2, .slice A2 o.na CQ, .int .i64 o.C, .slice Z2 o.nz CL, .slice L3 o.np Bv, .int .i64 o.key] 104))) fo hno)
     have hZ8 := abw.out
     have hgz : (w8.alloc (.cells #[.int .i64 o.num, .string o.rs, .int .i64 o.E1, .int .i64 o.E2, .slice A2 o.na CQ, .int .i64 o.C, .slice Z2 o.nz CL, .slice L3 o.np Bv, .int .i64 o.key] 104)).heap.size ≤ w9.heap.size := fo.size
     have hsq : (w8.alloc (.cells #[.int .i64 o.num, .string o.rs, .int .i64 o.E1, .int .i64 o.E2, .slice A2 o.na CQ, .int .i64 o.C, .slice Z2 o.nz CL, .slice L3 o.np Bv, .int .i64 o.key] 104)).heap.size = w8.heap.size + 1 := by simp
     have hlen : (os' ++ [{ o with A := A2, ca := CQ, Z := Z2, cz := CL, L := L3, cp := Bv, ps := ps' }]).length = k + 1 := by rw [List.length_append, qH.out]; rfl
     have Rx : ∀ b9, ((.slice (some ⟨gg, 0, none⟩) (k + 1) cap) : Value).ownBlock = some b9 → v.ownBlock = some b9 ∨ w8.heap.size ≤ b9 := fun b9 e => by
      cases e
      rcases vL with e | e
      · exact Or.inl e
      · exact Or.inr (show w8.heap.size ≤ gg by omega)
     have aav : ((w9.setCell ⟨B, 0, none⟩ (.slice (some ⟨gg, 0, none⟩) (k + 1) cap)) : World).heap.size = w9.heap.size := World.size_setCell _ _ _
     have Gs : ∀ b9, b9 < w8.heap.size → b9 ≠ B → v.ownBlock ≠ some b9 → ((w9.setCell ⟨B, 0, none⟩ (.slice (some ⟨gg, 0, none⟩) (k + 1) cap)) : World).heap[b9]? = w8.heap[b9]? := fun b9 h1 h2 h3 => (Go.Deep.blk_setCell_other _ _ _ _ h2).trans ((fo.block b9 (by omega) (fun e => h3 e.symm)).trans ((af w8 (.cells #[.int .i64 o.num, .string o.rs, .int .i64 o.E1, .int .i64 o.E2, .slice A2 o.na CQ, .int .i64 o.C, .slice Z2 o.nz CL, .slice L3 o.np Bv, .int .i64 o.key] 104)).block b9 h1))
     have VS : Hid ((w9.setCell ⟨B, 0, none⟩ (.slice (some ⟨gg, 0, none⟩) (k + 1) cap)).ownsRow (B + 1) 104 9 (.slice (some ⟨gg, 0, none⟩) (k + 1) cap) (k + 1) ((os' ++ [{ o with A := A2, ca := CQ, Z := Z2, cz := CL, L := L3, cp := Bv, ps := ps' }]).flatMap lQ)) := aa (World.ownsRow.kept (by rw [List.flatMap_append]; simpa using mD) (iQ _ _ _ _) (Or.inr (fun e => by have := (World.ownsRow.lt mD _ e).1; omega)))
     have U5 : Hid (Own (w9.setCell ⟨B, 0, none⟩ (.slice (some ⟨gg, 0, none⟩) (k + 1) cap)) ⟨B, 0, none⟩ (.slice (some ⟨gg, 0, none⟩) (k + 1) cap)) := aa (bu ⟨p1, p2⟩)
     have U6 : Hid (Own (w9.setCell ⟨B, 0, none⟩ (.slice (some ⟨gg, 0, none⟩) (k + 1) cap)) ⟨B, 1, none⟩ (.slice K1 m d1)) := aa (ak (aO (abB.out.below (af w8 (.cells #[.int .i64 o.num, .string o.rs, .int .i64 o.E1, .int .i64 o.E2, .slice A2 o.na CQ, .int .i64 o.C, .slice Z2 o.nz CL, .slice L3 o.np Bv, .int .i64 o.key] 104))) fo hno) (by simp))
     have HG9 : Hid (Fb 0 ix B (.slice (some ⟨gg, 0, none⟩) (k + 1) cap) (if k = ix then (Value.slice L3 o.np Bv).ownBlock else Li) os (os' ++ [{ o with A := A2, ca := CQ, Z := Z2, cz := CL, L := L3, cp := Bv, ps := ps' }]) (k + 1) (w9.setCell ⟨B, 0, none⟩ (.slice (some ⟨gg, 0, none⟩) (k + 1) cap))) := aa (Fb.push (S := X) (u := wo) (u7 := w8) (o' := { o with A := A2, ca := CQ, Z := Z2, cz := CL, L := L3, cp := Bv, ps := ps' }) HG.out qH.out hXo hBX (Nat.zero_le _) (fun b9 e => by have := MF b9 e; omega) (by omega) (by omega) (fun b9 h1 h2 h3 => (Gs b9 (by omega) (by omega) h3).trans (qP.out.block b9 (by omega))) (fun b9 h1 h2 => Gs b9 h2 (by omega) (fun e => by have := (MF _ e).2; omega)) Rx (by rw [mY.out]; exact ⟨rfl, rfl, rfl, rfl, rfl, rfl, rfl, rfl, rfl, rfl, rfl, by rw [uh.out]; exact QV.out, fun q hq => (HPS.out q (by rw [← uh.out]; exact hq)).1⟩) HQ8.out (fun b9 e => by have h1 := Ra.out b9 e; have h2 := HZ7.out; have h3 := KH.out; omega))
     have Al : Hid (Below B W (w9.setCell ⟨B, 0, none⟩ (.slice (some ⟨gg, 0, none⟩) (k + 1) cap))) := aa ((((aF.out.trans (qP.out.mono (by omega))).alloc (by omega) (.cells #[.int .i64 o.num, .string o.rs, .int .i64 o.E1, .int .i64 o.E2, .slice A2 o.na CQ, .int .i64 o.C, .slice Z2 o.nz CL, .slice L3 o.np Bv, .int .i64 o.key] 104)).grown fo (by simp; omega) (fun j hj => by have := (MF j hj).1; omega)).setCell (Nat.le_refl _) _)
     have VB := aa hlen
     clear hown mD fo vL Cw Rx Gs p1 p2 b5 b6 b7 hno v3 FJ x0 y0 x1 y1 x2 y2 x3 y3 x4 y4 x5 y5 x6 y6 x7 y7 x8 y8 MF
     go_wp2
     go_roundw
     case rel => exact ⟨k + 1, _, _, (if k = ix then (Value.slice L3 o.np Bv).ownBlock else Li), by omega, by go_num, VB, U5, U6, VS, HG9, Al⟩
     case measure => simp [intOf]; omega
  ·
   obtain rfl : k = n := by omega
   obtain ⟨A3, c3, hv3, hc3, Xr⟩ := iX HO.out
   subst hv3
   obtain ⟨A4, c4, hv4, hc4, hbk⟩ := QZ.out
   cases hv4
   have Vs : Hid (wo.ownsRow w0.heap.size 41 32 (.slice K1 m d1) m (hs.flatMap oN)) := aa (own_below (World.ownsRow.kept HK1.out (nM HKW.out none) (nD _)) aF.out (fun b9 e => by have := (hbk b9 e).2; have := Hf.out; omega))
   have jF : Hid (wo.heap[w.heap.size + 1]? = some (.cells #[.slice none 0 0, .slice none 0 0] 52)) := nT.out _ iK
   have R8 := aa Xr
   have Rc := aa hbk
   have Oq := aa hc3
   have VY := aa hc4
   obtain ⟨v3, FJ⟩ := HV.out
   obtain ⟨v4, v4f⟩ := qF.out
   clear Xr hbk hc3 hc4
   have zc := kC.out _ iK
   go_wp2_with ((with_reducible show wpList _ _ _ (⟨none, _, _, _, _, _⟩ :: _) _ _); refine wpList_store_row rfl 52 _ _ rfl (w.heap.size + 1) #[.slice A3 k c3, .slice K1 m d1] rfl rfl _ _ jF.out (by kernel_rfl) rfl (by simp [Value.oneCell']) ?_)
   have hrw := setRow_heap _ _ _ #[.slice A3 k c3, .slice K1 m d1] _ _ jF.out
   have bV := ai (ag aj.out iK.out) (cs := #[.slice A3 k c3, .slice K1 m d1]) (Nat.le_add_right w.heap.size 1)
   have h0 := jO.out
   have hw1 := Hf.out
   have hw0 : w.heap.size ≤ w0.heap.size := by omega
   have hzs : (wo.setRow (w.heap.size + 1) #[.slice A3 k c3, .slice K1 m d1]).heap.size = wo.heap.size := by simp [World.setRow]
   refine bodyPost_ret (v := gI A3 k c3 K1 m d1) (aD (p := 2) (ty := 52) rfl _ _ ⟨w.heap.size + 1, 0, none⟩ _ rfl (run_loadVar_row _ _ _ _ _ _ _ hrw Tryz.underlying52 rfl (by kernel_rfl))) rfl ⟨A3, c3, K1, d1, os', B, Li, rfl, Ny qH.out Oq.out VY.out (Nat.zero_le _) (by omega) (by omega) ?_ ?_ (fun b9 e => ?_) ?_, bV⟩
   · exact World.ownsRow.kept HO.out (gV _ _ _) (Or.inr (fun e => by have := (R8.out _ e).1; omega))
   · exact World.ownsRow.kept (vv Vs.out hw0) (gV _ _ _) (Or.inr (fun e => by have := (Rc.out _ e).1; omega))
   ·
    have := (Rc.out _ e).2
    omega
   · exact HG.out.shut (by rw [hzs]; exact Nat.le_refl _) (fun b9 h1 h2 => setRow_other _ _ _ _ (by omega))
theorem sN {w : World} {B : Option Addr} {xs : List Int} {n c : Nat} (h : Sk .u8 w B xs) (hn : xs.length = n) : (convert 114 9 (.slice B n c)).run Tryz.prog w = .ok (.string (strOfNums xs)) w := by
 by_cases h0 : 0 < n
 ·
  obtain ⟨b, o, rfl, _⟩ := h 0 (by omega)
  refine run_convert_bytes_arg (P := Tryz.prog) w 114 5 Tryz.underlying114 Tryz.underlying5 b o n c xs hn (fun i hi => ?_) 9 Tryz.underlying9
  obtain ⟨b', o', e, hc⟩ := h i (by omega)
  cases e
  exact hc
 ·
  obtain rfl : n = 0 := by omega
  obtain rfl : xs = [] := List.eq_nil_of_length_eq_zero hn
  cases B with
  | none => exact run_convert_bytes_nil (P := Tryz.prog) w 114 5 Tryz.underlying114 Tryz.underlying5 0 c 9 Tryz.underlying9
  | some a =>
   rw [run_convert_bytes_string w 114 9 5 _ 0 c Tryz.underlying114 Tryz.underlying5 Tryz.underlying9, run_bytesToString w a 0 c [] (run_loadCells_list (P := Tryz.prog) w a [] (fun j v hj => by simp at hj))]
   rfl
theorem BQ (w : World) (B : Option Addr) : Sk .u8 w B [] := fun k hk => absurd hk (by simp)
theorem Wl (nn : Int) (B1 : Option Addr) (NN : Nat) (L1 : Option Addr) (RO : Nat) (B2 : Option Addr) (Az : Nat) (L2 : Option Addr) (Dr : Nat) (w : World) :
  Calls Tryz.prog 81 #[.agg #[.int .i64 1, .int .i64 nn, .slice B1 0 NN, .slice L1 0 RO], .agg #[.int .i64 1, .int .i64 nn, .slice B2 0 Az, .slice L2 0 Dr]] w (Rt w (.bool true)) := by
 obtain ⟨w0, HW, aj, kC⟩ := st2 (.cells #[.int .i64 1, .int .i64 nn, .slice B1 0 NN, .slice L1 0 RO] 117) bp4 (.cells #[.int .i64 1, .int .i64 nn, .slice B2 0 Az, .slice L2 0 Dr] 117) bq4 w
 have ah := bP w0
 have hc1 : (convert 114 9 (.slice B1 0 NN)).run Tryz.prog w0 = .ok (.string (strOfNums [])) w0 := sN (BQ w0 B1) rfl
 have hc2 : (convert 114 9 (.slice B2 0 Az)).run Tryz.prog w0 = .ok (.string (strOfNums [])) w0 := sN (BQ w0 B2) rfl
 go_in
 go_upto_region 1 with (fail)
 rw [HW.out]
 have zc := kC.out _ ah
 go_wp2
 clear zc
 go_loopw [5] (fun i u => i = .int .i64 0 ∧ u = w0) (fun _ _ => 0)
 case atStart => exact ⟨rfl, rfl⟩
 case round =>
  obtain ⟨rfl, rfl⟩ := hrel
  have zc := kC.out _ ah
  have bV := aj.out
  go_wp2
  go_ret
  exact ⟨rfl, bV⟩
theorem Wm (l : List Int) (n : Nat) (hn : Hid (l.length = n)) (B1 : Option Addr) (NN : Nat) (L1 : Option Addr) (RO : Nat) (B2 : Option Addr) (Az : Nat) (L2 : Option Addr) (Dr : Nat) (w : World) (h1 : Hid (Sk .u8 w B1 l)) (h2 : Hid (Sk .u8 w B2 l)) :
  Calls Tryz.prog 81 #[.agg #[.int .i64 2, .int .i64 0, .slice B1 n NN, .slice L1 0 RO], .agg #[.int .i64 2, .int .i64 0, .slice B2 n Az, .slice L2 0 Dr]] w (Rt w (.bool true)) := by
 obtain ⟨w0, HW, aj, kC⟩ := st2 (.cells #[.int .i64 2, .int .i64 0, .slice B1 n NN, .slice L1 0 RO] 117) bp4 (.cells #[.int .i64 2, .int .i64 0, .slice B2 n Az, .slice L2 0 Dr] 117) bq4 w
 have kS1 := fq (fun u => Sk .u8 u B1 l) aj h1 (·.below)
 have kS2 := fq (fun u => Sk .u8 u B2 l) aj h2 (·.below)
 have ah := bP w0
 clear h1 h2
 have hc1 : (convert 114 9 (.slice B1 n NN)).run Tryz.prog w0 = .ok (.string (strOfNums l)) w0 := sN (kS1.out _ ah).out hn.out
 have hc2 : (convert 114 9 (.slice B2 n Az)).run Tryz.prog w0 = .ok (.string (strOfNums l)) w0 := sN (kS2.out _ ah).out hn.out
 obtain ⟨sl, hsl⟩ : ∃ x, strOfNums l = x := ⟨_, rfl⟩
 rw [hsl] at hc1 hc2
 clear hsl
 go_in
 go_upto_region 1 with (fail)
 rw [HW.out]
 have zc := kC.out _ ah
 go_wp2
 clear zc
 go_loopw [5] (fun i u => i = .int .i64 0 ∧ u = w0) (fun _ _ => 0)
 case atStart => exact ⟨rfl, rfl⟩
 case round =>
  obtain ⟨rfl, rfl⟩ := hrel
  have zc := kC.out _ ah
  have bV := aj.out
  go_wp2
  go_ret
  exact ⟨rfl, bV⟩
theorem aag (l : List It) (n : Nat) (hn : Hid (l.length = n)) (hn1 : n ≤ 1000) (f1 f2 : Nat → Ic) (B1 : Option Addr) (NN : Nat) (L1 : Option Addr) (RO : Nat) (B2 : Option Addr) (Az : Nat) (L2 : Option Addr) (Dr : Nat) (w : World) (h5 : Hid (∀ k, k < l.length → ∃ b o, L1 = some ⟨b, o, none⟩ ∧ Four w b (o + k * 4) (f1 k))) (h6 : Hid (∀ k, k < l.length → ∃ b o, L2 = some ⟨b, o, none⟩ ∧ Four w b (o + k * 4) (f2 k)))
  (ih : Hid (∀ k, k < l.length → ∀ u, Below w.heap.size w u → Calls Tryz.prog 81 #[(f1 k).val, (f2 k).val] u fun e w' => e = .returned (.bool true) ∧ Below u.heap.size u w')) :
  Calls Tryz.prog 81 #[.agg #[.int .i64 3, .int .i64 0, .slice B1 0 NN, .slice L1 n RO], .agg #[.int .i64 3, .int .i64 0, .slice B2 0 Az, .slice L2 n Dr]] w (Rt w (.bool true)) := by
 obtain ⟨w0, HW, aj, kC⟩ := st2 (.cells #[.int .i64 3, .int .i64 0, .slice B1 0 NN, .slice L1 n RO] 117) bp4 (.cells #[.int .i64 3, .int .i64 0, .slice B2 0 Az, .slice L2 n Dr] 117) bq4 w
 have ah := bP w0
 have hc1 : (convert 114 9 (.slice B1 0 NN)).run Tryz.prog w0 = .ok (.string (strOfNums [])) w0 := sN (BQ w0 B1) rfl
 have hc2 : (convert 114 9 (.slice B2 0 Az)).run Tryz.prog w0 = .ok (.string (strOfNums [])) w0 := sN (BQ w0 B2) rfl
 go_in
 go_upto_region 1 with (fail)
 rw [HW.out]
 have zc := kC.out _ ah
 go_wp2
 clear zc
 go_loopw [5] (fun i u => ∃ k : Nat, k ≤ n ∧ i = .int .i64 k ∧ Hid (Below w0.heap.size w0 u)) (fun i _ => n - (intOf i).toNat)
 case atStart => exact ⟨0, by omega, rfl, aa (Below.refl _ _)⟩
 case round =>
  obtain ⟨k, hk, rfl, aF⟩ := hrel
  by_cases hlt : k < n
  ·
   have hkl : k < l.length := by rw [hn.out]; exact hlt
   obtain ⟨a1, o1, e1, q1⟩ := h5.out k hkl
   obtain ⟨a2, o2, e2, q2⟩ := h6.out k hkl
   subst e1
   subst e2
   have Hy := aa (ih.out k hkl)
   obtain ⟨⟨kd1, nn1, B3, nb3, cb3, L3, nl3, cl3⟩, Xm⟩ : ∃ x, f1 k = x := ⟨_, rfl⟩
   obtain ⟨⟨TM, TF, B4, nb4, cb4, L4, nl4, cl4⟩, Xl⟩ : ∃ x, f2 k = x := ⟨_, rfl⟩
   rw [Xm] at q1 Hy
   rw [Xl] at q2 Hy
   have QU := aa q1
   have oU := aa q2
   clear hkl q1 q2 Xm Xl hc1 hc2
   have kE := aa (show ∀ u : World, Hid (Below w0.heap.size w0 u) → u.cell? ⟨a1, o1 + k * 4, none⟩ = some (.int .i64 kd1) ∧ u.cell? ⟨a1, o1 + k * 4 + 1, none⟩ = some (.int .i64 nn1) ∧ u.cell? ⟨a1, o1 + k * 4 + 2, none⟩ = some (.slice B3 nb3 cb3) ∧ u.cell? ⟨a1, o1 + k * 4 + 3, none⟩ = some (.slice L3 nl3 cl3) ∧ u.cell? ⟨a2, o2 + k * 4, none⟩ = some (.int .i64 TM) ∧ u.cell? ⟨a2, o2 + k * 4 + 1, none⟩ = some (.int .i64 TF) ∧ u.cell? ⟨a2, o2 + k * 4 + 2, none⟩ = some (.slice B4 nb4 cb4) ∧ u.cell? ⟨a2, o2 + k * 4 + 3, none⟩ = some (.slice L4 nl4 cl4) from fun u h => by
    obtain ⟨r0, r1, r2, r3⟩ := (QU.out.below (ag aj.out h.out)).get
    obtain ⟨s0, s1, s2, s3⟩ := (oU.out.below (ag aj.out h.out)).get
    exact ⟨r0, r1, r2, r3, s0, s1, s2, s3⟩)
   have kIH := aa (show ∀ u : World, Hid (Below w0.heap.size w0 u) → Hid (Calls Tryz.prog 81 #[.agg #[.int .i64 kd1, .int .i64 nn1, .slice B3 nb3 cb3, .slice L3 nl3 cl3], .agg #[.int .i64 TM, .int .i64 TF, .slice B4 nb4 cb4, .slice L4 nl4 cl4]] u fun e w' => e = .returned (.bool true) ∧ Below u.heap.size u w') from fun u h => aa (Hy.out u (ag aj.out h.out)))
   have zc := kC.out _ aF
   have Ff := kE.out _ aF
   go_upto_region 6 with (fail)
   clear zc Ff
   have hO := aa (fun (u : World) (h : Hid (Below w0.heap.size w0 u)) => And.intro (kC.out u h) (kE.out u h))
   refine iW [] aF (fun hHeld => ?_)
   refine aU 0 1 2 3 ?_
   refine aU 4 5 6 7 ?_
   refine aL 8 ?_
   refine aL 9 ?_
   refine bY 10 fun K hK => ?_
   go_simp
   refine (((kIH.out _ hHeld)).out).mono ?_
   rintro e wA ⟨rfl, bS⟩
   refine hK.out _ _ (bF hHeld bS) (fun hHeld => ?_)
   clear hK K
   refine aL 11 ?_
   refine gH ?_
   clear hO
   have bI := hHeld
   clear hHeld
   have zc := kC.out _ bI
   have Ff := kE.out _ bI
   have OI := bI
   clear zc Ff
   go_wp2
   go_roundw
   case rel => exact ⟨k + 1, by omega, by go_num, OI⟩
   case measure => simp [intOf]; omega
  ·
   have hke : k = n := by omega
   have zc := kC.out _ aF
   go_wp2
   go_ret
   exact ⟨rfl, gy aj aF⟩
theorem FP : ∀ (d : Nat) (i : It) (a b : Ic) (w : World), fits d i → nV w i a → nV w i b → Calls Tryz.prog 81 #[a.val, b.val] w (Rt w (.bool true)) := by
 intro d
 induction d with
 | zero =>
  intro i a b w hf hr hs
  cases hr with
  | int n c h1 h2 h3 h4 =>
   cases hs with
   | int n c2 g1 g2 g3 g4 =>
    obtain ⟨kd, nn, B, nb, cb, L, nl, cl⟩ := a
    obtain ⟨TM, TF, B2, Zr, Az, L2, Zq, Dr⟩ := b
    dsimp only at h1 h2 h3 h4 g1 g2 g3 g4
    subst h1; subst h2; subst h3; subst h4; subst g1; subst g2; subst g3; subst g4
    exact Wl _ B cb L cl B2 Az L2 Dr w
  | byt l c h1 h2 h3 h4 h5 =>
   cases hs with
   | byt l c2 g1 g2 g3 g4 g5 =>
    obtain ⟨kd, nn, B, nb, cb, L, nl, cl⟩ := a
    obtain ⟨TM, TF, B2, Zr, Az, L2, Zq, Dr⟩ := b
    dsimp only at h1 h2 h3 h4 h5 g1 g2 g3 g4 g5
    subst h1; subst h2; subst h3; subst h4; subst g1; subst g2; subst g3; subst g4
    exact Wm l l.length (aa rfl) B cb L cl B2 Az L2 Dr w (aa h5) (aa g5)
  | lst l c h1 h2 h3 h4 f h5 h6 => exact absurd hf (by simp [fits])
 | succ d ihd =>
  intro i a b w hf hr hs
  cases hr with
  | int n c h1 h2 h3 h4 =>
   cases hs with
   | int n c2 g1 g2 g3 g4 =>
    obtain ⟨kd, nn, B, nb, cb, L, nl, cl⟩ := a
    obtain ⟨TM, TF, B2, Zr, Az, L2, Zq, Dr⟩ := b
    dsimp only at h1 h2 h3 h4 g1 g2 g3 g4
    subst h1; subst h2; subst h3; subst h4; subst g1; subst g2; subst g3; subst g4
    exact Wl _ B cb L cl B2 Az L2 Dr w
  | byt l c h1 h2 h3 h4 h5 =>
   cases hs with
   | byt l c2 g1 g2 g3 g4 g5 =>
    obtain ⟨kd, nn, B, nb, cb, L, nl, cl⟩ := a
    obtain ⟨TM, TF, B2, Zr, Az, L2, Zq, Dr⟩ := b
    dsimp only at h1 h2 h3 h4 h5 g1 g2 g3 g4 g5
    subst h1; subst h2; subst h3; subst h4; subst g1; subst g2; subst g3; subst g4
    exact Wm l l.length (aa rfl) B cb L cl B2 Az L2 Dr w (aa h5) (aa g5)
  | lst l c h1 h2 h3 h4 f h5 h6 =>
   cases hs with
   | lst l c2 g1 g2 g3 g4 f2 g5 g6 =>
    obtain ⟨kd, nn, B, nb, cb, L, nl, cl⟩ := a
    obtain ⟨TM, TF, B2, Zr, Az, L2, Zq, Dr⟩ := b
    dsimp only at h1 h2 h3 h4 h5 g1 g2 g3 g4 g5
    subst h1; subst h2; subst h3; subst h4; subst g1; subst g2; subst g3; subst g4
    refine aag l l.length (aa rfl) hf.1 f f2 B cb L cl B2 Az L2 Dr w (aa h5) (aa g5) (aa fun k hk u hu => ?_)
    exact ihd _ (f k) (f2 k) u (hf.2 _ (by rw [List.getD_eq_getElem?_getD, List.getElem?_eq_getElem hk]; exact List.getElem_mem hk)) ((h6 k hk).kept hu) ((g6 k hk).kept hu)
theorem qd (O1 : Option Addr) (os1 : List az) (c1 : Nat) (K1 : Option Addr) (d1 : Nat) (O2 : Option Addr) (os2 : List az) (c2 : Nat) (K2 : Option Addr) (d2 : Nat) (n : Nat) (hs : List (List Int)) (m : Nat) (hn1 : Hid (os1.length = n)) (hn2 : Hid (os2.length = n)) (hm : Hid (hs.length = m)) (hb1 : n ≤ 1000000) (hb2 : m ≤ 1000000) (hS : Hid (∀ k, k < n → fH (bL os1 k) ∧ fH (bL os2 k) ∧ dJ (bL os1 k) ∧ xk (bL os1 k) = xk (bL os2 k))) (w : World) (hO1 : Hid (Os w O1 os1)) (hK1 : Hid (Hs w K1 hs)) (hO2 : Hid (Os w O2 os2)) (hK2 : Hid (Hs w K2 hs)) :
  Calls Tryz.prog 26 #[gI O1 n c1 K1 m d1, gI O2 n c2 K2 m d2] w (Rt w (.bool true)) := by
 obtain ⟨w0, HW, aj, kC⟩ := st2 (jh O1 n c1 K1 m d1) rq (jh O2 n c2 K2 m d2) qA w
 have kO1 := fq (fun u => Os u O1 os1) aj hO1 (·.below)
 have kH1 := fq (fun u => Hs u K1 hs) aj hK1 (·.below)
 have kO2 := fq (fun u => Os u O2 os2) aj hO2 (·.below)
 have kH2 := fq (fun u => Hs u K2 hs) aj hK2 (·.below)
 have ah := bP w0
 clear hO1 hK1 hO2 hK2
 go_in
 go_upto_region 1 with (fail)
 rw [HW.out]
 have zc := kC.out _ ah
 go_wp2
 clear zc
 go_loopw [5] (fun i u => ∃ k : Nat, k ≤ n ∧ i = .int .i64 k ∧ Hid (Below w0.heap.size w0 u)) (fun i _ => n - (intOf i).toNat)
 case atStart => exact ⟨0, by omega, rfl, aa (Below.refl _ _)⟩
 case round =>
  obtain ⟨k, hk, rfl, aF⟩ := hrel
  by_cases hlt : k < n
  ·
   obtain ⟨a1, f1, e1, q1, ok1⟩ := ((kO1.out _ aF)).out k (by rw [hn1.out]; exact hlt)
   obtain ⟨a2, f2, e2, q2, JM⟩ := ((kO2.out _ aF)).out k (by rw [hn2.out]; exact hlt)
   subst e1
   subst e2
   obtain ⟨s1, s2, s3, s4⟩ := hS.out k hlt
   obtain ⟨o1, ho1⟩ : ∃ x, bL os1 k = x := ⟨_, rfl⟩
   obtain ⟨o2, ho2⟩ : ∃ x, bL os2 k = x := ⟨_, rfl⟩
   rw [show os1.getD k dI = o1 from ho1] at q1 ok1
   rw [show os2.getD k dI = o2 from ho2] at q2 JM
   rw [ho1, ho2] at s4
   rw [ho1] at s1 s3
   rw [ho2] at s2
   have QU := aa q1
   have oU := aa q2
   have ab9 := aa ok1
   have ab8 := aa JM
   have HFT := aa (GI s3 s1)
   have Vz := aa s4
   clear q1 q2 ok1 JM ho1 ho2 s3 s4
   have iE := bP wr
   have kE := aa (show ∀ u : World, Hid (Below wr.heap.size wr u) → u.cell? ⟨a1, f1 + k * 9, none⟩ = some (.int .i64 o1.num) ∧ u.cell? ⟨a1, f1 + k * 9 + 1, none⟩ = some (.string o1.rs) ∧ u.cell? ⟨a1, f1 + k * 9 + 2, none⟩ = some (.int .i64 o1.E1) ∧ u.cell? ⟨a1, f1 + k * 9 + 3, none⟩ = some (.int .i64 o1.E2) ∧ u.cell? ⟨a1, f1 + k * 9 + 4, none⟩ = some (.slice o1.A o1.na o1.ca) ∧ u.cell? ⟨a1, f1 + k * 9 + 5, none⟩ = some (.int .i64 o1.C) ∧ u.cell? ⟨a1, f1 + k * 9 + 6, none⟩ = some (.slice o1.Z o1.nz o1.cz) ∧ u.cell? ⟨a1, f1 + k * 9 + 7, none⟩ = some (.slice o1.L o1.np o1.cp) ∧ u.cell? ⟨a1, f1 + k * 9 + 8, none⟩ = some (.int .i64 o1.key) ∧ u.cell? ⟨a2, f2 + k * 9, none⟩ = some (.int .i64 o2.num) ∧ u.cell? ⟨a2, f2 + k * 9 + 1, none⟩ = some (.string o2.rs) ∧ u.cell? ⟨a2, f2 + k * 9 + 2, none⟩ = some (.int .i64 o2.E1) ∧ u.cell? ⟨a2, f2 + k * 9 + 3, none⟩ = some (.int .i64 o2.E2) ∧ u.cell? ⟨a2, f2 + k * 9 + 4, none⟩ = some (.slice o2.A o2.na o2.ca) ∧ u.cell? ⟨a2, f2 + k * 9 + 5, none⟩ = some (.int .i64 o2.C) ∧ u.cell? ⟨a2, f2 + k * 9 + 6, none⟩ = some (.slice o2.Z o2.nz o2.cz) ∧ u.cell? ⟨a2, f2 + k * 9 + 7, none⟩ = some (.slice o2.L o2.np o2.cp) ∧ u.cell? ⟨a2, f2 + k * 9 + 8, none⟩ = some (.int .i64 o2.key) from fun u h => by
    obtain ⟨r0, r1, r2, r3, r4, r5, r6, r7, r8⟩ := QU.out.below h.out
    obtain ⟨s0, s1, s2, s3, s4, s5, s6, s7, s8⟩ := oU.out.below h.out
    exact ⟨r0, r1, r2, r3, r4, r5, r6, r7, r8, s0, s1, s2, s3, s4, s5, s6, s7, s8⟩)
   have aar := qO (w := wr) (fun u => dW u o1) ab9.out (·.below)
   have aaq := qO (w := wr) (fun u => dW u o2) ab8.out (·.below)
   have zc := kC.out _ aF
   have Ff := kE.out _ iE
   go_upto_region 6 with (fail)
   clear zc Ff
   have hO := aa (fun (u : World) (h : Hid (Below w0.heap.size w0 u ∧ Below wr.heap.size wr u)) => And.intro (kC.out u (aa h.out.1)) (kE.out u (aa h.out.2)))
   refine wU (fun u => Below w0.heap.size w0 u ∧ Below wr.heap.size wr u) [] (bb2 (aa ⟨aF.out, iE.out⟩) ((Below.refl _ _).drew)) (fun hHeld => ?_)
   refine aU 0 1 2 3 ?_
   refine aU 4 6 7 8 ?_
   refine aL 9 ?_
   refine aL 10 ?_
   refine bY 5 fun K hK => ?_
   go_simp
   refine (wT o1 s1 _ (aar.out _ (aa hHeld.out.2))).mono ?_
   rintro e wA ⟨y1, rfl, hi1, bS⟩
   refine hK.out _ _ (bb2 hHeld bS) (fun hHeld => ?_)
   clear hK K
   try simp only [qq]
   refine bY 11 fun K hK => ?_
   go_simp
   refine (wT o2 s2 _ (aaq.out _ (aa hHeld.out.2))).mono ?_
   rintro e wA ⟨y2, rfl, hi2, bS⟩
   have hi1 := hi1.kept bS
   rw [Vz.out] at hi1
   refine hK.out _ _ (bb2 hHeld bS) (fun hHeld => ?_)
   clear hK K
   try simp only [qq]
   refine bY 12 fun K hK => ?_
   go_simp
   refine (FP 4 (xk o2) y1 y2 _ (by rw [← Vz.out]; exact HFT.out) hi1.it hi2.it).mono ?_
   rintro e wA ⟨rfl, bS⟩
   refine hK.out _ _ (bb2 hHeld bS) (fun hHeld => ?_)
   clear hK K
   refine aL 13 ?_
   refine gH ?_
   clear hO
   have bI := (aa hHeld.out.1)
   have Oj := (aa hHeld.out.2)
   clear hHeld
   have zc := kC.out _ bI
   have Ff := kE.out _ Oj
   have OI := bI
   clear zc Ff
   go_wp2
   go_roundw
   case rel => exact ⟨k + 1, by omega, by go_num, OI⟩
   case measure => simp [intOf]; omega
  ·
   have hke : k = n := by omega
   obtain ⟨wo, rfl⟩ : ∃ wo : World, wo = wr := ⟨_, rfl⟩
   have zc := kC.out _ aF
   go_wp2
   clear zc
   go_loopw [6] (fun i u => ∃ k : Nat, k ≤ m ∧ i = .int .i64 k ∧ Hid (Below w0.heap.size w0 u)) (fun i _ => m - (intOf i).toNat)
   case atStart => exact ⟨0, by omega, rfl, aF⟩
   case round =>
    obtain ⟨j, hj, rfl, VZ⟩ := hrel
    by_cases hlj : j < m
    ·
     obtain ⟨a1, f1, e1, q1, g1⟩ := ((kH1.out _ VZ)).out j (by rw [hm.out]; exact hlj)
     obtain ⟨a2, f2, e2, q2, g2⟩ := ((kH2.out _ VZ)).out j (by rw [hm.out]; exact hlj)
     subst e1
     subst e2
     obtain ⟨Oy, hhj⟩ : ∃ x, hsL hs j = x := ⟨_, rfl⟩
     rw [hhj] at q1 g1 g2
     have HL := aa q1
     have Q6 := aa g1
     have HG2 := aa g2
     have Vz : Hid ((!(Oy == Oy)) = false) := aa (by simp)
     clear q1 q2 g1 g2 hhj
     have iE := bP wr
     have kG1 := aa (show ∀ u : World, Hid (Below wr.heap.size wr u) → Hid (u.rangeAt a1 (f1 + j * 32) (Oy.map (Value.int .u8))) from fun u h => aa (eD Q6.out h.out))
     have kG2 := aa (show ∀ u : World, Hid (Below wr.heap.size wr u) → Hid (u.rangeAt a2 (f2 + j * 32) (Oy.map (Value.int .u8))) from fun u h => aa (eD HG2.out h.out))
     have zc := kC.out _ VZ
     go_upto_region 11 with (fail)
     clear zc
     have hO := aa (fun (u : World) (h : Hid (Below w0.heap.size w0 u ∧ Below wr.heap.size wr u)) => kC.out u (aa h.out.1))
     refine wU (fun u => Below w0.heap.size w0 u ∧ Below wr.heap.size wr u) [] (bb2 (aa ⟨VZ.out, iE.out⟩) ((Below.refl _ _).drew)) (fun hHeld => ?_)
     refine aU 0 1 2 3 ?_
     refine Ad 4 (.agg (arr .u8 Oy)) rfl (j_ 41 _ rfl a1 (f1 + j * 32) rfl (Oy.map (Value.int .u8)) _ (fun _ hq => ((kG1.out _ (aa hq.out.2))).out) Tryz.underlying41 rfl (lS HL.out)) ?_
     refine aU 5 6 7 8 ?_
     refine Ad 9 (.agg (arr .u8 Oy)) rfl (j_ 41 _ rfl a2 (f2 + j * 32) rfl (Oy.map (Value.int .u8)) _ (fun _ hq => ((kG2.out _ (aa hq.out.2))).out) Tryz.underlying41 rfl (lS HL.out)) ?_
     refine Ad 10 (.bool false) rfl (h_ _ _ _ rfl Oy Oy HL.out HL.out rfl rfl false Vz.out) ?_
     refine gH ?_
     clear hO
     have bI := (aa hHeld.out.1)
     have Oj := (aa hHeld.out.2)
     clear hHeld
     have zc := kC.out _ bI
     have OI := bI
     clear zc
     go_wp2
     go_roundw
     case rel => exact ⟨j + 1, by omega, by go_num, OI⟩
     case measure => simp [intOf]; omega
    ·
     have hje : j = m := by omega
     have zc := kC.out _ VZ
     go_wp2
     go_ret
     exact ⟨rfl, gy aj VZ⟩
def vU (osX : List az) (n : Nat) (hsX : List (List Int)) (m : Nat) (rest : List Value) (w : World) (e : Ending) (w' : World) : Prop := ∃ O c K d os', e = .returned (.tuple (gI O n c K m d :: rest).toArray) ∧ os'.length = n ∧ (∀ k, k < n → sj (bL osX k) (bL os' k)) ∧ Os w' O os' ∧ Hs w' K hsX ∧ Below w.heap.size w w'
theorem kg {w w' : World} {e : Ending} {rest : List Value} (he : e = .returned (.tuple (gI none 0 0 none 0 0 :: rest).toArray)) (hb : Below w.heap.size w w') : vU [] 0 [] 0 rest w e w' :=
 ⟨none, 0, none, 0, [], he, rfl, fun k h => absurd h (by omega), fun k h => absurd h (by simp), fun k h => absurd h (by simp), hb⟩
theorem wM {wB w : World} {D : Nat → Prop} {A : Option Addr} {xs : List Int} (h : Sl wB A xs) (hb : Below wB.heap.size wB w) (hD : ∀ b, b < wB.heap.size → ¬ D b) : nZ D w (fun u => Sl u A xs) := by
 refine za (h.below hb) fun b o e h0 => ?_
 obtain ⟨b', o', e', hc⟩ := h 0 h0
 rw [e] at e'
 cases e'
 exact hD _ (World.block_lt_of_cell? _ _ hc)
theorem UL (ix : Nat) (O : Option Addr) (os : List az) (n c : Nat) (K : Option Addr) (hs : List (List Int)) (m d : Nat) (hn : Hid (os.length = n)) (hm : Hid (hs.length = m)) (hb1 : n ≤ 1000000) (hb2 : m ≤ 1000000) (hb3 : ∀ k, k < n → (bL os k).np ≤ 1000000) (wB : World) (VO : Hid (Os wB O os)) (w : World) (hbB : Hid (Below wB.heap.size wB w)) (hK : Hid (Hs w K hs)) :
  Calls Tryz.prog 80 #[gI O n c K m d] w (Sb wB.heap.size ix os n hs m w) := by
 obtain ⟨w0, hW⟩ : ∃ W, ((w.alloc (jh O n c K m d)).alloc (.cells #[.slice none 0 0, .slice none 0 0] 52)) = W := ⟨_, rfl⟩
 have aj : Hid (Below w.heap.size w w0) := aa (by rw [← hW]; exact aJ (Below.refl _ _))
 have hc : w0.cell? ⟨w.heap.size, 0, none⟩ = some (.slice O n c) ∧ w0.cell? ⟨w.heap.size, 1, none⟩ = some (.slice K m d) ∧ Own w0 ⟨w.heap.size + 1, 0, none⟩ (.slice none 0 0) ∧ Own w0 ⟨w.heap.size + 1, 1, none⟩ (.slice none 0 0) := by rw [← hW]; exact ⟨cell_below (cu (by simp) (by rfl)) (af _ _), cell_below (cu (by simp) (by rfl)) (af _ _), uF (by simp) (by rfl), uF (by simp) (by rfl)⟩
 have kC := aa (show ∀ u : World, Hid (Below w0.heap.size w0 u) → u.cell? ⟨w.heap.size, 0, none⟩ = some (.slice O n c) ∧ u.cell? ⟨w.heap.size, 1, none⟩ = some (.slice K m d) ∧ Own u ⟨w.heap.size + 1, 0, none⟩ (.slice none 0 0) ∧ Own u ⟨w.heap.size + 1, 1, none⟩ (.slice none 0 0) from fun u h => ⟨cell_below hc.1 h.out, cell_below hc.2.1 h.out, (hc.2.2.1).below h.out, (hc.2.2.2).below h.out⟩)
 have IE := aa (show ∀ u : World, Hid (Below w0.heap.size w0 u) → Hid (Hs u K hs) from fun u h => aa ((hK.out.below) (ag aj.out h.out)))
 have Dm := aa (show ∀ u : World, Hid (Below w0.heap.size w0 u) → Hid (Os u O os) from fun u h => aa (((VO.out.below hbB.out).below) (ag aj.out h.out)))
 have nT := Bg (w0 := w0) (o := .cells #[.slice none 0 0, .slice none 0 0] 52) (w.heap.size + 1) (by rw [← hW]; exact heap_alloc2_new _ _ _)
 have ah : Hid (Below w0.heap.size w0 w0) := aa (Below.refl _ _)
 have HW := aa hW
 clear hW hc hK
 have jO : Hid (w0.heap.size = w.heap.size + 2) := aa (by rw [← HW.out]; simp)
 have Fx : Hid (∀ u : World, Hid (Below w0.heap.size w0 u) → Below wB.heap.size wB u) := aa (fun u h => ag hbB.out (ag aj.out h.out))
 have HLW : Hid (wB.heap.size ≤ w.heap.size) := aa hbB.out.size
 obtain ⟨i0, hi, hz0, hz1, hz2⟩ := info_parts IK
 obtain ⟨i1, hi1, hy0, hy1, hy2⟩ := info_parts Ch
 obtain ⟨i2, hi2, hx0, hx1, hx2⟩ := info_parts yC
 have hq0 := af w0 (.cells #[] 41)
 have ax := bF ah hq0
 clear hq0
 have hrow : (w0.alloc (.cells #[] 41)).ownsRow w0.heap.size 41 32 (.slice (some ⟨w0.heap.size, 0, none⟩) 0 0) 0 [] := World.ownsRow_lit w0 #[] 0 (Nat.le_refl _) (by decide) rfl
 have hnw := IL ((IE.out _ ax)).out hm.out
 have hln : (hs.flatMap oN).length = m * 32 := by rw [rU oN 32 hs (fun x hx => by rw [oN, List.length_map]; exact vJ ((IE.out _ ax)).out x hx), hm.out]
 have b1 : 0 + m ≤ maxLen := by unfold maxLen; omega
 have b2 : (0 + m) * 32 ≤ 140737488355328 := by omega
 go_in
 go_upto_region 1 with (fail)
 rw [HW.out]
 obtain ⟨wm, wh, ⟨xH, Zm⟩, ⟨xG, Zl⟩⟩ := kC.out _ ax
 go_upto_region 2 with (at_builtin; refine jG rfl _ _ 50 rfl w0.heap.size 41 i0 (.agg (arr .u8 (dz 32))) 32 32 Tryz.underlying50 hi hz0 hz1 hz2 (by rfl) (by decide) _ _ _ rfl hrow K m d _ rfl hln hnw (IJ _) b1 b2 (by simp) ?_; intro A1 c1 w1 hown1 hgrow1 Xn)
 clear wm wh xH Zm xG Zl
 have HB1 : Hid (Below w0.heap.size w0 w1) := aa (((Below.refl w0.heap.size w0).alloc (Nat.le_refl _) (.cells #[] 41)).grown hgrow1 (by simp) (fun j hj => by cases hj; exact Nat.le_refl _))
 have hk1 : w1.ownsRow w0.heap.size 41 32 (.slice A1 m c1) m (hs.flatMap oN) := by simpa using hown1
 have QZ := aa (iX hk1)
 have HK1 := aa hk1
 obtain ⟨B, hB⟩ : ∃ x, w1.heap.size = x := ⟨_, rfl⟩
 obtain ⟨W, hW⟩ : ∃ x, w1.alloc (.cells #[.slice none 0 0, .slice A1 m c1] 52) = x := ⟨_, rfl⟩
 have xW : Hid (W.heap.size = B + 1 ∧ w0.heap.size ≤ B) := aa ⟨by rw [← hW, ← hB]; simp, by rw [← hB]; exact HB1.out.size⟩
 have hbk : W.heap[B]? = some (.cells #[.slice none 0 0, .slice A1 m c1] 52) := by rw [← hW, ← hB]; exact heap_alloc_new _ _
 have pQ : Hid (Own W ⟨B, 0, none⟩ (.slice none 0 0)) := aa ⟨au hbk 0, av hbk 0⟩
 have U7 : Hid (Own W ⟨B, 1, none⟩ (.slice A1 m c1)) := aa ⟨au hbk 1, av hbk 1⟩
 have bT : Hid (Below w0.heap.size w0 W) := aa (ag HB1.out (by rw [← hW]; exact af _ _))
 have HKW : Hid (Below w1.heap.size w1 W) := aa (by rw [← hW]; exact af _ _)
 have Hf := aa hB
 rw [hW, hB]
 clear hW hB hbk hown1 hgrow1 Xn hrow hnw hln b1 b2 hk1
 go_wp2
 go_loopw [4] (fun i u => ∃ (k : Nat) (v : Value) (os' : List az) (Li : Option Nat), k ≤ n ∧ i = .int .i64 k ∧ Hid (os'.length = k) ∧ Hid (Own u ⟨B, 0, none⟩ v) ∧ Hid (Own u ⟨B, 1, none⟩ (.slice A1 m c1)) ∧ Hid (u.ownsRow (B + 1) 104 9 v k (os'.flatMap lQ)) ∧ Hid (Fb wB.heap.size ix B v Li os os' k u) ∧ Hid (Below B W u)) (fun i _ => n - (intOf i).toNat)
 case atStart => exact ⟨0, _, [], none, by omega, rfl, aa rfl, pQ, U7, aa (World.ownsRow_nil _ _ _ _), aa (Fb.nil _ _ _ _ _ _), aa (Below.refl _ _)⟩
 case round =>
  obtain ⟨k, v, os', Li, hk, rfl, qH, HV, qF, HO, HG, aF⟩ := hrel
  have iK : Hid (Below w0.heap.size w0 wr) := aa (bT.out.trans (aF.out.mono xW.out.2))
  have hBW := aF.out.size
  have hsb := xW.out
  by_cases hlt : k < n
  ·
   have hkl : k < os.length := by rw [hn.out]; exact hlt
   obtain ⟨b, f, hA, h9, hok⟩ := (Dm.out _ iK).out k hkl
   obtain ⟨_, _, -, -, Uh⟩ := VO.out k hkl
   subst hA
   have aaD := hb3 k hlt
   obtain ⟨o, ho⟩ : ∃ o, os.getD k dI = o := ⟨_, rfl⟩
   have mY : Hid (bL os k = o) := aa ho
   rw [ho] at h9 hok Uh
   rw [mY.out] at aaD
   have ab7 := aa Uh
   obtain ⟨j0, j1, j2, j3, j4, j5, j6, j7, j8⟩ := h9
   obtain ⟨ok1, JM, ⟨JL, Rl⟩, Rn, Rm, JK⟩ := hok
   have Hr := aa JK
   have uh := aa JL
   clear ho ok1 JM JL Rl Rn Rm JK hkl Uh
   obtain ⟨wm, wh, ⟨xH, Zm⟩, ⟨xG, Zl⟩⟩ := kC.out _ iK
   have hq0 := af wr (lY o)
   have aK := bF iK hq0
   clear hq0
   obtain ⟨aae, aad, ⟨aac, aaa⟩, ⟨aab, Z_⟩⟩ := kC.out _ aK
   have hb5 : (wr.alloc (lY o)).heap[wr.heap.size]? = some (lY o) := heap_alloc_new _ _
   have HX0 : Hid (Own (wr.alloc (lY o)) ⟨wr.heap.size, 0, none⟩ (.int .i64 o.num) ∧ Own (wr.alloc (lY o)) ⟨wr.heap.size, 1, none⟩ (.string o.rs) ∧ Own (wr.alloc (lY o)) ⟨wr.heap.size, 2, none⟩ (.int .i64 o.E1) ∧ Own (wr.alloc (lY o)) ⟨wr.heap.size, 3, none⟩ (.int .i64 o.E2) ∧ Own (wr.alloc (lY o)) ⟨wr.heap.size, 4, none⟩ (.slice o.A o.na o.ca) ∧ Own (wr.alloc (lY o)) ⟨wr.heap.size, 5, none⟩ (.int .i64 o.C) ∧ Own (wr.alloc (lY o)) ⟨wr.heap.size, 6, none⟩ (.slice o.Z o.nz o.cz) ∧ Own (wr.alloc (lY o)) ⟨wr.heap.size, 7, none⟩ (.slice o.L o.np o.cp) ∧ Own (wr.alloc (lY o)) ⟨wr.heap.size, 8, none⟩ (.int .i64 o.key)) := aa ⟨⟨au hb5 0, av hb5 0⟩, ⟨au hb5 1, av hb5 1⟩, ⟨au hb5 2, av hb5 2⟩, ⟨au hb5 3, av hb5 3⟩, ⟨au hb5 4, av hb5 4⟩, ⟨au hb5 5, av hb5 5⟩, ⟨au hb5 6, av hb5 6⟩, ⟨au hb5 7, av hb5 7⟩, ⟨au hb5 8, av hb5 8⟩⟩
   obtain ⟨⟨x0, y0⟩, ⟨x1, y1⟩, ⟨x2, y2⟩, ⟨x3, y3⟩, ⟨x4, y4⟩, ⟨x5, y5⟩, ⟨x6, y6⟩, ⟨x7, y7⟩, ⟨x8, y8⟩⟩ := HX0.out
   clear hb5
   go_upto_region 6 with (fail)
   clear wm wh xH Zm xG Zl aae aad aac aaa aab Z_
   clear x0 y0 x1 y1 x2 y2 x3 y3 x4 y4 x5 y5 x6 y6 x7 y7 x8 y8
   obtain ⟨w5, P8⟩ : ∃ x, wr.alloc (lY o) = x := ⟨_, rfl⟩
   rw [P8] at HX0 aK ⊢
   have KH : Hid (w5.heap.size = wr.heap.size + 1) := aa (by rw [← P8]; simp)
   have jZ : Hid (Below wr.heap.size wr w5) := aa (by rw [← P8]; exact af _ _)
   have Zg := jZ
   clear P8 j0 j1 j2 j3 j4 j5 j6 j7 j8
   obtain ⟨X, hX⟩ : ∃ x, wr.heap.size = x := ⟨_, rfl⟩
   rw [hX] at HX0 KH jZ hBW ⊢
   have QL := aa hX
   clear hX
   have hrow2 : (w5.alloc (.cells #[] 56)).ownsRow w5.heap.size 56 5 (.slice (some ⟨w5.heap.size, 0, none⟩) 0 0) 0 [] := World.ownsRow_lit w5 #[] 0 (Nat.le_refl _) (by decide) rfl
   have YK := aa ((Hr.out.below Zg.out).below (af w5 (.cells #[] 56)))
   have Xg := PE YK.out uh.out
   have Xk : (o.ps.flatMap qQ).length = o.np * 5 := by rw [rU qQ 5 o.ps (fun _ _ => rfl), uh.out]
   have b3 : 0 + o.np ≤ maxLen := by unfold maxLen; omega
   have b4 : (0 + o.np) * 72 ≤ 140737488355328 := by omega
   have Xi : (Value.slice (some ⟨w5.heap.size, 0, none⟩) 0 0).ownBlock ≠ some X := fun e => by
    have e2 : w5.heap.size = X := by simpa [Value.ownBlock] using e
    have := KH.out
    omega
   obtain ⟨X0, X1, X2, X3, X4, X5, X6, X7, X8⟩ := HX0.out
   obtain ⟨x7, y7⟩ := X7.below (af w5 (.cells #[] 56))
   go_upto_region 7 with (at_builtin; refine jG rfl _ _ 102 rfl w5.heap.size 56 i2 (.agg #[.int .i64 0, .int .i64 0, .slice none 0 0, .int .i64 0, .slice none 0 0]) 5 72 Tryz.underlying102 hi2 hx0 hx1 hx2 (by rfl) (by decide) _ _ _ rfl hrow2 o.L o.np o.cp _ rfl Xk Xg (Pz _) b3 b4 (by simp) ?_; intro A2 c2 w6 hown2 hgrow2 Cy; obtain ⟨q1, q2⟩ := aO (HX0.out.2.2.2.2.2.2.2.1.below (af w5 (.cells #[] 56))) hgrow2 Xi)
   have hown3 : w6.ownsRow w5.heap.size 56 5 (.slice A2 o.np c2) o.np (o.ps.flatMap qQ) := by simpa using hown2
   have m_ : Hid (Below w5.heap.size w5 w6) := aa (((Below.refl w5.heap.size w5).alloc (Nat.le_refl _) (.cells #[] 56)).grown hgrow2 (by simp) (fun j hj => by cases hj; exact Nat.le_refl _))
   have Xa := m_.out.size
   obtain ⟨w7, hw7⟩ : ∃ x, w6.setCell ⟨X, 7, none⟩ (.slice A2 o.np c2) = x := ⟨_, rfl⟩
   have uo : Hid (Below wr.heap.size wr w7) := aa (by rw [← hw7]; refine (ag Zg.out m_.out).setCell (by rw [QL.out]; exact Nat.le_refl _) _)
   have TY : w7.heap.size = w6.heap.size := by rw [← hw7, World.size_setCell]
   have g6 : ∀ j u9, Own w5 ⟨X, j, none⟩ u9 → Own w6 ⟨X, j, none⟩ u9 := fun j u9 h => h.below m_.out
   have Yj : Hid (Own w7 ⟨X, 0, none⟩ (.int .i64 o.num) ∧ Own w7 ⟨X, 1, none⟩ (.string o.rs) ∧ Own w7 ⟨X, 2, none⟩ (.int .i64 o.E1) ∧ Own w7 ⟨X, 3, none⟩ (.int .i64 o.E2) ∧ Own w7 ⟨X, 4, none⟩ (.slice o.A o.na o.ca) ∧ Own w7 ⟨X, 5, none⟩ (.int .i64 o.C) ∧ Own w7 ⟨X, 6, none⟩ (.slice o.Z o.nz o.cz) ∧ Own w7 ⟨X, 7, none⟩ (.slice A2 o.np c2) ∧ Own w7 ⟨X, 8, none⟩ (.int .i64 o.key)) := aa (by
    rw [← hw7]
    exact ⟨ak (g6 _ _ X0) (by simp), ak (g6 _ _ X1) (by simp), ak (g6 _ _ X2) (by simp), ak (g6 _ _ X3) (by simp), ak (g6 _ _ X4) (by simp), ak (g6 _ _ X5) (by simp), ak (g6 _ _ X6) (by simp), bu (g6 _ _ X7), ak (g6 _ _ X8) (by simp)⟩)
   have HV7 : Hid (Own w7 ⟨B, 0, none⟩ v) := aa (HV.out.below uo.out)
   have abC : Hid (Own w7 ⟨B, 1, none⟩ (.slice A1 m c1)) := aa (qF.out.below uo.out)
   have zZ : Hid (w7.ownsRow (B + 1) 104 9 v k (os'.flatMap lQ)) := aa (World.ownsRow.kept HO.out (nM uo.out none) (nD _))
   have af0 := HLW.out
   have afL : w.heap.size ≤ w0.heap.size := by have := jO.out; omega
   have hs5 := KH.out
   have Re : Hid (Below wB.heap.size wB w7) := aa (ag (Fx.out _ iK) uo.out)
   obtain ⟨A9, c9, e9, hc9, Uj⟩ := iX hown3
   cases e9
   have VT : Hid (∀ b, (Value.slice A2 o.np c2).ownBlock = some b → w5.heap.size ≤ b ∧ b < w7.heap.size) := aa (fun b e => by have := Uj b e; omega)
   have yz : Hid (xA B (fun b => (wB.heap.size ≤ b ∧ b < X) ∨ (Value.slice A2 o.np c2).ownBlock = some b) w7 (Tp o A2 c2)) := aa (by
    have hcl : ∀ b, b < wB.heap.size → ¬ ((wB.heap.size ≤ b ∧ b < X) ∨ (Value.slice A2 o.np c2).ownBlock = some b) := fun b hb e => by
     rcases e with e | e
     · omega
     · have := (VT.out b e).1; omega
    obtain ⟨p1, p2, p3, p4, p5, p6⟩ := ab7.out
    refine ⟨p1, p2, p3.1, hc9, wM p4 Re.out hcl, wM p5 Re.out hcl, fun w' h' q hq => ?_, ?_⟩
    ·
     obtain ⟨_, _, _, _, _, _, _, _, r1, r2, r3, r4⟩ := p6 q hq
     exact ⟨r1, r2, (wM r3 Re.out hcl) w' h', (wM r4 Re.out hcl) w' h'⟩
    ·
     rw [← hw7]
     exact World.ownsRow.kept (vv hown3 (by omega)) (iQ _ _ _ _) (Or.inr (fun e => by have := (Uj _ e).1; omega)))
   rw [hw7]
   clear hw7 hown2 hown3 hgrow2 Cy hrow2 Xg Xk b3 b4 Xi X0 X1 X2 X3 X4 X5 X6 X7 X8 x7 y7 q1 q2 g6 HX0 TY Xa hc9 Uj
   obtain ⟨⟨x0, y0⟩, ⟨x1, y1⟩, ⟨x2, y2⟩, ⟨x3, y3⟩, ⟨x4, y4⟩, ⟨x5, y5⟩, ⟨x6, y6⟩, ⟨x7, y7⟩, ⟨x8, y8⟩⟩ := Yj.out
   obtain ⟨v3, FJ⟩ := HV7.out
   have hzB := uo.out.size
   rw [QL.out] at hzB
   have MF : ∀ b9, v.ownBlock = some b9 → B + 1 ≤ b9 ∧ b9 < X := fun b9 e => by have := World.ownsRow.lt HO.out _ e; rw [QL.out] at this; exact this
   have hown : (w7.alloc (.cells #[.int .i64 o.num, .string o.rs, .int .i64 o.E1, .int .i64 o.E2, .slice o.A o.na o.ca, .int .i64 o.C, .slice o.Z o.nz o.cz, .slice A2 o.np c2, .int .i64 o.key] 104)).ownsRow (B + 1) 104 9 v k (os'.flatMap lQ) := zZ.out.alloc _
   have hno : v.ownBlock ≠ some B := fun e => by have := (MF _ e).1; omega
   have b5 : k + 1 ≤ maxLen := by unfold maxLen; omega
   have b6 : (k + 1) * 128 ≤ 140737488355328 := by omega
   have b7 : B + 1 ≤ (w7.alloc (.cells #[.int .i64 o.num, .string o.rs, .int .i64 o.E1, .int .i64 o.E2, .slice o.A o.na o.ca, .int .i64 o.C, .slice o.Z o.nz o.cz, .slice A2 o.np c2, .int .i64 o.key] 104)).heap.size := by simp; omega
   go_wp2_with (at_builtin; refine wpList_append_lies rfl _ _ 49 rfl (B + 1) 104 i1 (.agg #[.int .i64 0, .string ⟨#[]⟩, .int .i64 0, .int .i64 0, .slice none 0 0, .int .i64 0, .slice none 0 0, .slice none 0 0, .int .i64 0]) 9 128 Tryz.underlying49 hi1 hy0 hy1 hy2 (by rfl) (by decide) _ _ _ rfl hown ⟨w7.heap.size, 0, none⟩ 1 1 [.int .i64 o.num, .string o.rs, .int .i64 o.E1, .int .i64 o.E2, .slice o.A o.na o.ca, .int .i64 o.C, .slice o.Z o.nz o.cz, .slice A2 o.np c2, .int .i64 o.key] rfl rfl (World.news_of_block (cs := #[.int .i64 o.num, .string o.rs, .int .i64 o.E1, .int .i64 o.E2, .slice o.A o.na o.ca, .int .i64 o.C, .slice o.Z o.nz o.cz, .slice A2 o.np c2, .int .i64 o.key]) (t := 104) (fr := (0, 0)) (heap_alloc_new w7 _)) (by simp [Value.oneCell']) (by decide) b5 b6 b7 _ rfl ?_; intro gg cap w8 tX jA Qb Gq; obtain ⟨p1, p2⟩ := aO (HV7.out.below (af w7 (.cells #[.int .i64 o.num, .string o.rs, .int .i64 o.E1, .int .i64 o.E2, .slice o.A o.na o.ca, .int .i64 o.C, .slice o.Z o.nz o.cz, .slice A2 o.np c2, .int .i64 o.key] 104))) jA hno)
   have hgz : (w7.alloc (.cells #[.int .i64 o.num, .string o.rs, .int .i64 o.E1, .int .i64 o.E2, .slice o.A o.na o.ca, .int .i64 o.C, .slice o.Z o.nz o.cz, .slice A2 o.np c2, .int .i64 o.key] 104)).heap.size ≤ w8.heap.size := jA.size
   have hsq : (w7.alloc (.cells #[.int .i64 o.num, .string o.rs, .int .i64 o.E1, .int .i64 o.E2, .slice o.A o.na o.ca, .int .i64 o.C, .slice o.Z o.nz o.cz, .slice A2 o.np c2, .int .i64 o.key] 104)).heap.size = w7.heap.size + 1 := by simp
   have hlen : (os' ++ [(Tp o A2 c2)]).length = k + 1 := by rw [List.length_append, qH.out]; rfl
   have vL : ∀ b9, ((.slice (some ⟨gg, 0, none⟩) (k + 1) cap) : Value).ownBlock = some b9 → v.ownBlock = some b9 ∨ w7.heap.size ≤ b9 := fun b9 e => by
    cases e
    rcases Qb with e | e
    · exact Or.inl e
    · exact Or.inr (show w7.heap.size ≤ gg by omega)
   have aav : ((w8.setCell ⟨B, 0, none⟩ (.slice (some ⟨gg, 0, none⟩) (k + 1) cap)) : World).heap.size = w8.heap.size := World.size_setCell _ _ _
   have Gs : ∀ b9, b9 < w7.heap.size → b9 ≠ B → v.ownBlock ≠ some b9 → ((w8.setCell ⟨B, 0, none⟩ (.slice (some ⟨gg, 0, none⟩) (k + 1) cap)) : World).heap[b9]? = w7.heap[b9]? := fun b9 h1 h2 h3 => (Go.Deep.blk_setCell_other _ _ _ _ h2).trans ((jA.block b9 (by omega) (fun e => h3 e.symm)).trans ((af w7 (.cells #[.int .i64 o.num, .string o.rs, .int .i64 o.E1, .int .i64 o.E2, .slice o.A o.na o.ca, .int .i64 o.C, .slice o.Z o.nz o.cz, .slice A2 o.np c2, .int .i64 o.key] 104)).block b9 h1))
   have VS : Hid ((w8.setCell ⟨B, 0, none⟩ (.slice (some ⟨gg, 0, none⟩) (k + 1) cap)).ownsRow (B + 1) 104 9 (.slice (some ⟨gg, 0, none⟩) (k + 1) cap) (k + 1) ((os' ++ [(Tp o A2 c2)]).flatMap lQ)) := aa (World.ownsRow.kept (by rw [List.flatMap_append]; simpa using tX) (iQ _ _ _ _) (Or.inr (fun e => by have := (World.ownsRow.lt tX _ e).1; omega)))
   have U5 : Hid (Own (w8.setCell ⟨B, 0, none⟩ (.slice (some ⟨gg, 0, none⟩) (k + 1) cap)) ⟨B, 0, none⟩ (.slice (some ⟨gg, 0, none⟩) (k + 1) cap)) := aa (bu ⟨p1, p2⟩)
   have U6 : Hid (Own (w8.setCell ⟨B, 0, none⟩ (.slice (some ⟨gg, 0, none⟩) (k + 1) cap)) ⟨B, 1, none⟩ (.slice A1 m c1)) := aa (ak (aO (abC.out.below (af w7 (.cells #[.int .i64 o.num, .string o.rs, .int .i64 o.E1, .int .i64 o.E2, .slice o.A o.na o.ca, .int .i64 o.C, .slice o.Z o.nz o.cz, .slice A2 o.np c2, .int .i64 o.key] 104))) jA hno) (by simp))
   have HG9 : Hid (Fb wB.heap.size ix B (.slice (some ⟨gg, 0, none⟩) (k + 1) cap) (if k = ix then (Value.slice A2 o.np c2).ownBlock else Li) os (os' ++ [(Tp o A2 c2)]) (k + 1) (w8.setCell ⟨B, 0, none⟩ (.slice (some ⟨gg, 0, none⟩) (k + 1) cap))) := aa (Fb.push (S := X) (u := wr) (u7 := w7) (o' := (Tp o A2 c2)) HG.out qH.out QL.out (by omega) (by omega) (fun b9 e => by have := MF b9 e; omega) (by omega) (by omega) (fun b9 h1 h2 h3 => (Gs b9 (by omega) (by omega) h3).trans (uo.out.block b9 (by rw [QL.out]; exact h1))) (fun b9 h1 h2 => Gs b9 h2 (by omega) (fun e => by have := MF _ e; omega)) vL (by rw [mY.out]; exact Pb _ _ _) yz.out (fun b9 e => by have h1 := VT.out b9 e; omega))
   have Al : Hid (Below B W (w8.setCell ⟨B, 0, none⟩ (.slice (some ⟨gg, 0, none⟩) (k + 1) cap))) := aa ((((aF.out.trans (uo.out.mono (by rw [QL.out]; omega))).alloc (by omega) (.cells #[.int .i64 o.num, .string o.rs, .int .i64 o.E1, .int .i64 o.E2, .slice o.A o.na o.ca, .int .i64 o.C, .slice o.Z o.nz o.cz, .slice A2 o.np c2, .int .i64 o.key] 104)).grown jA (by simp; omega) (fun j hj => by have := (MF j hj).1; omega)).setCell (Nat.le_refl _) _)
   have VB := aa hlen
   clear hown tX jA Qb Gq vL Gs p1 p2 b5 b6 b7 hno v3 FJ MF
   go_wp2
   go_roundw
   case rel => exact ⟨k + 1, _, _, (if k = ix then (Value.slice A2 o.np c2).ownBlock else Li), by omega, by go_num, VB, U5, U6, VS, HG9, Al⟩
   case measure => simp [intOf]; omega
  ·
   obtain rfl : k = n := by omega
   obtain ⟨A3, c3, hv3, hc3, Xr⟩ := iX HO.out
   subst hv3
   obtain ⟨A4, c4, hv4, hc4, hbk⟩ := QZ.out
   cases hv4
   have Vs : Hid (wr.ownsRow w0.heap.size 41 32 (.slice A1 m c1) m (hs.flatMap oN)) := aa (own_below (World.ownsRow.kept HK1.out (nM HKW.out none) (nD _)) aF.out (fun b9 e => by have := (hbk b9 e).2; have := Hf.out; omega))
   have jF : Hid (wr.heap[w.heap.size + 1]? = some (.cells #[.slice none 0 0, .slice none 0 0] 52)) := nT.out _ iK
   have R8 := aa Xr
   have Rc := aa hbk
   have Oq := aa hc3
   have VY := aa hc4
   obtain ⟨v3, FJ⟩ := HV.out
   obtain ⟨v4, v4f⟩ := qF.out
   clear Xr hbk hc3 hc4 hBW hsb
   obtain ⟨wm, wh, ⟨xH, Zm⟩, ⟨xG, Zl⟩⟩ := kC.out _ iK
   go_wp2_with ((with_reducible show wpList _ _ _ (⟨none, _, _, _, _, _⟩ :: _) _ _); refine wpList_store_row rfl 52 _ _ rfl (w.heap.size + 1) #[.slice A3 k c3, .slice A1 m c1] rfl rfl _ _ jF.out (by kernel_rfl) rfl (by simp [Value.oneCell']) ?_)
   have hrw := setRow_heap _ _ _ #[.slice A3 k c3, .slice A1 m c1] _ _ jF.out
   have bV := ai (ag aj.out iK.out) (cs := #[.slice A3 k c3, .slice A1 m c1]) (Nat.le_add_right w.heap.size 1)
   have h0 := jO.out
   have hsb := xW.out
   have hw1 := Hf.out
   have Xj := HLW.out
   have aeO := aF.out.size
   have hw0 : w.heap.size ≤ w0.heap.size := by omega
   have hzs : (wr.setRow (w.heap.size + 1) #[.slice A3 k c3, .slice A1 m c1]).heap.size = wr.heap.size := by simp [World.setRow]
   refine bodyPost_ret (v := gI A3 k c3 A1 m c1) (aD (p := 2) (ty := 52) rfl _ _ ⟨w.heap.size + 1, 0, none⟩ _ rfl (run_loadVar_row _ _ _ _ _ _ _ hrw Tryz.underlying52 rfl (by kernel_rfl))) rfl ⟨A3, c3, A1, c1, os', B, Li, rfl, Ny qH.out Oq.out VY.out Xj (by omega) (by omega) ?_ ?_ (fun b9 e => ?_) ?_, bV⟩
   · exact World.ownsRow.kept HO.out (gV _ _ _) (Or.inr (fun e => by have := (R8.out _ e).1; omega))
   · exact World.ownsRow.kept (vv Vs.out hw0) (gV _ _ _) (Or.inr (fun e => by have := (Rc.out _ e).1; omega))
   ·
    have := (Rc.out _ e).2
    omega
   · exact HG.out.shut (by rw [hzs]; exact Nat.le_refl _) (fun b9 h1 h2 => setRow_other _ _ _ _ (by omega))
theorem php : ∀ (m n : Nat) (f : Nat → Nat), (∀ j, j < n → f j < m) → (∀ i j, i < j → j < n → f i ≠ f j) → n ≤ m
 | 0, n, f, h, _ => by
  by_cases e : n = 0
  · omega
  · exact absurd (h 0 (by omega)) (by omega)
 | m + 1, n, f, h, hd => by
  by_cases e : ∃ j, j < n ∧ f j = m
  ·
   obtain ⟨j, hj, ej⟩ := e
   have h9 := php m (n - 1) (fun i => if i < j then f i else f (i + 1)) (fun i hi => by
    split
    ·
     have h1 := h i (by omega)
     have h2 : f i ≠ m := fun e2 => hd i j (by omega) hj (by rw [e2, ej])
     omega
    ·
     have h1 := h (i + 1) (by omega)
     have h2 : f (i + 1) ≠ m := fun e2 => hd j (i + 1) (by omega) (by omega) (by rw [e2, ej])
     omega) (fun a b hab hb => by
    by_cases q1 : a < j
    ·
     rw [if_pos q1]
     by_cases q2 : b < j
     · rw [if_pos q2]; exact hd a b hab (by omega)
     · rw [if_neg q2]; exact hd a (b + 1) (by omega) (by omega)
    · rw [if_neg q1, if_neg (show ¬ b < j by omega)]; exact hd (a + 1) (b + 1) (by omega) (by omega))
   omega
  ·
   have h9 := php m n f (fun j hj => by
    have h1 := h j hj
    have h2 : f j ≠ m := fun e2 => e ⟨j, hj, e2⟩
    omega) hd
   omega
theorem F4 {ps : List aV} {k : Nat} (h : sZ ps k = true) : 1 ≤ (ps.getD k aH).ix ∧ (ps.getD k aH).ix ≤ 8 ∧ qX ps (ps.getD k aH).ix k = true ∧ uO (ps.getD k aH).na (ps.getD k aH).nz = true := by
 simp only [sZ, Bool.and_eq_true, decide_eq_true_eq] at h
 exact ⟨h.1, h.2.1, h.2.2.1, h.2.2.2⟩
theorem JI {ps : List aV} {n : Nat} {x : Int} (h : jJ ps n = true) (hx : qX ps x n = true) (h1 : 1 ≤ x) (h8 : x ≤ 8) : n + 1 ≤ 8 := by
 refine php 8 (n + 1) (fun j => if j < n then ((ps.getD j aH).ix - 1).toNat else (x - 1).toNat) (fun j hj => ?_) (fun a b hab hb => ?_)
 ·
  split
  · have := F4 (rD h j (by assumption)); omega
  · omega
 ·
  have ha := F4 (rD h a (by omega))
  rw [if_pos (show a < n by omega)]
  by_cases q : b < n
  ·
   have hbp := F4 (rD h b q)
   rw [if_pos q]
   have hne := mJ hbp.2.2.1 a hab
   omega
  ·
   rw [if_neg q]
   have hne := mJ hx a (by omega)
   omega
abbrev tF (o : az) (p : aV) : az := { o with np := o.np + 1, ps := o.ps ++ [p] }
theorem Gv {ps : List aV} {p : aV} {k : Nat} (h : k < ps.length) : (ps ++ [p]).getD k aH = ps.getD k aH := by
 rw [List.getD_eq_getElem?_getD, List.getElem?_append_left h, ← List.getD_eq_getElem?_getD]
theorem Gu {ps : List aV} {p : aV} {k : Nat} (h : ps.length = k) : (ps ++ [p]).getD k aH = p := by
 rw [List.getD_eq_getElem?_getD, List.getElem?_append_right (by omega), h, Nat.sub_self]; rfl
theorem sj.add {o o' : az} {p p' : aV} (h : sj o o') (hp : qC p p') : sj (tF o p) (tF o' p') :=
 ⟨h.num, h.rs, h.E1, h.E2, h.na, h.al, h.C, h.nz, h.zs, by show o'.np + 1 = o.np + 1; rw [h.np], h.key, by show (o'.ps ++ [p']).length = (o.ps ++ [p]).length; simp [h.ln], fun k hk => by
  have hk' : k < o.ps.length + 1 := by simpa using hk
  show qC ((o.ps ++ [p]).getD k aH) ((o'.ps ++ [p']).getD k aH)
  by_cases e : k < o.ps.length
  · rw [Gv e, Gv (by rw [h.ln]; exact e)]; exact h.p k e
  ·
   have e2 : o.ps.length = k := by omega
   rw [Gu e2, Gu (by rw [h.ln]; exact e2)]; exact hp⟩
theorem KN.added {lw i lo n m c d B N gg cap r g : Nat} {os os' : List az} {hs : List (List Int)} {K : Option Addr} {Li : Option Nat} {u uN wF : World} {p p' : aV} (h : KN lw i lo os n hs m (some ⟨g, 0, none⟩) c K d os' B N Li u) (hl : ∀ x ∈ hs, x.length = 32) (hm : hs.length = m) (hn : os.length = n) (hi : i < n)
  (hown : uN.ownsRow B 56 5 (.slice (some ⟨gg, 0, none⟩) ((bL os' i).np + 1) cap) ((bL os' i).np + 1) ((bL os' i).ps.flatMap qQ ++ qQ p')) (hgF : wF.heap[gg]? = uN.heap[gg]?)
  (hF : ∀ b, b < u.heap.size → Li ≠ some b → b ≠ g → b ≠ r → wF.heap[b]? = u.heap[b]?) (hr : lw ≤ r ∧ r < lo) (hcap : (bL os' i).np + 1 ≤ cap)
  (hrow : oG lQ 9 dI wF g (os'.set i { tF (bL os' i) p' with L := some ⟨gg, 0, none⟩, cp := cap }) n)
  (hsp : qC p p') (hpl : p'.al.length = p'.na ∧ p'.zs.length = p'.nz) (hda : nZ (fun b => lw ≤ b ∧ b < N) u (fun x => Sl x p'.A p'.al)) (hdz : nZ (fun b => lw ≤ b ∧ b < N) u (fun x => Sl x p'.Z p'.zs)) :
  ∃ os'', os''.length = n ∧ (∀ k, k < n → sj (bL (os.set i (tF (bL os i) p)) k) (bL os'' k)) ∧ Os wF (some ⟨g, 0, none⟩) os'' ∧ Hs wF K hs := by
 have hlB := h.lB
 have RF := h.Nu
 have hBN := h.BN
 have Xj := h.lwo
 have hg := h.bo g rfl
 obtain ⟨hq, hLi⟩ := h.eq hi
 have hil : i < os'.length := by rw [h.l]; exact hi
 have hag : ∀ b, b < u.heap.size → ¬ DN lw B N (.slice (some ⟨g, 0, none⟩) n c) Li b → wF.heap[b]? = u.heap[b]? := fun b hb hnd => hF b hb (fun e => hnd (.inr (.inr (.inr e)))) (fun e => hnd (.inr (.inr (.inl (by rw [e]; rfl))))) (fun e => hnd (.inl ⟨by omega, by omega⟩))
 have hpg : ∀ b, b < u.heap.size → ¬ (lw ≤ b ∧ b < N) → wF.heap[b]? = u.heap[b]? := fun b hb hnd => hF b hb (fun e => hnd ⟨by have := h.fr b e; omega, (h.fr b e).2.1⟩) (fun e => hnd ⟨by omega, by omega⟩) (fun e => hnd ⟨by omega, by omega⟩)
 refine ⟨os'.set i { tF (bL os' i) p' with L := some ⟨gg, 0, none⟩, cp := cap }, by rw [List.length_set]; exact h.l, fun k hk => ?_, fun k hk => ?_, ?_⟩
 ·
  rw [yD (by rw [hn]; exact hi), yD hil]
  by_cases e : k = i
  ·
   rw [if_pos e, if_pos e]
   have s := (h.sam i hi).add hsp
   exact ⟨s.num, s.rs, s.E1, s.E2, s.na, s.al, s.C, s.nz, s.zs, s.np, s.key, s.ln, s.p⟩
  ·
   rw [if_neg e, if_neg e]
   exact h.sam k hk
 ·
  rw [List.length_set, h.l] at hk
  refine ⟨g, 0, rfl, ?_, ?_⟩
  ·
   rw [Nat.zero_add]
   exact PM (hrow.at_ k (by rw [List.length_set, h.l]; exact hk))
  ·
   have e9 := yD (k := k) (x := { tF (bL os' i) p' with L := some ⟨gg, 0, none⟩, cp := cap }) hil
   show dW wF (bL (os'.set i _) k)
   rw [e9]
   by_cases e : k = i
   ·
    rw [if_pos e]
    refine ⟨hq.la, hq.lz, ⟨by show ((bL os' i).ps ++ [p']).length = (bL os' i).np + 1; rw [List.length_append, hq.lp]; rfl, hcap⟩, hq.dA _ hag, hq.dZ _ hag, ?_⟩
    refine F5 (base := B) (n := (bL os' i).np + 1) (c := cap) (by rw [List.length_append, hq.lp]; rfl) (vo (by rw [List.flatMap_append]; simpa using hown) (fun b e => by cases e; exact hgF)) fun q hql => ?_
    by_cases e2 : q < (bL os' i).ps.length
    · rw [Gv e2]; exact (hq.dP _ hag) q e2
    ·
     have e3 : (bL os' i).ps.length = q := by simp at hql; omega
     rw [Gu e3]
     exact ⟨hpl.1, hpl.2, hda _ hpg, hdz _ hpg⟩
   ·
    rw [if_neg e]
    exact (h.ne k hk e) _ hag
 ·
  refine Ud (vo h.rk fun b e => ?_) hm hl
  have hb := h.bk b e
  exact hF b (by omega) (fun e => by have := h.fr b e; omega) (by omega) (by omega)
theorem zg (P Q G need : Int) (Cs : Option Addr) (cs : List Int) (cn cc : Nat) (Ks : Option Addr) (ks : List Int) (kn kc : Nat) (hcn : Hid (cs.length = cn)) (hkn : Hid (ks.length = kn)) (hQ : Q < 9223372036854775808) (bO fO : Nat) (os : List az) (n c : Nat) (K : Option Addr) (hs : List (List Int)) (m d i : Nat) (hn : Hid (os.length = n)) (hm : Hid (hs.length = m)) (hi : i < n) (him : i ≤ m) (hb1 : n ≤ 1000000) (hb2 : m ≤ 1000000) (h : List Int) (hh : Hid (jf hs i = h)) (hl : Hid (h.length = 32)) (hb : Hid (aC h = true)) (o : az) (ho : Hid (bL os i = o)) (hI : Hid (dJ o)) (hSo : fH o) (p : aV) (eu : Hid (p.al.length = p.na)) (hzn : Hid (p.zs.length = p.nz)) (hna : p.na < 1000000) (hnz : p.nz < 1000000) (w : World) (hv : Hid (Vars w)) (hd0 : Hid (bz w)) (hC : Hid (Sl w Cs cs)) (hK : Hid (Sl w Ks ks)) (hO : Hid (Os w (some ⟨bO, fO, none⟩) os)) (hH : Hid (Hs w K hs)) (iI : Hid (Sl w p.A p.al)) (iH : Hid (Sl w p.Z p.zs)) (r : Bool) (hr : Hid (Ii P Q G need cs ks h o p = r)) :
  Calls Tryz.prog 79 #[gv P Q G, kN need Cs cn cc Ks kn kc, gI (some ⟨bO, fO, none⟩) n c K m d, .int .i64 (i : Int), Ae p] w (Rt w (.bool r)) := by
 have hr1 := hr.out
 cases hsh : uO p.na p.nz with
 | false =>
  obtain rfl : r = false := by rw [← hr1, Ii, hsh]; rfl
  exact LC P Q G need Cs cs cn cc Ks ks kn kc hcn hkn hQ bO fO os n c K hs m d i hn hm hi him hb1 hb2 h hh hl hb o ho hI hSo p eu hzn hna hnz (aa hsh) w hv hd0 hC hK hO hH iI iH
 | true =>
  exact LB P Q G need Cs cs cn cc Ks ks kn kc hcn hkn hQ bO fO os n c K hs m d i hn hm hi him hb1 hb2 h hh hl hb o ho hI hSo p eu hzn hna hnz (aa hsh) r ⟨by rw [← hr1, Ii, hsh, Bool.true_and]⟩ w hv hd0 hC hK hO hH iI iH
theorem sP {os : List az} {hs : List (List Int)} (h : fP os hs = true) {k : Nat} (hk : k < os.length) : k ≤ hs.length := by
 obtain ⟨h1, h2, _⟩ := fC h
 by_cases e : k < hs.length
 · omega
 ·
  by_cases hz : k = 0
  · omega
  ·
   have hkey : (bL os (k - 1)).key ≠ 0 := fun e0 => by
    have := (eP (gP h1 (k - 1) (by omega))).2.2.1 e0
    omega
   have := (IA h (i := k - 1) (by omega) hkey).1
   omega
theorem lT (w : World) (A B C D E : Obj) : (((((w.alloc A).alloc B).alloc C).alloc D).alloc E).heap[w.heap.size + 4]? = some E := by
 have e : w.heap.size + 4 = ((((w.alloc A).alloc B).alloc C).alloc D).heap.size := by simp
 rw [e]; exact heap_alloc_new _ _
theorem Qq {ps : List aV} {x r : Int} (h : zW ps x r) (hf : qX ps x ps.length = false) : decide ((0 : Int) ≤ r) = true := by
 rcases h with ⟨_, h2⟩ | ⟨k, _, rfl, _⟩
 · rw [hf] at h2; cases h2
 · simp
theorem IQ {ps : List aV} {x r : Int} (h : zW ps x r) (hf : qX ps x ps.length = true) : r = -1 := by
 rcases h with ⟨h1, _⟩ | ⟨k, hk, rfl, h2, _⟩
 · exact h1
 · exact absurd h2 (mJ hf k hk)
theorem DF (P Q G need : Int) (Cs : Option Addr) (cs : List Int) (cn cc : Nat) (Ks : Option Addr) (ks : List Int) (kn kc : Nat) (hcn : Hid (cs.length = cn)) (hkn : Hid (ks.length = kn)) (hQ : Q < 9223372036854775808) (bO fO : Nat) (os : List az) (n c : Nat) (K : Option Addr) (hs : List (List Int)) (m d i : Nat) (hn : Hid (os.length = n)) (hm : Hid (hs.length = m)) (hi : i < n) (him : i ≤ m) (hb1 : n ≤ 1000000) (hb2 : m ≤ 1000000) (h : List Int) (hh : Hid (jf hs i = h)) (hl : Hid (h.length = 32)) (hb : Hid (aC h = true)) (o : az) (ho : Hid (bL os i = o)) (hI : Hid (dJ o)) (hSo : fH o) (p : aV) (eu : Hid (p.al.length = p.na)) (hzn : Hid (p.zs.length = p.nz)) (hna : p.na < 1000000) (hnz : p.nz < 1000000) (w : World) (hv : Hid (Vars w)) (hd0 : Hid (bz w)) (hC : Hid (Sl w Cs cs)) (hK : Hid (Sl w Ks ks)) (hO : Hid (Os w (some ⟨bO, fO, none⟩) os)) (hH : Hid (Hs w K hs)) (iI : Hid (Sl w p.A p.al)) (iH : Hid (Sl w p.Z p.zs)) (r : Bool) (hr : Hid (Ii P Q G need cs ks h o p = r)) :
  Calls Tryz.prog 74 #[gv P Q G, kN need Cs cn cc Ks kn kc, gI (some ⟨bO, fO, none⟩) n c K m d, .int .i64 (i : Int), Ae p] w (Rt w (.bool r)) := by
 have hr1 := hr.out
 cases hsh : uO p.na p.nz with
 | false =>
  obtain rfl : r = false := by rw [← hr1, Ii, hsh]; rfl
  exact KW P Q G need Cs cs cn cc Ks ks kn kc hcn hkn hQ bO fO os n c K hs m d i hn hm hi him hb1 hb2 h hh hl hb o ho hI hSo p eu hzn hna hnz (aa hsh) w hv hd0 hC hK hO hH iI iH
 | true =>
  rw [Ii, hsh, Bool.true_and] at hr1
  exact KV P Q G need Cs cs cn cc Ks ks kn kc hcn hkn hQ bO fO os n c K hs m d i hn hm hi him hb1 hb2 h hh hl hb o ho hI hSo p eu hzn hna hnz (aa hsh) r ⟨hr1⟩ w hv hd0 hC hK hO hH iI iH
theorem Sw (P Q G need : Int) (Cs : Option Addr) (cs : List Int) (cn cc : Nat) (Ks : Option Addr) (ks : List Int) (kn kc : Nat) (hcn : Hid (cs.length = cn)) (hkn : Hid (ks.length = kn)) (hQ : Q < 9223372036854775808) (O : Option Addr) (os : List az) (n c : Nat) (K : Option Addr) (hs : List (List Int)) (m d : Nat) (hn : Hid (os.length = n)) (hm : Hid (hs.length = m)) (hI : Hid (∀ k, k < n → dJ (bL os k))) (hb1 : n ≤ 1000000) (hb2 : m ≤ 1000000) (p : aV) (eu : Hid (p.al.length = p.na)) (hzn : Hid (p.zs.length = p.nz)) (hna : p.na < 1000000) (hnz : p.nz < 1000000) (i : Int) (er : Int) (yP : Hid (IM P Q G need cs ks os hs n i = er)) (hne : er ≠ 0) (w : World) (hv : Hid (Vars w)) (hd0 : Hid (bz w)) (hC : Hid (Sl w Cs cs)) (hK : Hid (Sl w Ks ks)) (hO : Hid (Os w O os)) (hH : Hid (Hs w K hs)) (iI : Hid (Sl w p.A p.al)) (iH : Hid (Sl w p.Z p.zs)) :
  Calls Tryz.prog 24 #[gv P Q G, kN need Cs cn cc Ks kn kc, gI O n c K m d, .int .i64 i, Ae p] w (vU [] 0 [] 0 [.int .i64 er] w) := by
 obtain ⟨w0, HW, aj, kC⟩ := Ri (bq P Q G) fE (.cells #[.int .i64 need, .slice Cs cn cc, .slice Ks kn kc] 26) fE (jh O n c K m d) rq (oh p) AB (.cells #[.slice none 0 0, .slice none 0 0] 52) sO w
 have kO := fq (fun u => Os u O os) aj hO (·.below)
 have kH := fq (fun u => Hs u K hs) aj hH (·.below)
 have kD := o6 aj hd0
 have jX := mkS aj hC
 have jW := mkS aj hK
 have kV := mkV aj hv
 have tQ := mkS aj iI
 have tO := mkS aj iH
 have nT := Bg (w0 := w0) (o := .cells #[.slice none 0 0, .slice none 0 0] 52) (w.heap.size + 4) (by rw [← HW.out]; exact lT _ _ _ _ _ _)
 have ah := bP w0
 clear hC hK hd0 hv hO hH iI iH
 go_in
 go_upto_region 1 with (fail)
 rw [HW.out]
 have zc := kC.out _ ah
 go_wp2_with fail
 clear zc
 refine eH kC ah (sK P Q G need Cs cs cn cc Ks ks kn kc hcn hkn hQ O os n c K hs m d hn hm hI hb1 hb2 i er yP _ (kV.out _ ah) (kD.out _ ah) (jX.out _ ah) (jW.out _ ah) (kO.out _ ah) (kH.out _ ah)) fun w1 ax zc => ?_
 have e1 : (er != 0) = true := by simpa using hne
 have jF := nT.out _ ax
 have bV := ai (ag aj.out ax.out) (cs := #[.slice none 0 0, .slice none 0 0]) (Nat.le_add_right w.heap.size 4)
 go_wp2_with ((with_reducible show wpList _ _ _ (⟨none, _, _, _, _, _⟩ :: _) _ _); refine wpList_store_row rfl 52 _ _ rfl (w.heap.size + 4) #[.slice none 0 0, .slice none 0 0] rfl rfl _ _ jF.out (by kernel_rfl) rfl (by simp [Value.oneCell']) ?_)
 have hrw := setRow_heap _ _ _ #[.slice none 0 0, .slice none 0 0] _ _ jF.out
 exact bodyPost_ret (v := .tuple #[gI none 0 0 none 0 0, .int .i64 er]) (aQ (p := 10) (q := 11) (ty := 52) rfl _ _ ⟨w.heap.size + 4, 0, none⟩ _ _ rfl rfl (run_loadVar_row _ _ _ _ _ _ _ hrw Tryz.underlying52 rfl (by kernel_rfl))) rfl (kg rfl bV)
theorem Sr (P Q G need : Int) (Cs : Option Addr) (cs : List Int) (cn cc : Nat) (Ks : Option Addr) (ks : List Int) (kn kc : Nat) (hcn : Hid (cs.length = cn)) (hkn : Hid (ks.length = kn)) (hQ : Q < 9223372036854775808) (O : Option Addr) (os : List az) (n c : Nat) (K : Option Addr) (hs : List (List Int)) (m d : Nat) (hn : Hid (os.length = n)) (hm : Hid (hs.length = m)) (hI : Hid (∀ k, k < n → dJ (bL os k))) (hb1 : n ≤ 1000000) (hb2 : m ≤ 1000000) (p : aV) (eu : Hid (p.al.length = p.na)) (hzn : Hid (p.zs.length = p.nz)) (hna : p.na < 1000000) (hnz : p.nz < 1000000) (i : Nat) (hi : i < n) (HT : Kp (fP os hs = true)) (yP : Hid (IM P Q G need cs ks os hs n (i : Int) = 0)) (hfr : Hid (qX (bL os i).ps p.ix (bL os i).np = false)) (w : World) (hv : Hid (Vars w)) (hd0 : Hid (bz w)) (hC : Hid (Sl w Cs cs)) (hK : Hid (Sl w Ks ks)) (hO : Hid (Os w O os)) (hH : Hid (Hs w K hs)) (iI : Hid (Sl w p.A p.al)) (iH : Hid (Sl w p.Z p.zs)) :
  Calls Tryz.prog 24 #[gv P Q G, kN need Cs cn cc Ks kn kc, gI O n c K m d, .int .i64 (i : Int), Ae p] w (vU [] 0 [] 0 [.int .i64 8] w) := by
 obtain ⟨w0, HW, aj, kC⟩ := Ri (bq P Q G) fE (.cells #[.int .i64 need, .slice Cs cn cc, .slice Ks kn kc] 26) fE (jh O n c K m d) rq (oh p) AB (.cells #[.slice none 0 0, .slice none 0 0] 52) sO w
 have kO := fq (fun u => Os u O os) aj hO (·.below)
 have kH := fq (fun u => Hs u K hs) aj hH (·.below)
 have kD := o6 aj hd0
 have jX := mkS aj hC
 have jW := mkS aj hK
 have kV := mkV aj hv
 have tQ := mkS aj iI
 have tO := mkS aj iH
 have nT := Bg (w0 := w0) (o := .cells #[.slice none 0 0, .slice none 0 0] 52) (w.heap.size + 4) (by rw [← HW.out]; exact lT _ _ _ _ _ _)
 have ah := bP w0
 clear hC hK hd0 hv hO hH iI iH
 obtain ⟨bO, fO, CF, bN, hok⟩ := ((kO.out _ ah)).out i (by rw [hn.out]; exact hi)
 subst CF
 obtain ⟨o, hoe⟩ : ∃ x, bL os i = x := ⟨_, rfl⟩
 rw [show os.getD i dI = o from hoe] at bN hok
 have nW := aa hoe
 have xD := aa bN
 have lW := aa hok
 clear bN hok hoe
 have Km : Hid (dJ o) := aa (by have := hI.out i hi; rw [nW.out] at this; exact this)
 have hSo : fH o := by have h9 := (eP (gP (fC HT.1).1 i (by rw [hn.out]; exact hi))).1; rw [nW.out] at h9; exact jm h9 lW.out
 have him : i ≤ m := by rw [← hm.out]; exact sP HT.1 (by rw [hn.out]; exact hi)
 have Q3 : Hid ((jf hs i).length = 32) := aa (by rw [mo HT.1 (by rw [hm.out]; exact him)]; exact mI _ _)
 have AP : Hid (aC (jf hs i) = true) := aa (by rw [mo HT.1 (by rw [hm.out]; exact him)]; exact vM _ _)
 have uh : Hid (o.ps.length = o.np) := aa lW.out.2.2.1.1
 have MQ : o.np ≤ 8 := by rw [← uh.out]; exact hSo.n
 have Mt := aa (show ∀ u : World, Hid (Below w0.heap.size w0 u) → Hid (Pa u o.L o.ps) from fun u h => aa (dW.below lW.out h.out).2.2.2.2.2)
 have mg := aa (show ∀ u : World, Hid (Below w0.heap.size w0 u) → u.cell? ⟨bO, fO + i * 9 + 7, none⟩ = some (.slice o.L o.np o.cp) ∧ u.cell? ⟨bO, fO + i * 9 + 8, none⟩ = some (.int .i64 o.key) from fun u h9 => by have h8 := xD.out.below h9.out; exact ⟨h8.2.2.2.2.2.2.2.1, h8.2.2.2.2.2.2.2.2⟩)
 have uk : Hid (qX o.ps p.ix o.np = false) := aa (by have h9 := hfr.out; rw [nW.out] at h9; exact h9)
 go_in
 go_upto_region 1 with (fail)
 rw [HW.out]
 have zc := kC.out _ ah
 have eX := mg.out _ ah
 go_wp2_with fail
 clear zc eX
 refine KE ah (sK P Q G need Cs cs cn cc Ks ks kn kc hcn hkn hQ _ os n c K hs m d hn hm hI hb1 hb2 (i : Int) 0 yP _ (kV.out _ ah) (kD.out _ ah) (jX.out _ ah) (jW.out _ ah) (kO.out _ ah) (kH.out _ ah)) fun w1 ax => ?_
 have zc := kC.out _ ax
 have eX := mg.out _ ax
 go_upto_region 4 with (fail)
 clear zc eX
 have hO := aa (fun (u : World) (h : Hid (Below w0.heap.size w0 u)) => And.intro (kC.out u h) (mg.out u h))
 refine iW [] ax (fun hHeld => ?_)
 refine aU 0 1 2 3 ?_
 refine aU 4 5 6 7 ?_
 refine bY 8 fun K hK => ?_
 go_simp
 refine (pJ o.L o.ps o.np o.cp p.ix uh (by omega) _ (Mt.out _ hHeld)).mono ?_
 rintro e wA ⟨fi, rfl, hfi, bS⟩
 have hfd := Qq hfi (by rw [uh.out]; exact uk.out)
 clear hfi
 refine hK.out _ _ (bF hHeld bS) (fun hHeld => ?_)
 clear hK K
 refine aL 9 ?_
 refine gH ?_
 clear hO
 have aY := hHeld
 clear hHeld
 have zc := kC.out _ aY
 have eX := mg.out _ aY
 have jF := nT.out _ aY
 have bV := ai (ag aj.out aY.out) (cs := #[.slice none 0 0, .slice none 0 0]) (Nat.le_add_right w.heap.size 4)
 go_wp2_with ((with_reducible show wpList _ _ _ (⟨none, _, _, _, _, _⟩ :: _) _ _); refine wpList_store_row rfl 52 _ _ rfl (w.heap.size + 4) #[.slice none 0 0, .slice none 0 0] rfl rfl _ _ jF.out (by kernel_rfl) rfl (by simp [Value.oneCell']) ?_)
 have hrw := setRow_heap _ _ _ #[.slice none 0 0, .slice none 0 0] _ _ jF.out
 exact bodyPost_ret (v := .tuple #[gI none 0 0 none 0 0, .int .i64 8]) (aQ (p := 10) (q := 11) (ty := 52) rfl _ _ ⟨w.heap.size + 4, 0, none⟩ _ _ rfl rfl (run_loadVar_row _ _ _ _ _ _ _ hrw Tryz.underlying52 rfl (by kernel_rfl))) rfl (kg rfl bV)
theorem Su (P Q G need : Int) (Cs : Option Addr) (cs : List Int) (cn cc : Nat) (Ks : Option Addr) (ks : List Int) (kn kc : Nat) (hcn : Hid (cs.length = cn)) (hkn : Hid (ks.length = kn)) (hQ : Q < 9223372036854775808) (O : Option Addr) (os : List az) (n c : Nat) (K : Option Addr) (hs : List (List Int)) (m d : Nat) (hn : Hid (os.length = n)) (hm : Hid (hs.length = m)) (hI : Hid (∀ k, k < n → dJ (bL os k))) (hb1 : n ≤ 1000000) (hb2 : m ≤ 1000000) (p : aV) (eu : Hid (p.al.length = p.na)) (hzn : Hid (p.zs.length = p.nz)) (hna : p.na < 1000000) (hnz : p.nz < 1000000) (i : Nat) (hi : i < n) (HT : Kp (fP os hs = true)) (yP : Hid (IM P Q G need cs ks os hs n (i : Int) = 0)) (hfr : Hid (qX (bL os i).ps p.ix (bL os i).np = true)) (Ho : Hid (Ii P Q G need cs ks (jf hs i) (bL os i) p = false)) (w : World) (hv : Hid (Vars w)) (hd0 : Hid (bz w)) (hC : Hid (Sl w Cs cs)) (hK : Hid (Sl w Ks ks)) (hO : Hid (Os w O os)) (hH : Hid (Hs w K hs)) (iI : Hid (Sl w p.A p.al)) (iH : Hid (Sl w p.Z p.zs)) :
  Calls Tryz.prog 24 #[gv P Q G, kN need Cs cn cc Ks kn kc, gI O n c K m d, .int .i64 (i : Int), Ae p] w (vU [] 0 [] 0 [.int .i64 11] w) := by
 obtain ⟨w0, HW, aj, kC⟩ := Ri (bq P Q G) fE (.cells #[.int .i64 need, .slice Cs cn cc, .slice Ks kn kc] 26) fE (jh O n c K m d) rq (oh p) AB (.cells #[.slice none 0 0, .slice none 0 0] 52) sO w
 have kO := fq (fun u => Os u O os) aj hO (·.below)
 have kH := fq (fun u => Hs u K hs) aj hH (·.below)
 have kD := o6 aj hd0
 have jX := mkS aj hC
 have jW := mkS aj hK
 have kV := mkV aj hv
 have tQ := mkS aj iI
 have tO := mkS aj iH
 have nT := Bg (w0 := w0) (o := .cells #[.slice none 0 0, .slice none 0 0] 52) (w.heap.size + 4) (by rw [← HW.out]; exact lT _ _ _ _ _ _)
 have ah := bP w0
 clear hC hK hd0 hv hO hH iI iH
 obtain ⟨bO, fO, CF, bN, hok⟩ := ((kO.out _ ah)).out i (by rw [hn.out]; exact hi)
 subst CF
 obtain ⟨o, hoe⟩ : ∃ x, bL os i = x := ⟨_, rfl⟩
 rw [show os.getD i dI = o from hoe] at bN hok
 have nW := aa hoe
 have xD := aa bN
 have lW := aa hok
 clear bN hok hoe
 have Km : Hid (dJ o) := aa (by have := hI.out i hi; rw [nW.out] at this; exact this)
 have hSo : fH o := by have h9 := (eP (gP (fC HT.1).1 i (by rw [hn.out]; exact hi))).1; rw [nW.out] at h9; exact jm h9 lW.out
 have him : i ≤ m := by rw [← hm.out]; exact sP HT.1 (by rw [hn.out]; exact hi)
 have Q3 : Hid ((jf hs i).length = 32) := aa (by rw [mo HT.1 (by rw [hm.out]; exact him)]; exact mI _ _)
 have AP : Hid (aC (jf hs i) = true) := aa (by rw [mo HT.1 (by rw [hm.out]; exact him)]; exact vM _ _)
 have uh : Hid (o.ps.length = o.np) := aa lW.out.2.2.1.1
 have MQ : o.np ≤ 8 := by rw [← uh.out]; exact hSo.n
 have Mt := aa (show ∀ u : World, Hid (Below w0.heap.size w0 u) → Hid (Pa u o.L o.ps) from fun u h => aa (dW.below lW.out h.out).2.2.2.2.2)
 have mg := aa (show ∀ u : World, Hid (Below w0.heap.size w0 u) → u.cell? ⟨bO, fO + i * 9 + 7, none⟩ = some (.slice o.L o.np o.cp) ∧ u.cell? ⟨bO, fO + i * 9 + 8, none⟩ = some (.int .i64 o.key) from fun u h9 => by have h8 := xD.out.below h9.out; exact ⟨h8.2.2.2.2.2.2.2.1, h8.2.2.2.2.2.2.2.2⟩)
 have uk : Hid (qX o.ps p.ix o.np = true) := aa (by have h9 := hfr.out; rw [nW.out] at h9; exact h9)
 go_in
 go_upto_region 1 with (fail)
 rw [HW.out]
 have zc := kC.out _ ah
 have eX := mg.out _ ah
 go_wp2_with fail
 clear zc eX
 refine KE ah (sK P Q G need Cs cs cn cc Ks ks kn kc hcn hkn hQ _ os n c K hs m d hn hm hI hb1 hb2 (i : Int) 0 yP _ (kV.out _ ah) (kD.out _ ah) (jX.out _ ah) (jW.out _ ah) (kO.out _ ah) (kH.out _ ah)) fun w1 ax => ?_
 have zc := kC.out _ ax
 have eX := mg.out _ ax
 go_upto_region 4 with (fail)
 clear zc eX
 have hO := aa (fun (u : World) (h : Hid (Below w0.heap.size w0 u)) => And.intro (kC.out u h) (mg.out u h))
 refine iW [] ax (fun hHeld => ?_)
 refine aU 0 1 2 3 ?_
 refine aU 4 5 6 7 ?_
 refine bY 8 fun K hK => ?_
 go_simp
 refine (pJ o.L o.ps o.np o.cp p.ix uh (by omega) _ (Mt.out _ hHeld)).mono ?_
 rintro e wA ⟨fi, rfl, hfi, bS⟩
 obtain rfl : fi = -1 := IQ hfi (by rw [uh.out]; exact uk.out)
 refine hK.out _ _ (bF hHeld bS) (fun hHeld => ?_)
 clear hK K
 refine aL 9 ?_
 refine gH ?_
 clear hO
 have aY := hHeld
 clear hHeld
 have zc := kC.out _ aY
 have eX := mg.out _ aY
 have xB := Ho.out
 rw [nW.out] at xB
 go_wp2_with fail
 clear zc eX
 refine KE aY (DF P Q G need Cs cs cn cc Ks ks kn kc hcn hkn hQ bO fO os n c K hs m d i hn hm hi him hb1 hb2 (jf hs i) (aa rfl) Q3 AP o nW Km hSo p eu hzn hna hnz _ (kV.out _ aY) (kD.out _ aY) (jX.out _ aY) (jW.out _ aY) (kO.out _ aY) (kH.out _ aY) (tQ.out _ aY) (tO.out _ aY) false (aa xB)) fun w3 aN => ?_
 have zc := kC.out _ aN
 have eX := mg.out _ aN
 have jF := nT.out _ aN
 have bV := ai (ag aj.out aN.out) (cs := #[.slice none 0 0, .slice none 0 0]) (Nat.le_add_right w.heap.size 4)
 go_wp2_with ((with_reducible show wpList _ _ _ (⟨none, _, _, _, _, _⟩ :: _) _ _); refine wpList_store_row rfl 52 _ _ rfl (w.heap.size + 4) #[.slice none 0 0, .slice none 0 0] rfl rfl _ _ jF.out (by kernel_rfl) rfl (by simp [Value.oneCell']) ?_)
 have hrw := setRow_heap _ _ _ #[.slice none 0 0, .slice none 0 0] _ _ jF.out
 exact bodyPost_ret (v := .tuple #[gI none 0 0 none 0 0, .int .i64 11]) (aQ (p := 10) (q := 11) (ty := 52) rfl _ _ ⟨w.heap.size + 4, 0, none⟩ _ _ rfl rfl (run_loadVar_row _ _ _ _ _ _ _ hrw Tryz.underlying52 rfl (by kernel_rfl))) rfl (kg rfl bV)
theorem Tv (P Q G need : Int) (Cs : Option Addr) (cs : List Int) (cn cc : Nat) (Ks : Option Addr) (ks : List Int) (kn kc : Nat) (hcn : Hid (cs.length = cn)) (hkn : Hid (ks.length = kn)) (hQ : Q < 9223372036854775808) (O : Option Addr) (os : List az) (n c : Nat) (K : Option Addr) (hs : List (List Int)) (m d : Nat) (hn : Hid (os.length = n)) (hm : Hid (hs.length = m)) (hI : Hid (∀ k, k < n → dJ (bL os k))) (hb1 : n ≤ 1000000) (hb2 : m ≤ 1000000) (p : aV) (eu : Hid (p.al.length = p.na)) (hzn : Hid (p.zs.length = p.nz)) (hna : p.na < 1000000) (hnz : p.nz < 1000000) (i : Int) (er : Int) (yP : Hid (IM P Q G need cs ks os hs n i = er)) (hne : er ≠ 0) (w : World) (hv : Hid (Vars w)) (hd0 : Hid (bz w)) (hC : Hid (Sl w Cs cs)) (hK : Hid (Sl w Ks ks)) (hO : Hid (Os w O os)) (hH : Hid (Hs w K hs)) (iI : Hid (Sl w p.A p.al)) (iH : Hid (Sl w p.Z p.zs)) :
  Calls Tryz.prog 25 #[gv P Q G, kN need Cs cn cc Ks kn kc, gI O n c K m d, .int .i64 i, Ae p] w (vU [] 0 [] 0 [.int .i64 er] w) := by
 obtain ⟨w0, HW, aj, kC⟩ := Ri (bq P Q G) fE (.cells #[.int .i64 need, .slice Cs cn cc, .slice Ks kn kc] 26) fE (jh O n c K m d) rq (oh p) AB (.cells #[.slice none 0 0, .slice none 0 0] 52) sO w
 have kO := fq (fun u => Os u O os) aj hO (·.below)
 have kH := fq (fun u => Hs u K hs) aj hH (·.below)
 have kD := o6 aj hd0
 have jX := mkS aj hC
 have jW := mkS aj hK
 have kV := mkV aj hv
 have tQ := mkS aj iI
 have tO := mkS aj iH
 have nT := Bg (w0 := w0) (o := .cells #[.slice none 0 0, .slice none 0 0] 52) (w.heap.size + 4) (by rw [← HW.out]; exact lT _ _ _ _ _ _)
 have ah := bP w0
 clear hC hK hd0 hv hO hH iI iH
 go_in
 go_upto_region 1 with (fail)
 rw [HW.out]
 have zc := kC.out _ ah
 go_wp2_with fail
 clear zc
 refine eH kC ah (sM P Q G need Cs cs cn cc Ks ks kn kc hcn hkn hQ O os n c K hs m d hn hm hI hb1 hb2 i er yP _ (kV.out _ ah) (kD.out _ ah) (jX.out _ ah) (jW.out _ ah) (kO.out _ ah) (kH.out _ ah)) fun w1 ax zc => ?_
 have e1 : (er != 0) = true := by simpa using hne
 have jF := nT.out _ ax
 have bV := ai (ag aj.out ax.out) (cs := #[.slice none 0 0, .slice none 0 0]) (Nat.le_add_right w.heap.size 4)
 go_wp2_with ((with_reducible show wpList _ _ _ (⟨none, _, _, _, _, _⟩ :: _) _ _); refine wpList_store_row rfl 52 _ _ rfl (w.heap.size + 4) #[.slice none 0 0, .slice none 0 0] rfl rfl _ _ jF.out (by kernel_rfl) rfl (by simp [Value.oneCell']) ?_)
 have hrw := setRow_heap _ _ _ #[.slice none 0 0, .slice none 0 0] _ _ jF.out
 exact bodyPost_ret (v := .tuple #[gI none 0 0 none 0 0, .int .i64 er]) (aQ (p := 10) (q := 11) (ty := 52) rfl _ _ ⟨w.heap.size + 4, 0, none⟩ _ _ rfl rfl (run_loadVar_row _ _ _ _ _ _ _ hrw Tryz.underlying52 rfl (by kernel_rfl))) rfl (kg rfl bV)
theorem Tq (P Q G need : Int) (Cs : Option Addr) (cs : List Int) (cn cc : Nat) (Ks : Option Addr) (ks : List Int) (kn kc : Nat) (hcn : Hid (cs.length = cn)) (hkn : Hid (ks.length = kn)) (hQ : Q < 9223372036854775808) (O : Option Addr) (os : List az) (n c : Nat) (K : Option Addr) (hs : List (List Int)) (m d : Nat) (hn : Hid (os.length = n)) (hm : Hid (hs.length = m)) (hI : Hid (∀ k, k < n → dJ (bL os k))) (hb1 : n ≤ 1000000) (hb2 : m ≤ 1000000) (p : aV) (eu : Hid (p.al.length = p.na)) (hzn : Hid (p.zs.length = p.nz)) (hna : p.na < 1000000) (hnz : p.nz < 1000000) (i : Nat) (hi : i < n) (HT : Kp (fP os hs = true)) (yP : Hid (IM P Q G need cs ks os hs n (i : Int) = 0)) (hfr : Hid (qX (bL os i).ps p.ix (bL os i).np = false)) (w : World) (hv : Hid (Vars w)) (hd0 : Hid (bz w)) (hC : Hid (Sl w Cs cs)) (hK : Hid (Sl w Ks ks)) (hO : Hid (Os w O os)) (hH : Hid (Hs w K hs)) (iI : Hid (Sl w p.A p.al)) (iH : Hid (Sl w p.Z p.zs)) :
  Calls Tryz.prog 25 #[gv P Q G, kN need Cs cn cc Ks kn kc, gI O n c K m d, .int .i64 (i : Int), Ae p] w (vU [] 0 [] 0 [.int .i64 8] w) := by
 obtain ⟨w0, HW, aj, kC⟩ := Ri (bq P Q G) fE (.cells #[.int .i64 need, .slice Cs cn cc, .slice Ks kn kc] 26) fE (jh O n c K m d) rq (oh p) AB (.cells #[.slice none 0 0, .slice none 0 0] 52) sO w
 have kO := fq (fun u => Os u O os) aj hO (·.below)
 have kH := fq (fun u => Hs u K hs) aj hH (·.below)
 have kD := o6 aj hd0
 have jX := mkS aj hC
 have jW := mkS aj hK
 have kV := mkV aj hv
 have tQ := mkS aj iI
 have tO := mkS aj iH
 have nT := Bg (w0 := w0) (o := .cells #[.slice none 0 0, .slice none 0 0] 52) (w.heap.size + 4) (by rw [← HW.out]; exact lT _ _ _ _ _ _)
 have ah := bP w0
 clear hC hK hd0 hv hO hH iI iH
 obtain ⟨bO, fO, CF, bN, hok⟩ := ((kO.out _ ah)).out i (by rw [hn.out]; exact hi)
 subst CF
 obtain ⟨o, hoe⟩ : ∃ x, bL os i = x := ⟨_, rfl⟩
 rw [show os.getD i dI = o from hoe] at bN hok
 have nW := aa hoe
 have xD := aa bN
 have lW := aa hok
 clear bN hok hoe
 have Km : Hid (dJ o) := aa (by have := hI.out i hi; rw [nW.out] at this; exact this)
 have hSo : fH o := by have h9 := (eP (gP (fC HT.1).1 i (by rw [hn.out]; exact hi))).1; rw [nW.out] at h9; exact jm h9 lW.out
 have him : i ≤ m := by rw [← hm.out]; exact sP HT.1 (by rw [hn.out]; exact hi)
 have Q3 : Hid ((jf hs i).length = 32) := aa (by rw [mo HT.1 (by rw [hm.out]; exact him)]; exact mI _ _)
 have AP : Hid (aC (jf hs i) = true) := aa (by rw [mo HT.1 (by rw [hm.out]; exact him)]; exact vM _ _)
 have uh : Hid (o.ps.length = o.np) := aa lW.out.2.2.1.1
 have MQ : o.np ≤ 8 := by rw [← uh.out]; exact hSo.n
 have Mt := aa (show ∀ u : World, Hid (Below w0.heap.size w0 u) → Hid (Pa u o.L o.ps) from fun u h => aa (dW.below lW.out h.out).2.2.2.2.2)
 have mg := aa (show ∀ u : World, Hid (Below w0.heap.size w0 u) → u.cell? ⟨bO, fO + i * 9 + 7, none⟩ = some (.slice o.L o.np o.cp) ∧ u.cell? ⟨bO, fO + i * 9 + 8, none⟩ = some (.int .i64 o.key) from fun u h9 => by have h8 := xD.out.below h9.out; exact ⟨h8.2.2.2.2.2.2.2.1, h8.2.2.2.2.2.2.2.2⟩)
 have uk : Hid (qX o.ps p.ix o.np = false) := aa (by have h9 := hfr.out; rw [nW.out] at h9; exact h9)
 go_in
 go_upto_region 1 with (fail)
 rw [HW.out]
 have zc := kC.out _ ah
 have eX := mg.out _ ah
 go_wp2_with fail
 clear zc eX
 refine KE ah (sM P Q G need Cs cs cn cc Ks ks kn kc hcn hkn hQ _ os n c K hs m d hn hm hI hb1 hb2 (i : Int) 0 yP _ (kV.out _ ah) (kD.out _ ah) (jX.out _ ah) (jW.out _ ah) (kO.out _ ah) (kH.out _ ah)) fun w1 ax => ?_
 have zc := kC.out _ ax
 have eX := mg.out _ ax
 go_upto_region 4 with (fail)
 clear zc eX
 have hO := aa (fun (u : World) (h : Hid (Below w0.heap.size w0 u)) => And.intro (kC.out u h) (mg.out u h))
 refine iW [] ax (fun hHeld => ?_)
 refine aU 0 1 2 3 ?_
 refine aU 4 5 6 7 ?_
 refine bY 8 fun K hK => ?_
 go_simp
 refine (sJ o.L o.ps o.np o.cp p.ix false uk (aa (by rw [uh.out]; exact Nat.le_refl _)) (by omega) _ (Mt.out _ hHeld)).mono ?_
 rintro e wA ⟨rfl, bS⟩
 refine hK.out _ _ (bF hHeld bS) (fun hHeld => ?_)
 clear hK K
 try simp only [qq]
 refine gH ?_
 clear hO
 have aY := hHeld
 clear hHeld
 have zc := kC.out _ aY
 have eX := mg.out _ aY
 have jF := nT.out _ aY
 have bV := ai (ag aj.out aY.out) (cs := #[.slice none 0 0, .slice none 0 0]) (Nat.le_add_right w.heap.size 4)
 go_wp2_with ((with_reducible show wpList _ _ _ (⟨none, _, _, _, _, _⟩ :: _) _ _); refine wpList_store_row rfl 52 _ _ rfl (w.heap.size + 4) #[.slice none 0 0, .slice none 0 0] rfl rfl _ _ jF.out (by kernel_rfl) rfl (by simp [Value.oneCell']) ?_)
 have hrw := setRow_heap _ _ _ #[.slice none 0 0, .slice none 0 0] _ _ jF.out
 exact bodyPost_ret (v := .tuple #[gI none 0 0 none 0 0, .int .i64 8]) (aQ (p := 10) (q := 11) (ty := 52) rfl _ _ ⟨w.heap.size + 4, 0, none⟩ _ _ rfl rfl (run_loadVar_row _ _ _ _ _ _ _ hrw Tryz.underlying52 rfl (by kernel_rfl))) rfl (kg rfl bV)
theorem Tt (P Q G need : Int) (Cs : Option Addr) (cs : List Int) (cn cc : Nat) (Ks : Option Addr) (ks : List Int) (kn kc : Nat) (hcn : Hid (cs.length = cn)) (hkn : Hid (ks.length = kn)) (hQ : Q < 9223372036854775808) (O : Option Addr) (os : List az) (n c : Nat) (K : Option Addr) (hs : List (List Int)) (m d : Nat) (hn : Hid (os.length = n)) (hm : Hid (hs.length = m)) (hI : Hid (∀ k, k < n → dJ (bL os k))) (hb1 : n ≤ 1000000) (hb2 : m ≤ 1000000) (p : aV) (eu : Hid (p.al.length = p.na)) (hzn : Hid (p.zs.length = p.nz)) (hna : p.na < 1000000) (hnz : p.nz < 1000000) (i : Nat) (hi : i < n) (HT : Kp (fP os hs = true)) (yP : Hid (IM P Q G need cs ks os hs n (i : Int) = 0)) (hfr : Hid (qX (bL os i).ps p.ix (bL os i).np = true)) (Ho : Hid (Ii P Q G need cs ks (jf hs i) (bL os i) p = false)) (w : World) (hv : Hid (Vars w)) (hd0 : Hid (bz w)) (hC : Hid (Sl w Cs cs)) (hK : Hid (Sl w Ks ks)) (hO : Hid (Os w O os)) (hH : Hid (Hs w K hs)) (iI : Hid (Sl w p.A p.al)) (iH : Hid (Sl w p.Z p.zs)) :
  Calls Tryz.prog 25 #[gv P Q G, kN need Cs cn cc Ks kn kc, gI O n c K m d, .int .i64 (i : Int), Ae p] w (vU [] 0 [] 0 [.int .i64 11] w) := by
 obtain ⟨w0, HW, aj, kC⟩ := Ri (bq P Q G) fE (.cells #[.int .i64 need, .slice Cs cn cc, .slice Ks kn kc] 26) fE (jh O n c K m d) rq (oh p) AB (.cells #[.slice none 0 0, .slice none 0 0] 52) sO w
 have kO := fq (fun u => Os u O os) aj hO (·.below)
 have kH := fq (fun u => Hs u K hs) aj hH (·.below)
 have kD := o6 aj hd0
 have jX := mkS aj hC
 have jW := mkS aj hK
 have kV := mkV aj hv
 have tQ := mkS aj iI
 have tO := mkS aj iH
 have nT := Bg (w0 := w0) (o := .cells #[.slice none 0 0, .slice none 0 0] 52) (w.heap.size + 4) (by rw [← HW.out]; exact lT _ _ _ _ _ _)
 have ah := bP w0
 clear hC hK hd0 hv hO hH iI iH
 obtain ⟨bO, fO, CF, bN, hok⟩ := ((kO.out _ ah)).out i (by rw [hn.out]; exact hi)
 subst CF
 obtain ⟨o, hoe⟩ : ∃ x, bL os i = x := ⟨_, rfl⟩
 rw [show os.getD i dI = o from hoe] at bN hok
 have nW := aa hoe
 have xD := aa bN
 have lW := aa hok
 clear bN hok hoe
 have Km : Hid (dJ o) := aa (by have := hI.out i hi; rw [nW.out] at this; exact this)
 have hSo : fH o := by have h9 := (eP (gP (fC HT.1).1 i (by rw [hn.out]; exact hi))).1; rw [nW.out] at h9; exact jm h9 lW.out
 have him : i ≤ m := by rw [← hm.out]; exact sP HT.1 (by rw [hn.out]; exact hi)
 have Q3 : Hid ((jf hs i).length = 32) := aa (by rw [mo HT.1 (by rw [hm.out]; exact him)]; exact mI _ _)
 have AP : Hid (aC (jf hs i) = true) := aa (by rw [mo HT.1 (by rw [hm.out]; exact him)]; exact vM _ _)
 have uh : Hid (o.ps.length = o.np) := aa lW.out.2.2.1.1
 have MQ : o.np ≤ 8 := by rw [← uh.out]; exact hSo.n
 have Mt := aa (show ∀ u : World, Hid (Below w0.heap.size w0 u) → Hid (Pa u o.L o.ps) from fun u h => aa (dW.below lW.out h.out).2.2.2.2.2)
 have mg := aa (show ∀ u : World, Hid (Below w0.heap.size w0 u) → u.cell? ⟨bO, fO + i * 9 + 7, none⟩ = some (.slice o.L o.np o.cp) ∧ u.cell? ⟨bO, fO + i * 9 + 8, none⟩ = some (.int .i64 o.key) from fun u h9 => by have h8 := xD.out.below h9.out; exact ⟨h8.2.2.2.2.2.2.2.1, h8.2.2.2.2.2.2.2.2⟩)
 have uk : Hid (qX o.ps p.ix o.np = true) := aa (by have h9 := hfr.out; rw [nW.out] at h9; exact h9)
 go_in
 go_upto_region 1 with (fail)
 rw [HW.out]
 have zc := kC.out _ ah
 have eX := mg.out _ ah
 go_wp2_with fail
 clear zc eX
 refine KE ah (sM P Q G need Cs cs cn cc Ks ks kn kc hcn hkn hQ _ os n c K hs m d hn hm hI hb1 hb2 (i : Int) 0 yP _ (kV.out _ ah) (kD.out _ ah) (jX.out _ ah) (jW.out _ ah) (kO.out _ ah) (kH.out _ ah)) fun w1 ax => ?_
 have zc := kC.out _ ax
 have eX := mg.out _ ax
 go_upto_region 4 with (fail)
 clear zc eX
 have hO := aa (fun (u : World) (h : Hid (Below w0.heap.size w0 u)) => And.intro (kC.out u h) (mg.out u h))
 refine iW [] ax (fun hHeld => ?_)
 refine aU 0 1 2 3 ?_
 refine aU 4 5 6 7 ?_
 refine bY 8 fun K hK => ?_
 go_simp
 refine (sJ o.L o.ps o.np o.cp p.ix true uk (aa (by rw [uh.out]; exact Nat.le_refl _)) (by omega) _ (Mt.out _ hHeld)).mono ?_
 rintro e wA ⟨rfl, bS⟩
 refine hK.out _ _ (bF hHeld bS) (fun hHeld => ?_)
 clear hK K
 try simp only [qq]
 refine gH ?_
 clear hO
 have aY := hHeld
 clear hHeld
 have zc := kC.out _ aY
 have eX := mg.out _ aY
 have xB := Ho.out
 rw [nW.out] at xB
 go_wp2_with fail
 clear zc eX
 refine KE aY (zg P Q G need Cs cs cn cc Ks ks kn kc hcn hkn hQ bO fO os n c K hs m d i hn hm hi him hb1 hb2 (jf hs i) (aa rfl) Q3 AP o nW Km hSo p eu hzn hna hnz _ (kV.out _ aY) (kD.out _ aY) (jX.out _ aY) (jW.out _ aY) (kO.out _ aY) (kH.out _ aY) (tQ.out _ aY) (tO.out _ aY) false (aa xB)) fun w3 aN => ?_
 have zc := kC.out _ aN
 have eX := mg.out _ aN
 have jF := nT.out _ aN
 have bV := ai (ag aj.out aN.out) (cs := #[.slice none 0 0, .slice none 0 0]) (Nat.le_add_right w.heap.size 4)
 go_wp2_with ((with_reducible show wpList _ _ _ (⟨none, _, _, _, _, _⟩ :: _) _ _); refine wpList_store_row rfl 52 _ _ rfl (w.heap.size + 4) #[.slice none 0 0, .slice none 0 0] rfl rfl _ _ jF.out (by kernel_rfl) rfl (by simp [Value.oneCell']) ?_)
 have hrw := setRow_heap _ _ _ #[.slice none 0 0, .slice none 0 0] _ _ jF.out
 exact bodyPost_ret (v := .tuple #[gI none 0 0 none 0 0, .int .i64 11]) (aQ (p := 10) (q := 11) (ty := 52) rfl _ _ ⟨w.heap.size + 4, 0, none⟩ _ _ rfl rfl (run_loadVar_row _ _ _ _ _ _ _ hrw Tryz.underlying52 rfl (by kernel_rfl))) rfl (kg rfl bV)
theorem Sv (P Q G need : Int) (Cs : Option Addr) (cs : List Int) (cn cc : Nat) (Ks : Option Addr) (ks : List Int) (kn kc : Nat) (hcn : Hid (cs.length = cn)) (hkn : Hid (ks.length = kn)) (hQ : Q < 9223372036854775808) (O : Option Addr) (os : List az) (n c : Nat) (K : Option Addr) (hs : List (List Int)) (m d : Nat) (hn : Hid (os.length = n)) (hm : Hid (hs.length = m)) (hI : Hid (∀ k, k < n → dJ (bL os k))) (hb1 : n ≤ 1000000) (hb2 : m ≤ 1000000) (p : aV) (eu : Hid (p.al.length = p.na)) (hzn : Hid (p.zs.length = p.nz)) (hna : p.na < 1000000) (hnz : p.nz < 1000000) (i : Nat) (hi : i < n) (HT : Kp (fP os hs = true)) (yP : Hid (IM P Q G need cs ks os hs n (i : Int) = 0)) (hfr : Hid (qX (bL os i).ps p.ix (bL os i).np = true)) (hpn : p.na ≤ 100000 ∧ p.nz ≤ 100000) (Ho : Hid (Ii P Q G need cs ks (jf hs i) (bL os i) p = true)) (w : World) (hv : Hid (Vars w)) (hd0 : Hid (bz w)) (hC : Hid (Sl w Cs cs)) (hK : Hid (Sl w Ks ks)) (hO : Hid (Os w O os)) (hH : Hid (Hs w K hs)) (iI : Hid (Sl w p.A p.al)) (iH : Hid (Sl w p.Z p.zs)) :
  Calls Tryz.prog 24 #[gv P Q G, kN need Cs cn cc Ks kn kc, gI O n c K m d, .int .i64 (i : Int), Ae p] w (vU (os.set i (tF (bL os i) p)) n hs m [.int .i64 0] w) := by
 obtain ⟨aaC, aaB⟩ := hpn
 obtain ⟨w0, HW, aj, kC⟩ := Ri (bq P Q G) fE (.cells #[.int .i64 need, .slice Cs cn cc, .slice Ks kn kc] 26) fE (jh O n c K m d) rq (oh p) AB (.cells #[.slice none 0 0, .slice none 0 0] 52) sO w
 have kO := fq (fun u => Os u O os) aj hO (·.below)
 have kH := fq (fun u => Hs u K hs) aj hH (·.below)
 have kD := o6 aj hd0
 have jX := mkS aj hC
 have jW := mkS aj hK
 have kV := mkV aj hv
 have tQ := mkS aj iI
 have tO := mkS aj iH
 have nT := Bg (w0 := w0) (o := .cells #[.slice none 0 0, .slice none 0 0] 52) (w.heap.size + 4) (by rw [← HW.out]; exact lT _ _ _ _ _ _)
 have ah := bP w0
 clear hC hK hd0 hv
 obtain ⟨bO, fO, CF, bN, hok⟩ := ((kO.out _ ah)).out i (by rw [hn.out]; exact hi)
 subst CF
 obtain ⟨o, hoe⟩ : ∃ x, bL os i = x := ⟨_, rfl⟩
 rw [show os.getD i dI = o from hoe] at bN hok
 have nW := aa hoe
 have xD := aa bN
 have lW := aa hok
 clear bN hok hoe
 have Km : Hid (dJ o) := aa (by have := hI.out i hi; rw [nW.out] at this; exact this)
 have hSo : fH o := by have h9 := (eP (gP (fC HT.1).1 i (by rw [hn.out]; exact hi))).1; rw [nW.out] at h9; exact jm h9 lW.out
 have him : i ≤ m := by rw [← hm.out]; exact sP HT.1 (by rw [hn.out]; exact hi)
 have Q3 : Hid ((jf hs i).length = 32) := aa (by rw [mo HT.1 (by rw [hm.out]; exact him)]; exact mI _ _)
 have AP : Hid (aC (jf hs i) = true) := aa (by rw [mo HT.1 (by rw [hm.out]; exact him)]; exact vM _ _)
 have uh : Hid (o.ps.length = o.np) := aa lW.out.2.2.1.1
 have MQ : o.np ≤ 8 := by rw [← uh.out]; exact hSo.n
 have Mt := aa (show ∀ u : World, Hid (Below w0.heap.size w0 u) → Hid (Pa u o.L o.ps) from fun u h => aa (dW.below lW.out h.out).2.2.2.2.2)
 have mg := aa (show ∀ u : World, Hid (Below w0.heap.size w0 u) → u.cell? ⟨bO, fO + i * 9 + 7, none⟩ = some (.slice o.L o.np o.cp) ∧ u.cell? ⟨bO, fO + i * 9 + 8, none⟩ = some (.int .i64 o.key) from fun u h9 => by have h8 := xD.out.below h9.out; exact ⟨h8.2.2.2.2.2.2.2.1, h8.2.2.2.2.2.2.2.2⟩)
 have uk : Hid (qX o.ps p.ix o.np = true) := aa (by have h9 := hfr.out; rw [nW.out] at h9; exact h9)
 go_in
 go_upto_region 1 with (fail)
 rw [HW.out]
 have zc := kC.out _ ah
 have eX := mg.out _ ah
 go_wp2_with fail
 clear zc eX
 refine KE ah (sK P Q G need Cs cs cn cc Ks ks kn kc hcn hkn hQ _ os n c K hs m d hn hm hI hb1 hb2 (i : Int) 0 yP _ (kV.out _ ah) (kD.out _ ah) (jX.out _ ah) (jW.out _ ah) (kO.out _ ah) (kH.out _ ah)) fun w1 ax => ?_
 have zc := kC.out _ ax
 have eX := mg.out _ ax
 go_upto_region 4 with (fail)
 clear zc eX
 have hO := aa (fun (u : World) (h : Hid (Below w0.heap.size w0 u)) => And.intro (kC.out u h) (mg.out u h))
 refine iW [] ax (fun hHeld => ?_)
 refine aU 0 1 2 3 ?_
 refine aU 4 5 6 7 ?_
 refine bY 8 fun K hK => ?_
 go_simp
 refine (pJ o.L o.ps o.np o.cp p.ix uh (by omega) _ (Mt.out _ hHeld)).mono ?_
 rintro e wA ⟨fi, rfl, hfi, bS⟩
 obtain rfl : fi = -1 := IQ hfi (by rw [uh.out]; exact uk.out)
 refine hK.out _ _ (bF hHeld bS) (fun hHeld => ?_)
 clear hK K
 refine aL 9 ?_
 refine gH ?_
 clear hO
 have aY := hHeld
 clear hHeld
 have zc := kC.out _ aY
 have eX := mg.out _ aY
 have xB := Ho.out
 rw [nW.out] at xB
 go_wp2_with fail
 clear zc eX
 refine KE aY (DF P Q G need Cs cs cn cc Ks ks kn kc hcn hkn hQ bO fO os n c K hs m d i hn hm hi him hb1 hb2 (jf hs i) (aa rfl) Q3 AP o nW Km hSo p eu hzn hna hnz _ (kV.out _ aY) (kD.out _ aY) (jX.out _ aY) (jW.out _ aY) (kO.out _ aY) (kH.out _ aY) (tQ.out _ aY) (tO.out _ aY) true (aa xB)) fun w3 aN => ?_
 have zc := kC.out _ aN
 have eX := mg.out _ aN
 clear xB
 have T_ := Ho.out
 have Bn : ∀ k, k < n → fH (bL os k) := fun k hk => by
  obtain ⟨_, _, _, _, hok⟩ := hO.out k (by rw [hn.out]; exact hk)
  exact jm (eP (gP (fC HT.1).1 k (by rw [hn.out]; exact hk))).1 hok
 have hnp : ∀ k, k < n → (bL os k).np ≤ 1000000 := fun k hk => by
  obtain ⟨_, _, _, _, hok⟩ := hO.out k (by rw [hn.out]; exact hk)
  have := (Bn k hk).n
  have e : (bL os k).ps.length = (bL os k).np := hok.2.2.1.1
  omega
 clear T_
 have su : Hid (Below w.heap.size w w3) := aa (ag aj.out aN.out)
 obtain ⟨i2, hi2, hx0, hx1, hx2⟩ := info_parts yC
 go_wp2_with fail
 refine (GR i _ os n c K hs m d hn hm hb1 hb2 Bn _ (kO.out _ aN) (kH.out _ aN)).mono ?_
 rintro e w4 ⟨O9, c9, K9, d9, Ce, B9, Yh, rfl, hcl, hb0⟩
 have qH := aa hcl
 clear hcl
 have dQ := bF aN hb0
 clear zc eX hb0
 have zc := kC.out _ dQ
 have eX := mg.out _ dQ
 have jU := bP w4
 obtain ⟨g9, abr, Gh, _, _, _, _⟩ := uW lQ 9 dI qH.out.ro qH.out.l (fun _ _ => rfl) (by omega)
 have hO9 : O9 = some ⟨g9, 0, none⟩ := by injection Gh
 subst hO9
 clear Gh
 obtain ⟨w5, hw, wE, Kk, E9, kT⟩ := qZ (jh (some ⟨g9, 0, none⟩) n c9 K9 m d9) qA w4
 have dK := jY dQ wE
 have jT := jY jU wE
 have fB := bP w5
 clear wE
 clear zc eX
 have zc := kC.out _ dK
 have eX := mg.out _ dK
 have Dh := kT.out _ fB
 go_upto_region 9 with (fail)
 clear hw
 have q9 : Hid (KN 0 i w3.heap.size os n hs m (some ⟨g9, 0, none⟩) c9 K9 d9 Ce B9 w4.heap.size Yh w5) := aa (qH.out.below (jT).out)
 have Kq : Hid (w5.heap[w4.heap.size]? = some (jh (some ⟨g9, 0, none⟩) n c9 K9 m d9)) := E9
 obtain ⟨oq, hoq⟩ : ∃ x, bL Ce i = x := ⟨_, rfl⟩
 have Kl := aa hoq
 have MZ : i < Ce.length := by rw [q9.out.l]; exact hi
 have hnq : oq.np = o.np := by have h9 := (q9.out.sam i hi).np; rw [hoq, nW.out] at h9; exact h9
 have HNQ := aa hnq
 have hq8 : oq.np ≤ 8 := by omega
 obtain ⟨g8, NP, e8, _, _, _, Uw⟩ := uW lQ 9 dI q9.out.ro q9.out.l (fun _ _ => rfl) (by omega)
 have eg : g9 = g8 := by injection e8 with e1; injection e1 with e1; injection e1
 subst eg
 have Hq := aa Uw
 obtain ⟨g8, CP, e8, _, _, _, hfz, _⟩ := mV lQ 9 dI q9.out.ro q9.out.l (fun _ _ => rfl) (by omega)
 have eg : g9 = g8 := by injection e8 with e1; injection e1 with e1; injection e1
 subst eg
 have Uo : w5.cell? ⟨g9, i * 9 + 7, none⟩ = some (.slice (bL Ce i).L (bL Ce i).np (bL Ce i).cp) := Uw.at_ i MZ 7 _ rfl
 rw [hoq] at Uo
 have Vx : Hid (Own w5 ⟨g9, i * 9 + 7, none⟩ (.slice oq.L oq.np oq.cp)) := aa ⟨Uo, hfz _⟩
 have kG := aa (show ∀ u : World, Hid (Below w5.heap.size w5 u) → u.cell? ⟨g9, i * 9 + 7, none⟩ = some (.slice oq.L oq.np oq.cp) from fun u h => (Vx.out.below h.out).1)
 have hgg := q9.out.bo g9 rfl
 have hlB := q9.out.lB
 have RF := q9.out.Nu
 have hBN := q9.out.BN
 clear hnq hoq Uw Uo hfz
 clear zc eX Dh
 have Od : Hid (Own w5 ⟨w4.heap.size, 0, none⟩ (.slice (some ⟨g9, 0, none⟩) n c9)) := aa ⟨(kT.out _ (aa (Below.refl _ _))).1, av Kq.out 0⟩
 have Oc : Hid (Own w5 ⟨w4.heap.size, 1, none⟩ (.slice K9 m d9)) := aa ⟨(kT.out _ (aa (Below.refl _ _))).2, av Kq.out 1⟩
 have aau : w0.heap.size ≤ w3.heap.size := aN.out.size
 have hO := aa (fun (u : World) (h : Hid (Below w0.heap.size w0 u ∧ Own u ⟨g9, i * 9 + 7, none⟩ (.slice oq.L oq.np oq.cp) ∧ Own u ⟨w4.heap.size, 0, none⟩ (.slice (some ⟨g9, 0, none⟩) n c9) ∧ Own u ⟨w4.heap.size, 1, none⟩ (.slice K9 m d9))) => And.intro (kC.out u (aa h.out.1)) (And.intro (mg.out u (aa h.out.1)) (And.intro ((h.out.2.1).1) (And.intro ((h.out.2.2.1).1) ((h.out.2.2.2).1)))))
 have hBx6 := aa (show ∀ u u2 : World, Hid (Below w0.heap.size w0 u ∧ Own u ⟨g9, i * 9 + 7, none⟩ (.slice oq.L oq.np oq.cp) ∧ Own u ⟨w4.heap.size, 0, none⟩ (.slice (some ⟨g9, 0, none⟩) n c9) ∧ Own u ⟨w4.heap.size, 1, none⟩ (.slice K9 m d9)) → Below u.heap.size u u2 → Hid (Below w0.heap.size w0 u2 ∧ Own u2 ⟨g9, i * 9 + 7, none⟩ (.slice oq.L oq.np oq.cp) ∧ Own u2 ⟨w4.heap.size, 0, none⟩ (.slice (some ⟨g9, 0, none⟩) n c9) ∧ Own u2 ⟨w4.heap.size, 1, none⟩ (.slice K9 m d9)) from fun u u2 h1 h2 => aa ⟨(ag h1.out.1 h2), ((h1.out.2.1).below h2), ((h1.out.2.2.1).below h2), ((h1.out.2.2.2).below h2)⟩)
 refine wU (fun u => Below w0.heap.size w0 u ∧ Own u ⟨g9, i * 9 + 7, none⟩ (.slice oq.L oq.np oq.cp) ∧ Own u ⟨w4.heap.size, 0, none⟩ (.slice (some ⟨g9, 0, none⟩) n c9) ∧ Own u ⟨w4.heap.size, 1, none⟩ (.slice K9 m d9)) [15] (hBx6.out _ _ (aa ⟨dK.out, Vx.out, Od.out, Oc.out⟩) ((Below.refl _ _).drew)) (fun hHeld => ?_)
 refine aU 0 1 2 3 ?_
 refine aU 4 5 6 7 ?_
 refine aL 8 ?_
 refine aL 9 ?_
 refine bY 10 fun K hK => ?_
 go_simp
 refine (LU p eu hzn (by omega) (by omega) _ (tQ.out _ (aa hHeld.out.1)) (tO.out _ (aa hHeld.out.1))).mono ?_
 rintro e wA ⟨p', rfl, hsp, hpl, hda, hdz, bS⟩
 have YC := aa hsp
 have QV := aa hpl
 have HDA := aa hda
 have HDZ := aa hdz
 have HBP := aa (ag ((Below.refl w5.heap.size w5).drew) bS)
 clear hsp hpl hda hdz
 refine hK.out _ _ (hBx6.out _ _ hHeld bS) (fun hHeld => ?_)
 clear hK K
 try simp only [qq]
 refine bY 11 fun K hK => ?_
 go_simp
 refine hK.out _ _ (hBx6.out _ _ hHeld (af _ _)) (fun hHeld => ?_)
 clear hK K
 try simp only [qq]
 refine bY 12 fun K hK => ?_
 have xE := aa (ag HBP.out (af wA (.cells #[.int .i64 p'.ix, .int .i64 p'.v, .slice p'.A p'.na p'.ca, .int .i64 p'.C, .slice p'.Z p'.nz p'.cz] 56)))
 have CE := q9.out.below xE.out
 have zF := (CE.eq hi).1.row
 rw [Kl.out] at zF
 have zG := (q9.out.eq hi).2
 rw [Kl.out] at zG
 have Hu : Hid (∀ b, (Value.slice oq.L oq.np oq.cp).ownBlock = some b → B9 < b ∧ b < w4.heap.size) := aa (fun b e => by
  have h9 := q9.out.fr b (by rw [← zG]; exact e)
  exact ⟨h9.1, h9.2.1⟩)
 have Hw := aa zG
 have MR : (Value.slice oq.L oq.np oq.cp).ownBlock ≠ some g9 := fun e => (q9.out.fr g9 (by rw [← zG]; exact e)).2.2 rfl
 have Gn : (Value.slice oq.L oq.np oq.cp).ownBlock ≠ some w4.heap.size := fun e => by have := Hu.out _ e; omega
 clear zG
 refine step_append_lies _ (by rfl) _ _ _ (by rfl) B9 56 i2 (.agg #[.int .i64 0, .int .i64 0, .slice none 0 0, .int .i64 0, .slice none 0 0]) 5 72 Tryz.underlying102 hi2 hx0 hx1 hx2 (by rfl) (by decide) _ oq.np (oq.ps.flatMap qQ) (by rfl) zF ⟨wA.heap.size, 0, none⟩ 1 1 [.int .i64 p'.ix, .int .i64 p'.v, .slice p'.A p'.na p'.ca, .int .i64 p'.C, .slice p'.Z p'.nz p'.cz] (by rfl) (by rfl) (World.news_of_block (cs := #[.int .i64 p'.ix, .int .i64 p'.v, .slice p'.A p'.na p'.ca, .int .i64 p'.C, .slice p'.Z p'.nz p'.cz]) (t := 56) (fr := (0, 0)) (heap_alloc_new wA _)) (by simp [Value.oneCell']) (by decide) (by unfold maxLen; omega) (by omega) (Nat.le_of_lt (Nat.lt_of_lt_of_le hBN CE.Nu)) _ rfl ?_
 intro gg cap uN mD fo vL Cw
 have zZ := aa (aO (Vx.out.below xE.out) fo MR)
 have HT0 := aa (aO (Od.out.below xE.out) fo Gn)
 have HT1 := aa (aO (Oc.out.below xE.out) fo Gn)
 have Ow : Hid (Below w0.heap.size w0 uN) := aa ((ag dK.out xE.out).grown fo ((ag dK.out xE.out).size) (fun b e => by have := Hu.out b e; omega))
 have VD := aa CE
 have Y6 := aa fo
 have HOWN := aa mD
 have Oo := aa vL
 have Vm := aa Cw
 clear CE zF MR Gn mD fo vL Cw
 refine hK.out _ _ ((aa ⟨Ow.out, zZ.out, HT0.out, HT1.out⟩)) (fun hHeld => ?_)
 clear hK K
 refine aL 13 ?_
 refine aL 14 ?_
 refine mR 15 fun K hK => ?_
 have st7 := zZ.out.1
 have fr7 := zZ.out.2
 go_simp
 refine hK.out _ _ ?_
 clear hK K
 try simp only [qq]
 refine gH ?_
 clear hHeld
 have Gq := Vm.out
 obtain ⟨wS, Ev⟩ : ∃ x, uN.setCell ⟨g9, i * 9 + 7, none⟩ (.slice (some ⟨gg, 0, none⟩) (oq.np + 1) cap) = x := ⟨_, rfl⟩
 have Um : gg ≠ g9 := by
  rcases Oo.out with e | e
  · exact fun e2 => (q9.out.fr g9 (by rw [← Hw.out, ← e2]; exact e)).2.2 rfl
  ·
   have hz : w4.heap.size ≤ gg := Nat.le_trans VD.out.Nu (by first | exact e | exact Nat.le_of_eq e.symm | omega)
   omega
 have t0 : wS.cell? ⟨w4.heap.size, 0, none⟩ = some (.slice (some ⟨g9, 0, none⟩) n c9) := by rw [← Ev]; exact (ak HT0.out (by simp <;> omega)).1
 have t1 : wS.cell? ⟨w4.heap.size, 1, none⟩ = some (.slice K9 m d9) := by rw [← Ev]; exact (ak HT1.out (by simp <;> omega)).1
 have VH : Hid (Below w0.heap.size w0 wS) := aa (by rw [← Ev]; exact Ow.out.setCell (show w0.heap.size ≤ g9 by omega) _)
 have jF : Hid (wS.heap[w.heap.size + 4]? = some (.cells #[.slice none 0 0, .slice none 0 0] 52)) := nT.out _ VH
 have Hg : Hid (oG lQ 9 dI uN g9 Ce n) := aa (Hq.out.agree ((Y6.out.block g9 (Nat.lt_of_lt_of_le hgg.2 (Nat.le_trans RF (xE.out.size))) (fun e => (q9.out.fr g9 (by rw [← Hw.out]; exact e.symm)).2.2 rfl)).trans (xE.out.block g9 (Nat.lt_of_lt_of_le hgg.2 RF))))
 have HRS : Hid (oG lQ 9 dI wS g9 (Ce.set i { tF oq p' with L := some ⟨gg, 0, none⟩, cp := cap }) n) := aa (by
  rw [← Ev]
  exact Hg.out.setCell (fun x hx => rfl) MZ (by decide) (by rw [show Ce.getD i dI = oq from Kl.out]; rfl))
 have HFA : Hid (∀ b, b < (wA.alloc (.cells #[.int .i64 p'.ix, .int .i64 p'.v, .slice p'.A p'.na p'.ca, .int .i64 p'.C, .slice p'.Z p'.nz p'.cz] 56)).heap.size → Yh ≠ some b → b ≠ g9 → wS.heap[b]? = (wA.alloc (.cells #[.int .i64 p'.ix, .int .i64 p'.v, .slice p'.A p'.na p'.ca, .int .i64 p'.C, .slice p'.Z p'.nz p'.cz] 56)).heap[b]?) := aa (fun b h1 h2 h3 => by
  rw [← Ev]
  exact (Go.Deep.blk_setCell_other _ _ _ _ h3).trans (Y6.out.block b h1 (fun e => h2 (by rw [← Hw.out]; exact e.symm))))
 have HGK : Hid (wS.heap[gg]? = uN.heap[gg]?) := aa (by rw [← Ev]; exact Go.Deep.blk_setCell_other _ _ _ _ Um)
 rw [Ev]
 clear Ev st7 fr7
 go_wp2_with ((with_reducible show wpList _ _ _ (⟨none, _, _, _, _, _⟩ :: _) _ _); refine wpList_store_row rfl 52 _ _ rfl (w.heap.size + 4) #[.slice (some ⟨g9, 0, none⟩) n c9, .slice K9 m d9] rfl rfl _ _ jF.out (by kernel_rfl) rfl (by simp [Value.oneCell']) ?_)
 have hrw := setRow_heap _ _ _ #[.slice (some ⟨g9, 0, none⟩) n c9, .slice K9 m d9] _ _ jF.out
 have bV := ai (ag aj.out VH.out) (cs := #[.slice (some ⟨g9, 0, none⟩) n c9, .slice K9 m d9]) (Nat.le_add_right w.heap.size 4)
 have hsz0 : w0.heap.size = w.heap.size + 5 := by rw [← HW.out]; simp
 have hgr : g9 ≠ w.heap.size + 4 := by omega
 have Un : gg ≠ w.heap.size + 4 := by
  rcases Oo.out with e | e
  · have := Hu.out gg e; omega
  ·
   have hz : w4.heap.size ≤ gg := Nat.le_trans VD.out.Nu (by first | exact e | exact Nat.le_of_eq e.symm | omega)
   omega
 have hcap : oq.np + 1 ≤ cap := by
  obtain ⟨_, _, e7, h7, _⟩ := iX HOWN.out
  injection e7 with _ _ e8
  rw [e8]; exact h7
 have hbu : Below w.heap.size w (wA.alloc (.cells #[.int .i64 p'.ix, .int .i64 p'.v, .slice p'.A p'.na p'.ca, .int .i64 p'.C, .slice p'.Z p'.nz p'.cz] 56)) := ag aj.out (ag dK.out xE.out)
 obtain ⟨os2, hl2, Ua, ho2, hh2⟩ := VD.out.added (wF := wS.setRow (w.heap.size + 4) #[.slice (some ⟨g9, 0, none⟩) n c9, .slice K9 m d9]) (r := w.heap.size + 4) (p := p) (p' := p') (uN := uN) (gg := gg) (cap := cap) (vJ hH.out) hm.out hn.out hi (by rw [Kl.out]; exact HOWN.out) ((setRow_other _ _ _ _ Un).trans HGK.out) (fun b h1 h2 h3 h4 => (setRow_other _ _ _ _ h4).trans (HFA.out b h1 h2 h3)) ⟨by omega, by omega⟩ (by rw [Kl.out]; exact hcap) (by rw [Kl.out]; exact HRS.out.agree (setRow_other _ _ _ _ hgr)) YC.out QV.out ((HDA.out.below (af wA (.cells #[.int .i64 p'.ix, .int .i64 p'.v, .slice p'.A p'.na p'.ca, .int .i64 p'.C, .slice p'.Z p'.nz p'.cz] 56))).shrink (fun b _ q => Nat.lt_of_lt_of_le q.2 RF)) ((HDZ.out.below (af wA (.cells #[.int .i64 p'.ix, .int .i64 p'.v, .slice p'.A p'.na p'.ca, .int .i64 p'.C, .slice p'.Z p'.nz p'.cz] 56))).shrink (fun b _ q => Nat.lt_of_lt_of_le q.2 RF))
 exact bodyPost_ret (v := .tuple #[gI (some ⟨g9, 0, none⟩) n c9 K9 m d9, .int .i64 0]) (aQ (p := 10) (q := 11) (ty := 52) rfl _ _ ⟨w.heap.size + 4, 0, none⟩ _ _ rfl rfl (run_loadVar_row _ _ _ _ _ _ _ hrw Tryz.underlying52 rfl (by kernel_rfl))) rfl ⟨some ⟨g9, 0, none⟩, c9, K9, d9, os2, rfl, hl2, Ua, ho2, hh2, bV⟩
theorem Tu (P Q G need : Int) (Cs : Option Addr) (cs : List Int) (cn cc : Nat) (Ks : Option Addr) (ks : List Int) (kn kc : Nat) (hcn : Hid (cs.length = cn)) (hkn : Hid (ks.length = kn)) (hQ : Q < 9223372036854775808) (O : Option Addr) (os : List az) (n c : Nat) (K : Option Addr) (hs : List (List Int)) (m d : Nat) (hn : Hid (os.length = n)) (hm : Hid (hs.length = m)) (hI : Hid (∀ k, k < n → dJ (bL os k))) (hb1 : n ≤ 1000000) (hb2 : m ≤ 1000000) (p : aV) (eu : Hid (p.al.length = p.na)) (hzn : Hid (p.zs.length = p.nz)) (hna : p.na < 1000000) (hnz : p.nz < 1000000) (i : Nat) (hi : i < n) (HT : Kp (fP os hs = true)) (yP : Hid (IM P Q G need cs ks os hs n (i : Int) = 0)) (hfr : Hid (qX (bL os i).ps p.ix (bL os i).np = true)) (hpn : p.na ≤ 100000 ∧ p.nz ≤ 100000) (Ho : Hid (Ii P Q G need cs ks (jf hs i) (bL os i) p = true)) (w : World) (hv : Hid (Vars w)) (hd0 : Hid (bz w)) (hC : Hid (Sl w Cs cs)) (hK : Hid (Sl w Ks ks)) (hO : Hid (Os w O os)) (hH : Hid (Hs w K hs)) (iI : Hid (Sl w p.A p.al)) (iH : Hid (Sl w p.Z p.zs)) :
  Calls Tryz.prog 25 #[gv P Q G, kN need Cs cn cc Ks kn kc, gI O n c K m d, .int .i64 (i : Int), Ae p] w (vU (os.set i (tF (bL os i) p)) n hs m [.int .i64 0] w) := by
 obtain ⟨aaC, aaB⟩ := hpn
 obtain ⟨w0, HW, aj, kC⟩ := Ri (bq P Q G) fE (.cells #[.int .i64 need, .slice Cs cn cc, .slice Ks kn kc] 26) fE (jh O n c K m d) rq (oh p) AB (.cells #[.slice none 0 0, .slice none 0 0] 52) sO w
 have kO := fq (fun u => Os u O os) aj hO (·.below)
 have kH := fq (fun u => Hs u K hs) aj hH (·.below)
 have kD := o6 aj hd0
 have jX := mkS aj hC
 have jW := mkS aj hK
 have kV := mkV aj hv
 have tQ := mkS aj iI
 have tO := mkS aj iH
 have nT := Bg (w0 := w0) (o := .cells #[.slice none 0 0, .slice none 0 0] 52) (w.heap.size + 4) (by rw [← HW.out]; exact lT _ _ _ _ _ _)
 have ah := bP w0
 clear hC hK hd0 hv
 obtain ⟨bO, fO, CF, bN, hok⟩ := ((kO.out _ ah)).out i (by rw [hn.out]; exact hi)
 subst CF
 obtain ⟨o, hoe⟩ : ∃ x, bL os i = x := ⟨_, rfl⟩
 rw [show os.getD i dI = o from hoe] at bN hok
 have nW := aa hoe
 have xD := aa bN
 have lW := aa hok
 clear bN hok hoe
 have Km : Hid (dJ o) := aa (by have := hI.out i hi; rw [nW.out] at this; exact this)
 have hSo : fH o := by have h9 := (eP (gP (fC HT.1).1 i (by rw [hn.out]; exact hi))).1; rw [nW.out] at h9; exact jm h9 lW.out
 have him : i ≤ m := by rw [← hm.out]; exact sP HT.1 (by rw [hn.out]; exact hi)
 have Q3 : Hid ((jf hs i).length = 32) := aa (by rw [mo HT.1 (by rw [hm.out]; exact him)]; exact mI _ _)
 have AP : Hid (aC (jf hs i) = true) := aa (by rw [mo HT.1 (by rw [hm.out]; exact him)]; exact vM _ _)
 have uh : Hid (o.ps.length = o.np) := aa lW.out.2.2.1.1
 have MQ : o.np ≤ 8 := by rw [← uh.out]; exact hSo.n
 have Mt := aa (show ∀ u : World, Hid (Below w0.heap.size w0 u) → Hid (Pa u o.L o.ps) from fun u h => aa (dW.below lW.out h.out).2.2.2.2.2)
 have mg := aa (show ∀ u : World, Hid (Below w0.heap.size w0 u) → u.cell? ⟨bO, fO + i * 9 + 7, none⟩ = some (.slice o.L o.np o.cp) ∧ u.cell? ⟨bO, fO + i * 9 + 8, none⟩ = some (.int .i64 o.key) from fun u h9 => by have h8 := xD.out.below h9.out; exact ⟨h8.2.2.2.2.2.2.2.1, h8.2.2.2.2.2.2.2.2⟩)
 have uk : Hid (qX o.ps p.ix o.np = true) := aa (by have h9 := hfr.out; rw [nW.out] at h9; exact h9)
 go_in
 go_upto_region 1 with (fail)
 rw [HW.out]
 have zc := kC.out _ ah
 have eX := mg.out _ ah
 go_wp2_with fail
 clear zc eX
 refine KE ah (sM P Q G need Cs cs cn cc Ks ks kn kc hcn hkn hQ _ os n c K hs m d hn hm hI hb1 hb2 (i : Int) 0 yP _ (kV.out _ ah) (kD.out _ ah) (jX.out _ ah) (jW.out _ ah) (kO.out _ ah) (kH.out _ ah)) fun w1 ax => ?_
 have zc := kC.out _ ax
 have eX := mg.out _ ax
 go_upto_region 4 with (fail)
 clear zc eX
 have hO := aa (fun (u : World) (h : Hid (Below w0.heap.size w0 u)) => And.intro (kC.out u h) (mg.out u h))
 refine iW [] ax (fun hHeld => ?_)
 refine aU 0 1 2 3 ?_
 refine aU 4 5 6 7 ?_
 refine bY 8 fun K hK => ?_
 go_simp
 refine (sJ o.L o.ps o.np o.cp p.ix true uk (aa (by rw [uh.out]; exact Nat.le_refl _)) (by omega) _ (Mt.out _ hHeld)).mono ?_
 rintro e wA ⟨rfl, bS⟩
 refine hK.out _ _ (bF hHeld bS) (fun hHeld => ?_)
 clear hK K
 try simp only [qq]
 refine gH ?_
 clear hO
 have aY := hHeld
 clear hHeld
 have zc := kC.out _ aY
 have eX := mg.out _ aY
 have xB := Ho.out
 rw [nW.out] at xB
 go_wp2_with fail
 clear zc eX
 refine KE aY (zg P Q G need Cs cs cn cc Ks ks kn kc hcn hkn hQ bO fO os n c K hs m d i hn hm hi him hb1 hb2 (jf hs i) (aa rfl) Q3 AP o nW Km hSo p eu hzn hna hnz _ (kV.out _ aY) (kD.out _ aY) (jX.out _ aY) (jW.out _ aY) (kO.out _ aY) (kH.out _ aY) (tQ.out _ aY) (tO.out _ aY) true (aa xB)) fun w3 aN => ?_
 have zc := kC.out _ aN
 have eX := mg.out _ aN
 clear xB
 have T_ := Ho.out
 have Bn : ∀ k, k < n → fH (bL os k) := fun k hk => by
  obtain ⟨_, _, _, _, hok⟩ := hO.out k (by rw [hn.out]; exact hk)
  exact jm (eP (gP (fC HT.1).1 k (by rw [hn.out]; exact hk))).1 hok
 have hnp : ∀ k, k < n → (bL os k).np ≤ 1000000 := fun k hk => by
  obtain ⟨_, _, _, _, hok⟩ := hO.out k (by rw [hn.out]; exact hk)
  have := (Bn k hk).n
  have e : (bL os k).ps.length = (bL os k).np := hok.2.2.1.1
  omega
 clear T_
 have su : Hid (Below w.heap.size w w3) := aa (ag aj.out aN.out)
 obtain ⟨i2, hi2, hx0, hx1, hx2⟩ := info_parts yC
 go_wp2_with fail
 refine (UL i _ os n c K hs m d hn hm hb1 hb2 hnp w hO _ su (kH.out _ aN)).mono ?_
 rintro e w4 ⟨O9, c9, K9, d9, Ce, B9, Yh, rfl, hcl, hb0⟩
 have qH := aa hcl
 clear hcl
 have dQ := bF aN hb0
 clear zc eX hb0
 have zc := kC.out _ dQ
 have eX := mg.out _ dQ
 have jU := bP w4
 obtain ⟨g9, abr, Gh, _, _, _, _⟩ := uW lQ 9 dI qH.out.ro qH.out.l (fun _ _ => rfl) (by omega)
 have hO9 : O9 = some ⟨g9, 0, none⟩ := by injection Gh
 subst hO9
 clear Gh
 obtain ⟨w5, hw, wE, Kk, E9, kT⟩ := qZ (jh (some ⟨g9, 0, none⟩) n c9 K9 m d9) qA w4
 have dK := jY dQ wE
 have jT := jY jU wE
 have fB := bP w5
 clear wE
 clear zc eX
 have zc := kC.out _ dK
 have eX := mg.out _ dK
 have Dh := kT.out _ fB
 go_upto_region 9 with (fail)
 clear hw
 have q9 : Hid (KN w.heap.size i w3.heap.size os n hs m (some ⟨g9, 0, none⟩) c9 K9 d9 Ce B9 w4.heap.size Yh w5) := aa (qH.out.below (jT).out)
 have Kq : Hid (w5.heap[w4.heap.size]? = some (jh (some ⟨g9, 0, none⟩) n c9 K9 m d9)) := E9
 obtain ⟨oq, hoq⟩ : ∃ x, bL Ce i = x := ⟨_, rfl⟩
 have Kl := aa hoq
 have MZ : i < Ce.length := by rw [q9.out.l]; exact hi
 have hnq : oq.np = o.np := by have h9 := (q9.out.sam i hi).np; rw [hoq, nW.out] at h9; exact h9
 have HNQ := aa hnq
 have hq8 : oq.np ≤ 8 := by omega
 obtain ⟨g8, NP, e8, _, _, _, Uw⟩ := uW lQ 9 dI q9.out.ro q9.out.l (fun _ _ => rfl) (by omega)
 have eg : g9 = g8 := by injection e8 with e1; injection e1 with e1; injection e1
 subst eg
 have Hq := aa Uw
 obtain ⟨g8, CP, e8, _, _, _, hfz, _⟩ := mV lQ 9 dI q9.out.ro q9.out.l (fun _ _ => rfl) (by omega)
 have eg : g9 = g8 := by injection e8 with e1; injection e1 with e1; injection e1
 subst eg
 have Uo : w5.cell? ⟨g9, i * 9 + 7, none⟩ = some (.slice (bL Ce i).L (bL Ce i).np (bL Ce i).cp) := Uw.at_ i MZ 7 _ rfl
 rw [hoq] at Uo
 have Vx : Hid (Own w5 ⟨g9, i * 9 + 7, none⟩ (.slice oq.L oq.np oq.cp)) := aa ⟨Uo, hfz _⟩
 have kG := aa (show ∀ u : World, Hid (Below w5.heap.size w5 u) → u.cell? ⟨g9, i * 9 + 7, none⟩ = some (.slice oq.L oq.np oq.cp) from fun u h => (Vx.out.below h.out).1)
 have hgg := q9.out.bo g9 rfl
 have hlB := q9.out.lB
 have RF := q9.out.Nu
 have hBN := q9.out.BN
 clear hnq hoq Uw Uo hfz
 clear zc eX Dh
 have Od : Hid (Own w5 ⟨w4.heap.size, 0, none⟩ (.slice (some ⟨g9, 0, none⟩) n c9)) := aa ⟨(kT.out _ (aa (Below.refl _ _))).1, av Kq.out 0⟩
 have Oc : Hid (Own w5 ⟨w4.heap.size, 1, none⟩ (.slice K9 m d9)) := aa ⟨(kT.out _ (aa (Below.refl _ _))).2, av Kq.out 1⟩
 have aau : w0.heap.size ≤ w3.heap.size := aN.out.size
 have hO := aa (fun (u : World) (h : Hid (Below w0.heap.size w0 u ∧ Own u ⟨g9, i * 9 + 7, none⟩ (.slice oq.L oq.np oq.cp) ∧ Own u ⟨w4.heap.size, 0, none⟩ (.slice (some ⟨g9, 0, none⟩) n c9) ∧ Own u ⟨w4.heap.size, 1, none⟩ (.slice K9 m d9))) => And.intro (kC.out u (aa h.out.1)) (And.intro (mg.out u (aa h.out.1)) (And.intro ((h.out.2.1).1) (And.intro ((h.out.2.2.1).1) ((h.out.2.2.2).1)))))
 have hBx6 := aa (show ∀ u u2 : World, Hid (Below w0.heap.size w0 u ∧ Own u ⟨g9, i * 9 + 7, none⟩ (.slice oq.L oq.np oq.cp) ∧ Own u ⟨w4.heap.size, 0, none⟩ (.slice (some ⟨g9, 0, none⟩) n c9) ∧ Own u ⟨w4.heap.size, 1, none⟩ (.slice K9 m d9)) → Below u.heap.size u u2 → Hid (Below w0.heap.size w0 u2 ∧ Own u2 ⟨g9, i * 9 + 7, none⟩ (.slice oq.L oq.np oq.cp) ∧ Own u2 ⟨w4.heap.size, 0, none⟩ (.slice (some ⟨g9, 0, none⟩) n c9) ∧ Own u2 ⟨w4.heap.size, 1, none⟩ (.slice K9 m d9)) from fun u u2 h1 h2 => aa ⟨(ag h1.out.1 h2), ((h1.out.2.1).below h2), ((h1.out.2.2.1).below h2), ((h1.out.2.2.2).below h2)⟩)
 refine wU (fun u => Below w0.heap.size w0 u ∧ Own u ⟨g9, i * 9 + 7, none⟩ (.slice oq.L oq.np oq.cp) ∧ Own u ⟨w4.heap.size, 0, none⟩ (.slice (some ⟨g9, 0, none⟩) n c9) ∧ Own u ⟨w4.heap.size, 1, none⟩ (.slice K9 m d9)) [14] (hBx6.out _ _ (aa ⟨dK.out, Vx.out, Od.out, Oc.out⟩) ((Below.refl _ _).drew)) (fun hHeld => ?_)
 refine aU 0 1 2 3 ?_
 refine aU 4 5 6 7 ?_
 refine aL 8 ?_
 refine aL 9 ?_
 refine bY 10 fun K hK => ?_
 go_simp
 refine hK.out _ _ (hBx6.out _ _ hHeld (af _ _)) (fun hHeld => ?_)
 clear hK K
 try simp only [qq]
 refine bY 11 fun K hK => ?_
 have xE := aa (ag ((Below.refl w5.heap.size w5).drew) (af w5.drew (.cells #[.int .i64 p.ix, .int .i64 p.v, .slice p.A p.na p.ca, .int .i64 p.C, .slice p.Z p.nz p.cz] 56)))
 have CE := q9.out.below xE.out
 have zF := (CE.eq hi).1.row
 rw [Kl.out] at zF
 have zG := (q9.out.eq hi).2
 rw [Kl.out] at zG
 have Hu : Hid (∀ b, (Value.slice oq.L oq.np oq.cp).ownBlock = some b → B9 < b ∧ b < w4.heap.size) := aa (fun b e => by
  have h9 := q9.out.fr b (by rw [← zG]; exact e)
  exact ⟨h9.1, h9.2.1⟩)
 have Hw := aa zG
 have MR : (Value.slice oq.L oq.np oq.cp).ownBlock ≠ some g9 := fun e => (q9.out.fr g9 (by rw [← zG]; exact e)).2.2 rfl
 have Gn : (Value.slice oq.L oq.np oq.cp).ownBlock ≠ some w4.heap.size := fun e => by have := Hu.out _ e; omega
 clear zG
 refine step_append_lies _ (by rfl) _ _ _ (by rfl) B9 56 i2 (.agg #[.int .i64 0, .int .i64 0, .slice none 0 0, .int .i64 0, .slice none 0 0]) 5 72 Tryz.underlying102 hi2 hx0 hx1 hx2 (by rfl) (by decide) _ oq.np (oq.ps.flatMap qQ) (by rfl) zF ⟨w5.drew.heap.size, 0, none⟩ 1 1 [.int .i64 p.ix, .int .i64 p.v, .slice p.A p.na p.ca, .int .i64 p.C, .slice p.Z p.nz p.cz] (by rfl) (by rfl) (World.news_of_block (cs := #[.int .i64 p.ix, .int .i64 p.v, .slice p.A p.na p.ca, .int .i64 p.C, .slice p.Z p.nz p.cz]) (t := 56) (fr := (0, 0)) (heap_alloc_new w5.drew _)) (by simp [Value.oneCell']) (by decide) (by unfold maxLen; omega) (by omega) (Nat.le_of_lt (Nat.lt_of_lt_of_le hBN CE.Nu)) _ rfl ?_
 intro gg cap uN mD fo vL Cw
 have zZ := aa (aO (Vx.out.below xE.out) fo MR)
 have HT0 := aa (aO (Od.out.below xE.out) fo Gn)
 have HT1 := aa (aO (Oc.out.below xE.out) fo Gn)
 have Ow : Hid (Below w0.heap.size w0 uN) := aa ((ag dK.out xE.out).grown fo ((ag dK.out xE.out).size) (fun b e => by have := Hu.out b e; omega))
 have VD := aa CE
 have Y6 := aa fo
 have HOWN := aa mD
 have Oo := aa vL
 have Vm := aa Cw
 clear CE zF MR Gn mD fo vL Cw
 refine hK.out _ _ ((aa ⟨Ow.out, zZ.out, HT0.out, HT1.out⟩)) (fun hHeld => ?_)
 clear hK K
 refine aL 12 ?_
 refine aL 13 ?_
 refine mR 14 fun K hK => ?_
 have st7 := zZ.out.1
 have fr7 := zZ.out.2
 go_simp
 refine hK.out _ _ ?_
 clear hK K
 try simp only [qq]
 refine gH ?_
 clear hHeld
 have Gq := Vm.out
 obtain ⟨wS, Ev⟩ : ∃ x, uN.setCell ⟨g9, i * 9 + 7, none⟩ (.slice (some ⟨gg, 0, none⟩) (oq.np + 1) cap) = x := ⟨_, rfl⟩
 have Um : gg ≠ g9 := by
  rcases Oo.out with e | e
  · exact fun e2 => (q9.out.fr g9 (by rw [← Hw.out, ← e2]; exact e)).2.2 rfl
  ·
   have hz : w4.heap.size ≤ gg := Nat.le_trans VD.out.Nu (by first | exact e | exact Nat.le_of_eq e.symm | omega)
   omega
 have t0 : wS.cell? ⟨w4.heap.size, 0, none⟩ = some (.slice (some ⟨g9, 0, none⟩) n c9) := by rw [← Ev]; exact (ak HT0.out (by simp <;> omega)).1
 have t1 : wS.cell? ⟨w4.heap.size, 1, none⟩ = some (.slice K9 m d9) := by rw [← Ev]; exact (ak HT1.out (by simp <;> omega)).1
 have VH : Hid (Below w0.heap.size w0 wS) := aa (by rw [← Ev]; exact Ow.out.setCell (show w0.heap.size ≤ g9 by omega) _)
 have jF : Hid (wS.heap[w.heap.size + 4]? = some (.cells #[.slice none 0 0, .slice none 0 0] 52)) := nT.out _ VH
 have Hg : Hid (oG lQ 9 dI uN g9 Ce n) := aa (Hq.out.agree ((Y6.out.block g9 (Nat.lt_of_lt_of_le hgg.2 (Nat.le_trans RF (xE.out.size))) (fun e => (q9.out.fr g9 (by rw [← Hw.out]; exact e.symm)).2.2 rfl)).trans (xE.out.block g9 (Nat.lt_of_lt_of_le hgg.2 RF))))
 have HRS : Hid (oG lQ 9 dI wS g9 (Ce.set i { tF oq p with L := some ⟨gg, 0, none⟩, cp := cap }) n) := aa (by
  rw [← Ev]
  exact Hg.out.setCell (fun x hx => rfl) MZ (by decide) (by rw [show Ce.getD i dI = oq from Kl.out]; rfl))
 have HFA : Hid (∀ b, b < (w5.drew.alloc (.cells #[.int .i64 p.ix, .int .i64 p.v, .slice p.A p.na p.ca, .int .i64 p.C, .slice p.Z p.nz p.cz] 56)).heap.size → Yh ≠ some b → b ≠ g9 → wS.heap[b]? = (w5.drew.alloc (.cells #[.int .i64 p.ix, .int .i64 p.v, .slice p.A p.na p.ca, .int .i64 p.C, .slice p.Z p.nz p.cz] 56)).heap[b]?) := aa (fun b h1 h2 h3 => by
  rw [← Ev]
  exact (Go.Deep.blk_setCell_other _ _ _ _ h3).trans (Y6.out.block b h1 (fun e => h2 (by rw [← Hw.out]; exact e.symm))))
 have HGK : Hid (wS.heap[gg]? = uN.heap[gg]?) := aa (by rw [← Ev]; exact Go.Deep.blk_setCell_other _ _ _ _ Um)
 rw [Ev]
 clear Ev st7 fr7
 go_wp2_with ((with_reducible show wpList _ _ _ (⟨none, _, _, _, _, _⟩ :: _) _ _); refine wpList_store_row rfl 52 _ _ rfl (w.heap.size + 4) #[.slice (some ⟨g9, 0, none⟩) n c9, .slice K9 m d9] rfl rfl _ _ jF.out (by kernel_rfl) rfl (by simp [Value.oneCell']) ?_)
 have hrw := setRow_heap _ _ _ #[.slice (some ⟨g9, 0, none⟩) n c9, .slice K9 m d9] _ _ jF.out
 have bV := ai (ag aj.out VH.out) (cs := #[.slice (some ⟨g9, 0, none⟩) n c9, .slice K9 m d9]) (Nat.le_add_right w.heap.size 4)
 have hsz0 : w0.heap.size = w.heap.size + 5 := by rw [← HW.out]; simp
 have hgr : g9 ≠ w.heap.size + 4 := by omega
 have Un : gg ≠ w.heap.size + 4 := by
  rcases Oo.out with e | e
  · have := Hu.out gg e; omega
  ·
   have hz : w4.heap.size ≤ gg := Nat.le_trans VD.out.Nu (by first | exact e | exact Nat.le_of_eq e.symm | omega)
   omega
 have hcap : oq.np + 1 ≤ cap := by
  obtain ⟨_, _, e7, h7, _⟩ := iX HOWN.out
  injection e7 with _ _ e8
  rw [e8]; exact h7
 have hbu : Below w.heap.size w (w5.drew.alloc (.cells #[.int .i64 p.ix, .int .i64 p.v, .slice p.A p.na p.ca, .int .i64 p.C, .slice p.Z p.nz p.cz] 56)) := ag aj.out (ag dK.out xE.out)
 obtain ⟨os2, hl2, Ua, ho2, hh2⟩ := VD.out.added (wF := wS.setRow (w.heap.size + 4) #[.slice (some ⟨g9, 0, none⟩) n c9, .slice K9 m d9]) (r := w.heap.size + 4) (p := p) (p' := p) (uN := uN) (gg := gg) (cap := cap) (vJ hH.out) hm.out hn.out hi (by rw [Kl.out]; exact HOWN.out) ((setRow_other _ _ _ _ Un).trans HGK.out) (fun b h1 h2 h3 h4 => (setRow_other _ _ _ _ h4).trans (HFA.out b h1 h2 h3)) ⟨by omega, by omega⟩ (by rw [Kl.out]; exact hcap) (by rw [Kl.out]; exact HRS.out.agree (setRow_other _ _ _ _ hgr)) (qC.rfl' p) ⟨eu.out, hzn.out⟩ (wM iI.out hbu (fun b h1 h2 => by omega)) (wM iH.out hbu (fun b h1 h2 => by omega))
 exact bodyPost_ret (v := .tuple #[gI (some ⟨g9, 0, none⟩) n c9 K9 m d9, .int .i64 0]) (aQ (p := 10) (q := 11) (ty := 52) rfl _ _ ⟨w.heap.size + 4, 0, none⟩ _ _ rfl rfl (run_loadVar_row _ _ _ _ _ _ _ hrw Tryz.underlying52 rfl (by kernel_rfl))) rfl ⟨some ⟨g9, 0, none⟩, c9, K9, d9, os2, rfl, hl2, Ua, ho2, hh2, bV⟩
end Go.Proofs.YtchcllcbknfikaaGreatDoor