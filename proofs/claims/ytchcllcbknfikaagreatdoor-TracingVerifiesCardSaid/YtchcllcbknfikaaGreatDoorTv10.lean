/- Contracts and lemmas: TlY, TlZa, TlZb, TlZc, TlV, TlVb, TlH, TlVc, TlVd, TlVe, TlVf. -/
import Derived.Test.YtchcllcbknfikaaGreatDoorTv9
set_option linter.unusedVariables false
set_option linter.unusedSimpArgs false
set_option maxRecDepth 100000
set_option maxHeartbeats 25600000
namespace Go.Proofs.YtchcllcbknfikaaGreatDoor
open Go.RowKit rQ
theorem TM (a4 a5 a6 a7 : Nat) (P Q G need : Int) (Cs : Option Addr) (cs : List Int) (cn cc : Nat) (Ks : Option Addr) (ks : List Int) (kn kc : Nat) (hcn : Hid (cs.length = cn)) (hkn : Hid (ks.length = kn)) (hQ : Q < 9223372036854775808) (bO fO : Nat) (os : List aJ) (n c : Nat) (K : Option Addr) (hs : List (List Int)) (m d i : Nat) (hn : Hid (os.length = n)) (hm : Hid (hs.length = m)) (hi : i < n) (him : i ≤ m) (hb1 : n ≤ 1000000) (hb2 : m ≤ 1000000) (h : List Int) (hh : Hid (lC hs i = h)) (hl : Hid (h.length = 32)) (hb : Hid (az h = true)) (o : aJ) (ho : Hid (iT os i = o)) (hI : Hid (gP o)) (hSo : lD o) (p : a_) (eX : Hid (p.al.length = p.na)) (hzn : Hid (p.zs.length = p.nz)) (hna : p.na < 1000000) (hnz : p.nz < 1000000) (hsh : Hid (tZ p.na p.nz = false)) (w : World) (hv : Hid (Vars w)) (hd0 : Hid (bF w)) (hC : Hid (Sl w Cs cs)) (hK : Hid (Sl w Ks ks)) (hO : Hid (Os w (some ⟨bO, fO, none⟩) os)) (hH : Hid (Hs w K hs)) (kF : Hid (Sl w p.A p.al)) (kz : Hid (Sl w p.Z p.zs)) (hcap : Hid (w.cell? ⟨a4, 0, none⟩ = some (.int .i64 P) ∧ w.cell? ⟨a4, 1, none⟩ = some (.int .i64 Q) ∧ w.cell? ⟨a4, 2, none⟩ = some (.int .i64 G) ∧ w.cell? ⟨a5, 0, none⟩ = some (.int .i64 need) ∧ w.cell? ⟨a5, 1, none⟩ = some (.slice Cs cn cc) ∧ w.cell? ⟨a5, 2, none⟩ = some (.slice Ks kn kc) ∧ w.cell? ⟨a6, 0, none⟩ = some (.slice (some ⟨bO, fO, none⟩) n c) ∧ w.cell? ⟨a6, 1, none⟩ = some (.slice K m d) ∧ w.cell? ⟨a7, 0, none⟩ = some (.int .i64 (i : Int)))) :
  Calls Tryz.prog 137 #[G7 p, .pointer (some ⟨a4, 0, none⟩), .pointer (some ⟨a5, 0, none⟩), .pointer (some ⟨a6, 0, none⟩), .pointer (some ⟨a7, 0, none⟩)] w (Rt w (.bool true)) := by
 obtain ⟨w0, HW, ai, kC⟩ := st1 (uf p) sG w
 have kO := gV (fun u => Os u (some ⟨bO, fO, none⟩) os) ai hO (·.below)
 have kH := gV (fun u => Hs u K hs) ai hH (·.below)
 have kD := r_ ai hd0
 have tF := mkS ai hC
 have tC := mkS ai hK
 have kA1 := mkS ai kF
 have O9 := mkS ai kz
 have kV := mkV ai hv
 have ah := bS w0
 clear hO hH hd0 hC hK kF kz hv
 have VQ := aa (show ∀ u : World, Hid (Below w0.heap.size w0 u) → u.cell? ⟨a4, 0, none⟩ = some (.int .i64 P) ∧ u.cell? ⟨a4, 1, none⟩ = some (.int .i64 Q) ∧ u.cell? ⟨a4, 2, none⟩ = some (.int .i64 G) ∧ u.cell? ⟨a5, 0, none⟩ = some (.int .i64 need) ∧ u.cell? ⟨a5, 1, none⟩ = some (.slice Cs cn cc) ∧ u.cell? ⟨a5, 2, none⟩ = some (.slice Ks kn kc) ∧ u.cell? ⟨a6, 0, none⟩ = some (.slice (some ⟨bO, fO, none⟩) n c) ∧ u.cell? ⟨a6, 1, none⟩ = some (.slice K m d) ∧ u.cell? ⟨a7, 0, none⟩ = some (.int .i64 (i : Int)) from fun u h9 => ⟨cell_below (cell_below hcap.out.1 ai.out) h9.out, cell_below (cell_below hcap.out.2.1 ai.out) h9.out, cell_below (cell_below hcap.out.2.2.1 ai.out) h9.out, cell_below (cell_below hcap.out.2.2.2.1 ai.out) h9.out, cell_below (cell_below hcap.out.2.2.2.2.1 ai.out) h9.out, cell_below (cell_below hcap.out.2.2.2.2.2.1 ai.out) h9.out, cell_below (cell_below hcap.out.2.2.2.2.2.2.1 ai.out) h9.out, cell_below (cell_below hcap.out.2.2.2.2.2.2.2.1 ai.out) h9.out, cell_below (cell_below hcap.out.2.2.2.2.2.2.2.2 ai.out) h9.out⟩)
 clear hcap
 go_in
 go_upto_region 1 with (fail)
 rw [HW.out]
 have zc := kC.out _ ah
 have Kc := VQ.out _ ah
 go_wp2_with fail
 clear zc Kc
 refine Yx ah (Ko P Q G need Cs cs cn cc Ks ks kn kc hcn hkn hQ bO fO os n c K hs m d i hn hm hi him hb1 hb2 h hh hl hb o ho hI hSo p eX hzn hna hnz hsh _ (kV.out _ ah) (kD.out _ ah) (tF.out _ ah) (tC.out _ ah) (kO.out _ ah) (kH.out _ ah) (kA1.out _ ah) (O9.out _ ah)) fun w1 aD => ?_
 have zc := kC.out _ aD
 have Kc := VQ.out _ aD
 go_wp2
 go_ret
 exact ⟨rfl, fe ai aD⟩
theorem TL (a4 a5 a6 a7 : Nat) (P Q G need : Int) (Cs : Option Addr) (cs : List Int) (cn cc : Nat) (Ks : Option Addr) (ks : List Int) (kn kc : Nat) (hcn : Hid (cs.length = cn)) (hkn : Hid (ks.length = kn)) (hQ : Q < 9223372036854775808) (bO fO : Nat) (os : List aJ) (n c : Nat) (K : Option Addr) (hs : List (List Int)) (m d i : Nat) (hn : Hid (os.length = n)) (hm : Hid (hs.length = m)) (hi : i < n) (him : i ≤ m) (hb1 : n ≤ 1000000) (hb2 : m ≤ 1000000) (h : List Int) (hh : Hid (lC hs i = h)) (hl : Hid (h.length = 32)) (hb : Hid (az h = true)) (o : aJ) (ho : Hid (iT os i = o)) (hI : Hid (gP o)) (hSo : lD o) (p : a_) (eX : Hid (p.al.length = p.na)) (hzn : Hid (p.zs.length = p.nz)) (hna : p.na < 1000000) (hnz : p.nz < 1000000) (hsh : Hid (tZ p.na p.nz = true)) (r : Bool) (hr : Kp (CV P Q G need cs ks o.E1 p.ix p.v p.C (aU (J2 h o)) p.al p.zs = r)) (w : World) (hv : Hid (Vars w)) (hd0 : Hid (bF w)) (hC : Hid (Sl w Cs cs)) (hK : Hid (Sl w Ks ks)) (hO : Hid (Os w (some ⟨bO, fO, none⟩) os)) (hH : Hid (Hs w K hs)) (kF : Hid (Sl w p.A p.al)) (kz : Hid (Sl w p.Z p.zs)) (hcap : Hid (w.cell? ⟨a4, 0, none⟩ = some (.int .i64 P) ∧ w.cell? ⟨a4, 1, none⟩ = some (.int .i64 Q) ∧ w.cell? ⟨a4, 2, none⟩ = some (.int .i64 G) ∧ w.cell? ⟨a5, 0, none⟩ = some (.int .i64 need) ∧ w.cell? ⟨a5, 1, none⟩ = some (.slice Cs cn cc) ∧ w.cell? ⟨a5, 2, none⟩ = some (.slice Ks kn kc) ∧ w.cell? ⟨a6, 0, none⟩ = some (.slice (some ⟨bO, fO, none⟩) n c) ∧ w.cell? ⟨a6, 1, none⟩ = some (.slice K m d) ∧ w.cell? ⟨a7, 0, none⟩ = some (.int .i64 (i : Int)))) :
  Calls Tryz.prog 137 #[G7 p, .pointer (some ⟨a4, 0, none⟩), .pointer (some ⟨a5, 0, none⟩), .pointer (some ⟨a6, 0, none⟩), .pointer (some ⟨a7, 0, none⟩)] w (Rt w (.bool (!r))) := by
 obtain ⟨w0, HW, ai, kC⟩ := st1 (uf p) sG w
 have kO := gV (fun u => Os u (some ⟨bO, fO, none⟩) os) ai hO (·.below)
 have kH := gV (fun u => Hs u K hs) ai hH (·.below)
 have kD := r_ ai hd0
 have tF := mkS ai hC
 have tC := mkS ai hK
 have kA1 := mkS ai kF
 have O9 := mkS ai kz
 have kV := mkV ai hv
 have ah := bS w0
 clear hO hH hd0 hC hK kF kz hv
 have VQ := aa (show ∀ u : World, Hid (Below w0.heap.size w0 u) → u.cell? ⟨a4, 0, none⟩ = some (.int .i64 P) ∧ u.cell? ⟨a4, 1, none⟩ = some (.int .i64 Q) ∧ u.cell? ⟨a4, 2, none⟩ = some (.int .i64 G) ∧ u.cell? ⟨a5, 0, none⟩ = some (.int .i64 need) ∧ u.cell? ⟨a5, 1, none⟩ = some (.slice Cs cn cc) ∧ u.cell? ⟨a5, 2, none⟩ = some (.slice Ks kn kc) ∧ u.cell? ⟨a6, 0, none⟩ = some (.slice (some ⟨bO, fO, none⟩) n c) ∧ u.cell? ⟨a6, 1, none⟩ = some (.slice K m d) ∧ u.cell? ⟨a7, 0, none⟩ = some (.int .i64 (i : Int)) from fun u h9 => ⟨cell_below (cell_below hcap.out.1 ai.out) h9.out, cell_below (cell_below hcap.out.2.1 ai.out) h9.out, cell_below (cell_below hcap.out.2.2.1 ai.out) h9.out, cell_below (cell_below hcap.out.2.2.2.1 ai.out) h9.out, cell_below (cell_below hcap.out.2.2.2.2.1 ai.out) h9.out, cell_below (cell_below hcap.out.2.2.2.2.2.1 ai.out) h9.out, cell_below (cell_below hcap.out.2.2.2.2.2.2.1 ai.out) h9.out, cell_below (cell_below hcap.out.2.2.2.2.2.2.2.1 ai.out) h9.out, cell_below (cell_below hcap.out.2.2.2.2.2.2.2.2 ai.out) h9.out⟩)
 clear hcap
 go_in
 go_upto_region 1 with (fail)
 rw [HW.out]
 have zc := kC.out _ ah
 have Kc := VQ.out _ ah
 go_wp2_with fail
 clear zc Kc
 refine Yx ah (Kn P Q G need Cs cs cn cc Ks ks kn kc hcn hkn hQ bO fO os n c K hs m d i hn hm hi him hb1 hb2 h hh hl hb o ho hI hSo p eX hzn hna hnz hsh r hr _ (kV.out _ ah) (kD.out _ ah) (tF.out _ ah) (tC.out _ ah) (kO.out _ ah) (kH.out _ ah) (kA1.out _ ah) (O9.out _ ah)) fun w1 aD => ?_
 have zc := kC.out _ aD
 have Kc := VQ.out _ aD
 go_wp2
 go_ret
 exact ⟨rfl, fe ai aD⟩
theorem Nk (a4 a5 a6 a7 : Nat) (P Q G need : Int) (Cs : Option Addr) (cs : List Int) (cn cc : Nat) (Ks : Option Addr) (ks : List Int) (kn kc : Nat) (hcn : Hid (cs.length = cn)) (hkn : Hid (ks.length = kn)) (hQ : Q < 9223372036854775808) (bO fO : Nat) (os : List aJ) (n c : Nat) (K : Option Addr) (hs : List (List Int)) (m d i : Nat) (hn : Hid (os.length = n)) (hm : Hid (hs.length = m)) (hi : i < n) (him : i ≤ m) (hb1 : n ≤ 1000000) (hb2 : m ≤ 1000000) (h : List Int) (hh : Hid (lC hs i = h)) (hl : Hid (h.length = 32)) (hb : Hid (az h = true)) (o : aJ) (ho : Hid (iT os i = o)) (hI : Hid (gP o)) (hSo : lD o) (p : a_) (eX : Hid (p.al.length = p.na)) (hzn : Hid (p.zs.length = p.nz)) (hna : p.na < 1000000) (hnz : p.nz < 1000000) (w : World) (hv : Hid (Vars w)) (hd0 : Hid (bF w)) (hC : Hid (Sl w Cs cs)) (hK : Hid (Sl w Ks ks)) (hO : Hid (Os w (some ⟨bO, fO, none⟩) os)) (hH : Hid (Hs w K hs)) (kF : Hid (Sl w p.A p.al)) (kz : Hid (Sl w p.Z p.zs)) (hcap : Hid (w.cell? ⟨a4, 0, none⟩ = some (.int .i64 P) ∧ w.cell? ⟨a4, 1, none⟩ = some (.int .i64 Q) ∧ w.cell? ⟨a4, 2, none⟩ = some (.int .i64 G) ∧ w.cell? ⟨a5, 0, none⟩ = some (.int .i64 need) ∧ w.cell? ⟨a5, 1, none⟩ = some (.slice Cs cn cc) ∧ w.cell? ⟨a5, 2, none⟩ = some (.slice Ks kn kc) ∧ w.cell? ⟨a6, 0, none⟩ = some (.slice (some ⟨bO, fO, none⟩) n c) ∧ w.cell? ⟨a6, 1, none⟩ = some (.slice K m d) ∧ w.cell? ⟨a7, 0, none⟩ = some (.int .i64 (i : Int)))) :
  Calls Tryz.prog 137 #[G7 p, .pointer (some ⟨a4, 0, none⟩), .pointer (some ⟨a5, 0, none⟩), .pointer (some ⟨a6, 0, none⟩), .pointer (some ⟨a7, 0, none⟩)] w (Rt w (.bool (!(Fh P Q G need cs ks h o p)))) := by
 cases hsh : tZ p.na p.nz with
 | false =>
  rw [Fh, hsh]
  exact TM a4 a5 a6 a7 P Q G need Cs cs cn cc Ks ks kn kc hcn hkn hQ bO fO os n c K hs m d i hn hm hi him hb1 hb2 h hh hl hb o ho hI hSo p eX hzn hna hnz (aa hsh) w hv hd0 hC hK hO hH kF kz hcap
 | true =>
  rw [Fh, hsh, Bool.true_and]
  exact TL a4 a5 a6 a7 P Q G need Cs cs cn cc Ks ks kn kc hcn hkn hQ bO fO os n c K hs m d i hn hm hi him hb1 hb2 h hh hl hb o ho hI hSo p eX hzn hna hnz (aa hsh) _ ⟨rfl⟩ w hv hd0 hC hK hO hH kF kz hcap
theorem Ku (P Q G need : Int) (Cs : Option Addr) (cs : List Int) (cn cc : Nat) (Ks : Option Addr) (ks : List Int) (kn kc : Nat) (hcn : Hid (cs.length = cn)) (hkn : Hid (ks.length = kn)) (hQ : Q < 9223372036854775808) (bO fO : Nat) (os : List aJ) (n c : Nat) (K : Option Addr) (hs : List (List Int)) (m d i : Nat) (hn : Hid (os.length = n)) (hm : Hid (hs.length = m)) (hi : i < n) (him : i ≤ m) (hb1 : n ≤ 1000000) (hb2 : m ≤ 1000000) (h : List Int) (hh : Hid (lC hs i = h)) (hl : Hid (h.length = 32)) (hb : Hid (az h = true)) (o : aJ) (ho : Hid (iT os i = o)) (hI : Hid (gP o)) (hSo : lD o) (w : World) (hv : Hid (Vars w)) (hd0 : Hid (bF w)) (hC : Hid (Sl w Cs cs)) (hK : Hid (Sl w Ks ks)) (hO : Hid (Os w (some ⟨bO, fO, none⟩) os)) (hH : Hid (Hs w K hs)) :
  Calls Tryz.prog 83 #[gv P Q G, lM need Cs cn cc Ks kn kc, kN (some ⟨bO, fO, none⟩) n c K m d, .int .i64 (i : Int)] w (Rt w (.bool (mW (fun k => Fh P Q G need cs ks h o (o.ps.getD k aF)) o.np))) := by
 obtain ⟨rb, hrb⟩ : ∃ b, mW (fun k => Fh P Q G need cs ks h o (o.ps.getD k aF)) o.np = b := ⟨_, rfl⟩
 rw [hrb]
 have Ip := aa hrb
 clear hrb
 obtain ⟨w0, HW, ai, kC⟩ := JX (bq P Q G) gq (.cells #[.int .i64 need, .slice Cs cn cc, .slice Ks kn kc] 26) gq (qj (some ⟨bO, fO, none⟩) n c K m d) wI (.cells #[.int .i64 (i : Int)] 3) bq1 w
 have kO := gV (fun u => Os u (some ⟨bO, fO, none⟩) os) ai hO (·.below)
 have kH := gV (fun u => Hs u K hs) ai hH (·.below)
 have kD := r_ ai hd0
 have tF := mkS ai hC
 have tC := mkS ai hK
 have kV := mkV ai hv
 have ah := bS w0
 clear hO hH hd0 hC hK hv
 obtain ⟨bX, fX, hX, d_, hok⟩ := ((kO.out _ ah)).out i (by rw [hn.out]; exact hi)
 cases hX
 rw [show os.getD i iF = o from ho.out] at d_ hok
 have hcell := d_.2.2.2.2.2.2.2.1
 have nV := aa hok
 clear d_ hok
 have hnp : o.np < 1000000 := by have := hSo.n; have h2 := nV.out.2.2.1.1; omega
 have U8 : Hid (∀ k, k < o.np → ∀ u : World, Hid (Below w0.heap.size w0 u) → Calls Tryz.prog 137 #[G7 (o.ps.getD k aF), .pointer (some ⟨w.heap.size, 0, none⟩), .pointer (some ⟨w.heap.size + 1, 0, none⟩), .pointer (some ⟨w.heap.size + 2, 0, none⟩), .pointer (some ⟨w.heap.size + 3, 0, none⟩)] u fun e w' => e = .returned (.bool (!(Fh P Q G need cs ks h o (o.ps.getD k aF)))) ∧ Below u.heap.size u w') := aa (fun k hk u hu => by
  obtain ⟨bL, oL, -, -, -, -, -, -, p1, p2, p3, p4⟩ := nV.out.2.2.2.2.2 k (by rw [nV.out.2.2.1.1]; exact hk)
  have hps := hSo.p _ (oD (show k < o.ps.length by rw [nV.out.2.2.1.1]; exact hk))
  exact Nk w.heap.size (w.heap.size + 1) (w.heap.size + 2) (w.heap.size + 3) P Q G need Cs cs cn cc Ks ks kn kc hcn hkn hQ bO fO os n c K hs m d i hn hm hi him hb1 hb2 h hh hl hb o ho hI hSo (o.ps.getD k aF) (aa p1) (aa p2) (by rw [← p1]; omega) (by rw [← p2]; omega) u (kV.out _ hu) (kD.out _ hu) (tF.out _ hu) (tC.out _ hu) (kO.out _ hu) (kH.out _ hu) (aa (p3.below hu.out)) (aa (p4.below hu.out)) (aa (kC.out _ hu)))
 go_in
 go_upto_region 1 with (fail)
 rw [HW.out]
 have zc := kC.out _ ah
 have J9 : Hid (Pa w0 o.L o.ps) := aa nV.out.2.2.2.2.2
 have J8 : Hid (o.ps.length = o.np) := aa nV.out.2.2.1.1
 go_wp2_with fail
 refine (TE w.heap.size (w.heap.size + 1) (w.heap.size + 2) (w.heap.size + 3) o.L o.ps o.np o.cp J8 hnp (fun k => Fh P Q G need cs ks h o (o.ps.getD k aF)) w0 J9 U8).mono ?_
 rintro e w1 ⟨rfl, hb0⟩
 rw [Ip.out]
 have aD := bY ah hb0
 clear zc hb0
 clear hcell
 clear Ip
 cases rb with
 | false =>
  go_wp2
  go_ret
  exact ⟨rfl, fe ai aD⟩
 | true =>
  go_wp2
  go_ret
  exact ⟨rfl, fe ai aD⟩
theorem yD (P Q G need : Int) (Cs : Option Addr) (cs : List Int) (cn cc : Nat) (Ks : Option Addr) (ks : List Int) (kn kc : Nat) (hcn : Hid (cs.length = cn)) (hkn : Hid (ks.length = kn)) (hQ : Q < 9223372036854775808) (bO fO : Nat) (os : List aJ) (n c : Nat) (K : Option Addr) (hs : List (List Int)) (m d i : Nat) (hn : Hid (os.length = n)) (hm : Hid (hs.length = m)) (hi : i < n) (him : i ≤ m) (hb1 : n ≤ 1000000) (hb2 : m ≤ 1000000) (h : List Int) (hh : Hid (lC hs i = h)) (hl : Hid (h.length = 32)) (hb : Hid (az h = true)) (o : aJ) (ho : Hid (iT os i = o)) (hI : Hid (gP o)) (hSo : lD o) (p : a_) (eX : Hid (p.al.length = p.na)) (hzn : Hid (p.zs.length = p.nz)) (hna : p.na < 1000000) (hnz : p.nz < 1000000) (w : World) (hv : Hid (Vars w)) (hd0 : Hid (bF w)) (hC : Hid (Sl w Cs cs)) (hK : Hid (Sl w Ks ks)) (hO : Hid (Os w (some ⟨bO, fO, none⟩) os)) (hH : Hid (Hs w K hs)) (kF : Hid (Sl w p.A p.al)) (kz : Hid (Sl w p.Z p.zs)) (r : Bool) (hr : Hid (Fh P Q G need cs ks h o p = r)) :
  Calls Tryz.prog 79 #[gv P Q G, lM need Cs cn cc Ks kn kc, kN (some ⟨bO, fO, none⟩) n c K m d, .int .i64 (i : Int), G7 p] w (Rt w (.bool r)) := by
 have hr1 := hr.out
 cases hsh : tZ p.na p.nz with
 | false =>
  obtain rfl : r = false := by rw [← hr1, Fh, hsh]; rfl
  exact K3 P Q G need Cs cs cn cc Ks ks kn kc hcn hkn hQ bO fO os n c K hs m d i hn hm hi him hb1 hb2 h hh hl hb o ho hI hSo p eX hzn hna hnz (aa hsh) w hv hd0 hC hK hO hH kF kz
 | true =>
  exact KZ P Q G need Cs cs cn cc Ks ks kn kc hcn hkn hQ bO fO os n c K hs m d i hn hm hi him hb1 hb2 h hh hl hb o ho hI hSo p eX hzn hna hnz (aa hsh) r ⟨by rw [← hr1, Fh, hsh, Bool.true_and]⟩ w hv hd0 hC hK hO hH kF kz
theorem Le (P Q G need : Int) (Cs : Option Addr) (cs : List Int) (cn cc : Nat) (Ks : Option Addr) (ks : List Int) (kn kc : Nat) (hcn : Hid (cs.length = cn)) (hkn : Hid (ks.length = kn)) (hQ : Q < 9223372036854775808) (bO fO : Nat) (os : List aJ) (n c : Nat) (K : Option Addr) (hs : List (List Int)) (m d i : Nat) (hn : Hid (os.length = n)) (hm : Hid (hs.length = m)) (hi : i < n) (him : i ≤ m) (hb1 : n ≤ 1000000) (hb2 : m ≤ 1000000) (h : List Int) (hh : Hid (lC hs i = h)) (hl : Hid (h.length = 32)) (hb : Hid (az h = true)) (o : aJ) (ho : Hid (iT os i = o)) (hI : Hid (gP o)) (hSo : lD o) (w : World) (hv : Hid (Vars w)) (hd0 : Hid (bF w)) (hC : Hid (Sl w Cs cs)) (hK : Hid (Sl w Ks ks)) (hO : Hid (Os w (some ⟨bO, fO, none⟩) os)) (hH : Hid (Hs w K hs)) :
  Calls Tryz.prog 86 #[gv P Q G, lM need Cs cn cc Ks kn kc, kN (some ⟨bO, fO, none⟩) n c K m d, .int .i64 (i : Int)] w (Rt w (.bool (mW (fun k => Fh P Q G need cs ks h o (o.ps.getD k aF)) o.np))) := by
 obtain ⟨gf, hgf⟩ : ∃ f : Nat → Bool, (fun k => Fh P Q G need cs ks h o (o.ps.getD k aF)) = f := ⟨_, rfl⟩
 rw [hgf]
 have XX := aa hgf
 clear hgf
 obtain ⟨w0, HW, ai, kC⟩ := qF (bq P Q G) gq (.cells #[.int .i64 need, .slice Cs cn cc, .slice Ks kn kc] 26) gq (qj (some ⟨bO, fO, none⟩) n c K m d) xN w
 have kO := gV (fun u => Os u (some ⟨bO, fO, none⟩) os) ai hO (·.below)
 have kH := gV (fun u => Hs u K hs) ai hH (·.below)
 have kD := r_ ai hd0
 have tF := mkS ai hC
 have tC := mkS ai hK
 have kV := mkV ai hv
 have ah := bS w0
 clear hO hH hd0 hC hK hv
 obtain ⟨bX, fX, hX, d_, hok⟩ := ((kO.out _ ah)).out i (by rw [hn.out]; exact hi)
 cases hX
 rw [show os.getD i iF = o from ho.out] at d_ hok
 have hcell := d_.2.2.2.2.2.2.2.1
 have nV := aa hok
 clear d_ hok
 have hnp : o.np < 1000000 := by have := hSo.n; have h2 := nV.out.2.2.1.1; omega
 have J8 : Hid (o.ps.length = o.np) := aa nV.out.2.2.1.1
 go_in
 go_upto_region 1 with (fail)
 rw [HW.out]
 have zc := kC.out _ ah
 go_wp2
 clear hcell
 clear zc
 go_loopw [10] (fun j u => ∃ k : Nat, k ≤ o.np ∧ j = .int .i64 k ∧ Hid (mW gf k = true) ∧ Hid (Below w0.heap.size w0 u)) (fun j _ => o.np - (intOf j).toNat)
 case atStart => exact ⟨0, by omega, rfl, aa rfl, aa (Below.refl _ _)⟩
 case round =>
  obtain ⟨k, hk, rfl, NW, au⟩ := hrel
  by_cases hlt : k < o.np
  ·
   obtain ⟨bL, oL, hA, j0, j1, j2, j3, j4, j5⟩ := nV.out.2.2.2.2.2 k (by rw [J8.out]; exact hlt)
   have zQ := aa hA
   have hps := hSo.p _ (oD (show k < o.ps.length by rw [J8.out]; exact hlt))
   have jf := congrFun XX.out k
   obtain ⟨p, hp⟩ : ∃ p, o.ps.getD k aF = p := ⟨_, rfl⟩
   rw [hp] at j0 j1 j2 j3 j4 j5 hps jf
   obtain ⟨x1, x2, x3, x4⟩ := j5
   have U2 := aa x1
   have U1 := aa x2
   have Xu := aa x3
   have lG := aa x4
   have Xz := aa (⟨j0, j1, j2, j3, j4⟩ : _ ∧ _ ∧ _ ∧ _ ∧ _)
   have QU : p.na < 1000000 := by rw [← x1]; omega
   have QT : p.nz < 1000000 := by rw [← x2]; omega
   have CF := aa jf
   clear hp hA x1 x2 x3 x4 hps jf j0 j1 j2 j3 j4
   rw [zQ.out]
   have Jt := wh (w := w0) (fun u => Sl u p.A p.al) Xu.out (·.below)
   have Js := wh (w := w0) (fun u => Sl u p.Z p.zs) lG.out (·.below)
   have VN := aa (show ∀ u : World, Hid (Below w0.heap.size w0 u) → u.cell? ⟨bL, oL + k * 5, none⟩ = some (.int .i64 p.ix) ∧ u.cell? ⟨bL, oL + k * 5 + 1, none⟩ = some (.int .i64 p.v) ∧ u.cell? ⟨bL, oL + k * 5 + 2, none⟩ = some (.slice p.A p.na p.ca) ∧ u.cell? ⟨bL, oL + k * 5 + 3, none⟩ = some (.int .i64 p.C) ∧ u.cell? ⟨bL, oL + k * 5 + 4, none⟩ = some (.slice p.Z p.nz p.cz) from fun u h9 => ⟨cell_below Xz.out.1 h9.out, cell_below Xz.out.2.1 h9.out, cell_below Xz.out.2.2.1 h9.out, cell_below Xz.out.2.2.2.1 h9.out, cell_below Xz.out.2.2.2.2 h9.out⟩)
   have zc := kC.out _ au
   have Kb := VN.out _ au
   cases hgv : gf k with
   | false =>
    rw [hgv] at CF
    have HN : Hid (mW gf o.np = false) := aa (jA hgv hlt)
    clear hgv
    go_upto_region 5 with (fail)
    clear zc Kb
    have hO := aa (fun (u : World) (h : Hid (Below w0.heap.size w0 u)) => And.intro (kC.out u h) (VN.out u h))
    refine jq [] au (fun hHeld => ?_)
    refine aT 0 1 2 3 ?_
    refine aT 4 5 6 7 ?_
    refine bW 8 fun K hK => ?_
    go_simp
    refine (yD P Q G need Cs cs cn cc Ks ks kn kc hcn hkn hQ bO fO os n c _ hs m d i hn hm hi him hb1 hb2 h hh hl hb o ho hI hSo p U2 U1 QU QT _ (kV.out _ hHeld) (kD.out _ hHeld) (tF.out _ hHeld) (tC.out _ hHeld) (kO.out _ hHeld) (kH.out _ hHeld) (Jt.out _ hHeld) (Js.out _ hHeld) false CF).mono ?_
    rintro e wA ⟨rfl, bM⟩
    refine hK.out _ _ (bY hHeld bM) (fun hHeld => ?_)
    clear hK K
    refine aH 9 ?_
    refine gz ?_
    clear hO
    have bI := hHeld
    clear hHeld
    have zc := kC.out _ bI
    have Kb := VN.out _ bI
    go_wp2
    go_ret
    exact ⟨by rw [HN.out]; rfl, fe ai bI⟩
   | true =>
    rw [hgv] at CF
    have HN : Hid (mW gf (k + 1) = true) := aa (by rw [mW, NW.out, hgv]; rfl)
    clear hgv
    go_upto_region 5 with (fail)
    clear zc Kb
    have hO := aa (fun (u : World) (h : Hid (Below w0.heap.size w0 u)) => And.intro (kC.out u h) (VN.out u h))
    refine jq [] au (fun hHeld => ?_)
    refine aT 0 1 2 3 ?_
    refine aT 4 5 6 7 ?_
    refine bW 8 fun K hK => ?_
    go_simp
    refine (yD P Q G need Cs cs cn cc Ks ks kn kc hcn hkn hQ bO fO os n c _ hs m d i hn hm hi him hb1 hb2 h hh hl hb o ho hI hSo p U2 U1 QU QT _ (kV.out _ hHeld) (kD.out _ hHeld) (tF.out _ hHeld) (tC.out _ hHeld) (kO.out _ hHeld) (kH.out _ hHeld) (Jt.out _ hHeld) (Js.out _ hHeld) true CF).mono ?_
    rintro e wA ⟨rfl, bM⟩
    refine hK.out _ _ (bY hHeld bM) (fun hHeld => ?_)
    clear hK K
    refine aH 9 ?_
    refine gz ?_
    clear hO
    have bI := hHeld
    clear hHeld
    have zc := kC.out _ bI
    have Kb := VN.out _ bI
    have IC := bI
    clear zc Kb
    go_wp2
    go_roundw
    case rel => exact ⟨k + 1, by omega, by go_num, HN, IC⟩
    case measure => simp [intOf]; omega
  ·
   have hke : k = o.np := by omega
   have Yd : Hid (mW gf o.np = true) := aa (by rw [← hke]; exact NW.out)
   clear hke
   have zc := kC.out _ au
   go_wp2
   go_ret
   exact ⟨by rw [Yd.out]; rfl, fe ai au⟩
theorem xL {P Q m : Int} {kn : Nat} {E1 E2 : Int} {ps : List a_} (h : (aG P Q E1 && aG P Q E2) = false) : nN P Q m kn E1 E2 ps = 0 ∧ jg P Q m kn E1 E2 ps = 2 := by
 have h1 : jg P Q m kn E1 E2 ps = 2 := by unfold jg; rw [if_neg (by rw [h]; decide)]
 exact ⟨by unfold nN; rw [h1]; rfl, h1⟩
theorem PL (P Q G : Int) (m : Nat) (Cs : Option Addr) (cs : List Int) (cn cc : Nat) (Ks : Option Addr) (ks : List Int) (kn kc : Nat) (hcn : Hid (cs.length = cn)) (hkn : Hid (ks.length = kn)) (E1 E2 : Int) (A : Option Addr) (na ca : Nat) (C : Int) (Z : Option Addr) (nz cz : Nat) (L : Option Addr) (ps : List a_) (n c : Nat) (hn : Hid (ps.length = n)) (hnb : n ≤ 100) (hlr : Hid (∀ k, k < n → r64 (ps.getD k aF).ix)) (hr : Hid (tY P Q G (m : Int) cs ks = true)) (hQ : Q < 9223372036854775808) (w : World) (hv : Hid (Vars w)) (hC : Hid (Sl w Cs cs)) (hK : Hid (Sl w Ks ks)) (hL : Hid (Pa w L ps)) :
  Calls Tryz.prog 84 #[gv P Q G, lM (m : Int) Cs cn cc Ks kn kc, zK E1 E2 A na ca C Z nz cz, .slice L n c] w (Rt w (.tuple #[.int .i64 (nN P Q (m : Int) kn E1 E2 ps), .int .i64 (jg P Q (m : Int) kn E1 E2 ps)])) := by
 cases m1 : aG P Q E1 with
 | false =>
  obtain ⟨h1, h2⟩ := xL (P := P) (Q := Q) (m := (m : Int)) (kn := kn) (E1 := E1) (E2 := E2) (ps := ps) (by rw [m1]; rfl)
  rw [h1, h2]
  exact WK P Q G m Cs cs cn cc Ks ks kn kc hcn hkn E1 E2 A na ca C Z nz cz L ps n c hn hnb hlr hr (aa m1) hQ w hv hC hK hL
 | true =>
  cases m2 : aG P Q E2 with
  | false =>
   obtain ⟨h1, h2⟩ := xL (P := P) (Q := Q) (m := (m : Int)) (kn := kn) (E1 := E1) (E2 := E2) (ps := ps) (by rw [m1, m2]; rfl)
   rw [h1, h2]
   exact WJ P Q G m Cs cs cn cc Ks ks kn kc hcn hkn E1 E2 A na ca C Z nz cz L ps n c hn hnb hlr hr (aa m1) (aa m2) hQ w hv hC hK hL
  | true => exact WI P Q G m Cs cs cn cc Ks ks kn kc hcn hkn E1 E2 A na ca C Z nz cz L ps n c hn hnb hlr hr (aa m1) (aa m2) hQ w hv hC hK hL
theorem Lc (P Q G : Int) (m : Nat) (Cs : Option Addr) (cs : List Int) (cn cc : Nat) (Ks : Option Addr) (ks : List Int) (kn kc : Nat) (hcn : Hid (cs.length = cn)) (hkn : Hid (ks.length = kn)) (E1 E2 : Int) (A : Option Addr) (na ca : Nat) (C : Int) (Z : Option Addr) (nz cz : Nat) (L : Option Addr) (ps : List a_) (n c : Nat) (hn : Hid (ps.length = n)) (hnb : n ≤ 100) (hlr : Hid (∀ k, k < n → r64 (ps.getD k aF).ix)) (hr : Hid (tY P Q G (m : Int) cs ks = true)) (w : World) (hL : Hid (Pa w L ps)) :
  Calls Tryz.prog 87 #[gv P Q G, lM (m : Int) Cs cn cc Ks kn kc, zK E1 E2 A na ca C Z nz cz, .slice L n c] w (Rt w (.tuple #[.int .i64 (nN P Q (m : Int) kn E1 E2 ps), .int .i64 (jg P Q (m : Int) kn E1 E2 ps)])) := by
 obtain ⟨iU, n1, n2, n3, n4, n5, n6⟩ := jk hr.out hcn.out hkn.out
 cases m1 : aG P Q E1 with
 | false =>
  obtain ⟨h1, h2⟩ := xL (P := P) (Q := Q) (m := (m : Int)) (kn := kn) (E1 := E1) (E2 := E2) (ps := ps) (by rw [m1]; rfl)
  rw [h1, h2]
  exact R7 P Q G m Cs cn cc Ks kn kc iU n2 n3 n4 n5 E1 E2 A na ca C Z nz cz L ps n c hn hnb hlr (aa m1) w hL
 | true =>
  cases m2 : aG P Q E2 with
  | false =>
   obtain ⟨h1, h2⟩ := xL (P := P) (Q := Q) (m := (m : Int)) (kn := kn) (E1 := E1) (E2 := E2) (ps := ps) (by rw [m1, m2]; rfl)
   rw [h1, h2]
   exact R6 P Q G m Cs cn cc Ks kn kc iU n2 n3 n4 n5 E1 E2 A na ca C Z nz cz L ps n c hn hnb hlr (aa m1) (aa m2) w hL
  | true => exact R5 P Q G m Cs cn cc Ks kn kc iU n2 n3 n4 n5 E1 E2 A na ca C Z nz cz L ps n c hn hnb hlr (aa m1) (aa m2) w hL
noncomputable def Rc (P Q G : Int) (nd : Nat) (cs ks : List Int) (os : List aJ) (hs : List (List Int)) (k : Nat) : Bool :=
 mW (fun j => Fh P Q G (nd : Int) cs ks (lC hs k) (iT os k) ((iT os k).ps.getD j aF)) (iT os k).np && ((iT os k).key == 0 || (!(decide (((iT os k).np : Int) < (nd : Int))) && ((jg P Q (nd : Int) ks.length (iT os k).E1 (iT os k).E2 (iT os k).ps == 0) && (nN P Q (nd : Int) ks.length (iT os k).E1 (iT os k).E2 (iT os k).ps == (iT os k).key))))
theorem Ii {os : List aJ} {hs : List (List Int)} (h : jH os hs = true) {k : Nat} (hk : k < os.length) : k ≤ hs.length := by
 obtain ⟨h1, h2, _⟩ := nZ h
 by_cases e : k < hs.length
 · omega
 ·
  by_cases hz : k = 0
  · omega
  ·
   have hkey : (iT os (k - 1)).key ≠ 0 := fun e0 => by
    have := (lY (o6 h1 (k - 1) (by omega))).2.2.1 e0
    omega
   have := (Hr h (i := k - 1) (by omega) hkey).1
   omega
theorem Vh (P Q G : Int) (nd : Nat) (Cs : Option Addr) (cs : List Int) (cn cc : Nat) (Ks : Option Addr) (ks : List Int) (kn kc : Nat) (hcn : Hid (cs.length = cn)) (hkn : Hid (ks.length = kn)) (hQ : Q < 9223372036854775808) (hr : Hid (tY P Q G (nd : Int) cs ks = true)) (O : Option Addr) (os : List aJ) (n c : Nat) (K : Option Addr) (hs : List (List Int)) (m d : Nat) (hn : Hid (os.length = n)) (hm : Hid (hs.length = m)) (hI : Hid (∀ k, k < n → gP (iT os k))) (hb1 : n ≤ 1000000) (hb2 : m ≤ 1000000) (HT : Kp (jH os hs = true)) (w : World) (hv : Hid (Vars w)) (hd0 : Hid (bF w)) (hC : Hid (Sl w Cs cs)) (hK : Hid (Sl w Ks ks)) (hO : Hid (Os w O os)) (hH : Hid (Hs w K hs)) :
  Calls Tryz.prog 27 #[gv P Q G, lM (nd : Int) Cs cn cc Ks kn kc, kN O n c K m d] w (Rt w (.bool (mW (fun k => Rc P Q G nd cs ks os hs k) n))) := by
 obtain ⟨gf, hgf⟩ : ∃ f : Nat → Bool, (fun k => Rc P Q G nd cs ks os hs k) = f := ⟨_, rfl⟩
 rw [hgf]
 have XX := aa hgf
 clear hgf
 obtain ⟨w0, HW, ai, kC⟩ := qF (bq P Q G) gq (.cells #[.int .i64 (nd : Int), .slice Cs cn cc, .slice Ks kn kc] 26) gq (qj O n c K m d) xN w
 have kO := gV (fun u => Os u O os) ai hO (·.below)
 have kH := gV (fun u => Hs u K hs) ai hH (·.below)
 have kD := r_ ai hd0
 have tF := mkS ai hC
 have tC := mkS ai hK
 have kV := mkV ai hv
 have ah := bS w0
 clear hO hH hd0 hC hK hv
 go_in
 go_upto_region 1 with (fail)
 rw [HW.out]
 have zc := kC.out _ ah
 go_wp2_with fail
 clear zc
 refine eB kC ah (l_ O os n c K hs m d hn hm hI.out hb1 hb2 true HT _ (kD.out _ ah) (kO.out _ ah) (kH.out _ ah)) fun w1 aD zc => ?_
 go_wp2_with fail
 clear zc
 refine eB kC aD (mX P Q G (nd : Int) Cs cs cn cc Ks ks kn kc hcn hkn true hr hQ _ (kV.out _ aD) (tF.out _ aD) (tC.out _ aD)) fun w2 aN zc => ?_
 go_wp2
 have HB2 := aN
 clear zc
 go_loopw [23] (fun j u => ∃ k : Nat, k ≤ n ∧ j = .int .i64 k ∧ Hid (mW gf k = true) ∧ Hid (Below w0.heap.size w0 u)) (fun j _ => n - (intOf j).toNat)
 case atStart => exact ⟨0, by omega, rfl, aa rfl, HB2⟩
 case round =>
  obtain ⟨k, hk, rfl, NW, au⟩ := hrel
  by_cases hlt : k < n
  ·
   obtain ⟨bO, fO, ZQ, d_, hok⟩ := ((kO.out _ au)).out k (by rw [hn.out]; exact hlt)
   subst ZQ
   have jf := congrFun XX.out k
   have NA := aa (hI.out k hlt)
   have Ub : lD (iT os k) := xC (by exact (lY (o6 (nZ HT.1).1 k (by rw [hn.out]; exact hlt))).1) hok
   have him : k ≤ m := by rw [← hm.out]; exact Ii HT.1 (by rw [hn.out]; exact hlt)
   have HHL : Hid ((lC hs k).length = 32) := aa (by rw [BX HT.1 (by rw [hm.out]; exact him)]; exact uO _ _)
   have GD : Hid (az (lC hs k) = true) := aa (by rw [BX HT.1 (by rw [hm.out]; exact him)]; exact D7 _ _)
   obtain ⟨o, hoe⟩ : ∃ x, iT os k = x := ⟨_, rfl⟩
   rw [show os.getD k iF = o from hoe] at d_
   rw [Rc, hoe] at jf
   rw [hoe] at NA Ub
   rw [show os.getD k iF = o from hoe] at hok
   have Uo := aa hoe
   have nV := aa hok
   have CF := aa jf
   obtain ⟨j0, j1, j2, j3, j4, j5, j6, j7, j8⟩ := d_
   clear hoe hok jf
   have aY := bS wr
   have zc := kC.out _ au
   obtain ⟨w3, hw, EU, Qb, -, kE⟩ := sI (vo o) xM wr
   have bu := pY au EU
   have bG := pY aY EU
   have eO := bS w3
   clear EU
   have oQ := kC.out _ bu
   have EZ := kE.out _ eO
   go_upto_region 6 with (fail)
   clear zc oQ EZ hw
   have zc := kC.out _ bu
   have zU := kE.out _ eO
   clear j0 j1 j2 j3 j4 j5 j6 j7 j8
   have zc := kC.out _ bu
   have zU := kE.out _ eO
   have BH := nV.out.2.2.1.1
   have J8 : Hid (o.ps.length = o.np) := aa BH
   have Ym : o.np ≤ 8 := by rw [← BH]; exact Ub.n
   have HLR : Hid (∀ j, j < o.np → r64 (o.ps.getD j aF).ix) := aa (fun j hj => (NA.out.2.2.2.2.2.2.2 _ (oD (by rw [BH]; exact hj))).1)
   clear BH
   have Zg := aa (show ∀ u : World, Hid (Below wr.heap.size wr u) → Hid (Pa u o.L o.ps) from fun u h => aa (nV.out.2.2.2.2.2.below (ag (Below.refl _ _) h.out)))
   go_wp2_with fail
   clear zc zU
   refine rW bu bG eO (Ku P Q G (nd : Int) Cs cs cn cc Ks ks kn kc hcn hkn hQ bO fO os n c K hs m d k hn hm hlt him hb1 hb2 (lC hs k) (aa rfl) HHL GD o Uo NA Ub _ (kV.out _ bu) (kD.out _ bu) (tF.out _ bu) (tC.out _ bu) (kO.out _ bu) (kH.out _ bu)) fun w4 dm dx nI => ?_
   have zc := kC.out _ dm
   have zU := kE.out _ nI
   obtain ⟨ab, hab⟩ : ∃ x, mW (fun j => Fh P Q G (nd : Int) cs ks (lC hs k) o (o.ps.getD j aF)) o.np = x := ⟨_, rfl⟩
   rw [hab]
   have jf := CF.out
   rw [hab] at jf
   clear hab CF
   cases ab with
   | false =>
    have HN : Hid (mW gf n = false) := aa (jA (by rw [← jf]; rfl) hlt)
    clear jf
    go_wp2
    go_ret
    exact ⟨by rw [HN.out]; rfl, fe ai dm⟩
   | true =>
    cases hk0 : (o.key == 0) with
    | true =>
     rw [hk0] at jf
     have CF := aa jf
     clear jf
     have HN : Hid (mW gf (k + 1) = true) := aa (by rw [mW, NW.out]; exact (by rw [← CF.out]; rfl))
     have IC := dm
     go_wp2
     go_roundw
     case rel => exact ⟨k + 1, by omega, by go_num, HN, IC⟩
     case measure => simp [intOf]; omega
    | false =>
     rw [hk0] at jf
     obtain ⟨cE, S_⟩ : ∃ x, jg P Q (nd : Int) kn o.E1 o.E2 o.ps = x := ⟨_, rfl⟩
     obtain ⟨cV, S9⟩ : ∃ x, nN P Q (nd : Int) kn o.E1 o.E2 o.ps = x := ⟨_, rfl⟩
     rw [hkn.out, S_, S9] at jf
     have HCE := aa S_
     have U7 := aa S9
     have CF := aa jf
     clear jf S_ S9
     go_wp2_with fail
     clear zc zU
     refine rW dm dx nI (PL P Q G nd Cs cs cn cc Ks ks kn kc hcn hkn o.E1 o.E2 o.A o.na o.ca o.C o.Z o.nz o.cz o.L o.ps o.np o.cp J8 (by omega) HLR hr hQ _ (kV.out _ dm) (tF.out _ dm) (tC.out _ dm) (Zg.out _ dx)) fun w5 jh lV qg => ?_
     have zc := kC.out _ jh
     have zU := kE.out _ qg
     rw [HCE.out, U7.out]
     have jf := CF.out
     by_cases d1 : o.np < nd
     ·
      have e1 : decide ((o.np : Int) < (nd : Int)) = true := by simp; omega
      rw [e1] at jf
      have HG2 := aa jf
      clear jf e1
      have d1b : ¬ nd ≤ o.np := by omega
      have HN : Hid (mW gf n = false) := aa (jA (by rw [← HG2.out]; rfl) hlt)
      go_wp2
      go_ret
      exact ⟨by rw [HN.out]; rfl, fe ai jh⟩
     ·
      have e1 : decide ((o.np : Int) < (nd : Int)) = false := by simp; omega
      rw [e1] at jf
      clear e1
      have d1b : nd ≤ o.np := by omega
      by_cases d2 : cE = 0
      ·
       subst d2
       rw [show ((0 : Int) == 0) = true from rfl] at jf
       cases d3 : (cV == o.key) with
       | false =>
        have e3 : (cV != o.key) = true := by rw [bne, d3]; rfl
        rw [d3] at jf
        have HG2 := aa jf
        clear jf d3
        have HN : Hid (mW gf n = false) := aa (jA (by rw [← HG2.out]; rfl) hlt)
        go_wp2
        go_ret
        exact ⟨by rw [HN.out]; rfl, fe ai jh⟩
       | true =>
        have e3 : (cV != o.key) = false := by rw [bne, d3]; rfl
        rw [d3] at jf
        have HG2 := aa jf
        clear jf d3
        have HN : Hid (mW gf (k + 1) = true) := aa (by rw [mW, NW.out]; exact (by rw [← HG2.out]; rfl))
        have IC := jh
        go_wp2
        go_roundw
        case rel => exact ⟨k + 1, by omega, by go_num, HN, IC⟩
        case measure => simp [intOf]; omega
      ·
       have e2 : (cE == 0) = false := by simpa using d2
       rw [e2] at jf
       have HG2 := aa jf
       clear jf e2
       have HN : Hid (mW gf n = false) := aa (jA (by rw [← HG2.out]; rfl) hlt)
       go_wp2
       go_ret
       exact ⟨by rw [HN.out]; rfl, fe ai jh⟩
  ·
   have hke : k = n := by omega
   have Yd : Hid (mW gf n = true) := aa (by rw [← hke]; exact NW.out)
   clear hke
   have zc := kC.out _ au
   go_wp2
   go_ret
   exact ⟨by rw [Yd.out]; rfl, fe ai au⟩
theorem OA (O : Option Addr) (n c : Nat) (K : Option Addr) (m d : Nat) (h : ¬ n ≤ 100) (hb1 : n ≤ 1000000) (w : World) :
  Calls Tryz.prog 85 #[kN O n c K m d] w (Rt w (.bool false)) := by
 have dn : decide ((100 : Int) < (n : Int)) = true := by simp; omega
 obtain ⟨w0, HW, ai, kC⟩ := st1 (qj O n c K m d) xN w
 have ah := bS w0
 go_in
 go_upto_region 1 with (fail)
 rw [HW.out]
 have zc := kC.out _ ah
 go_wp2
 go_ret
 exact ⟨rfl, fe ai ah⟩
theorem Oz (O : Option Addr) (os : List aJ) (n c : Nat) (K : Option Addr) (hs : List (List Int)) (m d : Nat) (hn : Hid (os.length = n)) (hm : Hid (hs.length = m)) (hI : ∀ k, k < n → gP (iT os k)) (hb1 : n ≤ 1000000) (hb2 : m ≤ 1000000) (Tn : n ≤ 100) (r : Bool) (hr : Kp (jH os hs = r)) (w : World) (hv : Hid (bF w)) (hO : Hid (Os w O os)) (hK : Hid (Hs w K hs)) :
  Calls Tryz.prog 85 #[kN O n c K m d] w (Rt w (.bool r)) := by
 have dn : decide ((100 : Int) < (n : Int)) = false := by simp; omega
 obtain ⟨w0, HW, ai, kC⟩ := st1 (qj O n c K m d) xN w
 have kD := r_ ai hv
 have Hw := gV (fun u => Os u O os) ai hO (·.below)
 have O_ := gV (fun u => Hs u K hs) ai hK (·.below)
 have ah := bS w0
 clear hv hO hK
 go_in
 go_upto_region 1 with (fail)
 rw [HW.out]
 have zc := kC.out _ ah
 have Ql := ah
 have hq0 := af w0 (.cells z32 41)
 have aD := bY ah hq0
 clear hq0
 have oQ := kC.out _ aD
 go_wp2
 clear zc oQ
 obtain ⟨W, hW⟩ : ∃ x, w0.alloc (.cells z32 41) = x := ⟨_, rfl⟩
 rw [hW] at aD
 have bQ := aD
 obtain ⟨B, hB⟩ : ∃ x, w0.heap.size = x := ⟨_, rfl⟩
 have Ce : Hid (W.heap.size = B + 1 ∧ w0.heap.size ≤ B) := aa ⟨by rw [← hW, ← hB]; simp, by rw [← hB]; exact Nat.le_refl _⟩
 have HK0 : Hid (bB .u8 41 W B (dD 32)) := aa (by rw [← hW, ← hB, iP]; exact bB.new _ _)
 rw [hW, hB]
 have EI := aa hW
 have aaD := aa hB
 clear hW hB Ql
 go_loopw [5, 6] (fun ce i u => ∃ (k : Nat) (h : List Int), k ≤ n ∧ i = .int .i64 k ∧ ce = .int .i64 (wF os k) ∧ Hid (xy os hs n k = true) ∧ Kp (hbL os k = h) ∧ Hid (bB .u8 41 u B h) ∧ Hid (Below B W u)) (fun _ i _ => n - (intOf i).toNat)
 case atStart => exact ⟨0, dD 32, by omega, rfl, rfl, aa rfl, ⟨rfl⟩, HK0, aa (Below.refl _ _)⟩
 case round =>
  obtain ⟨k, h, hk, rfl, rfl, HST, GD, HBK, au⟩ := hrel
  have nR : Hid (Below w0.heap.size w0 wr) := aa (bQ.out.trans (au.out.mono Ce.out.2))
  have HL : Hid (h.length = 32) := aa (by rw [← GD.1]; exact uO _ _)
  have HBY : Hid (az h = true) := aa (by rw [← GD.1]; exact D7 _ _)
  by_cases hlt : k < n
  ·
   have hkl : k < os.length := by rw [hn.out]; exact hlt
   obtain ⟨b, f, hA, h9, hok⟩ := (Hw.out _ nR).out k hkl
   subst hA
   have hoi := hI k hlt
   have hcl : wF os k = k := H_ HST.out hlt
   rw [hcl]
   obtain ⟨o, ho⟩ : ∃ o, os.getD k iF = o := ⟨_, rfl⟩
   have nU : Hid (iT os k = o) := aa ho
   rw [ho] at h9 hok
   have Mj : gP o := by rw [← ho]; exact hoi
   have NA := aa Mj
   have nV := aa hok
   obtain ⟨j0, j1, j2, j3, j4, j5, j6, j7, j8⟩ := h9
   have dw : IntKind.i64.wrap ((n : Int) - 1) = (n : Int) - 1 := IntWalk.i64_in _ (by omega)
   have WB : wrap64 ((n : Int) - 1) = (n : Int) - 1 := IntWalk.wrap64_in _ (by omega)
   have zn := aa hcl
   clear ho hoi Mj hok hkl hcl
   have dX := bS wr
   have VO := wh (w := wr) (fun u => gy u o) nV.out (·.below)
   have Sv := wh (w := wr) (fun u => bB .u8 41 u B h) HBK.out (·.below)
   have zc := kC.out _ nR
   obtain ⟨w2, hw, qb, Cc, -, kS⟩ := sI (vo o) xM wr
   have aN := pY nR qb
   have aY := pY dX qb
   have bg := bS w2
   clear qb
   have oQ := kC.out _ aN
   have jG := kS.out _ bg
   go_wp2_with fail
   clear zc oQ jG hw
   have zc := kC.out _ aN
   have iR := kS.out _ bg
   clear j0 j1 j2 j3 j4 j5 j6 j7 j8
   obtain ⟨ob, l5⟩ : ∃ x, zF o = x := ⟨_, rfl⟩
   have Gw := aa l5
   clear l5
   go_wp2_with fail
   clear zc iR
   refine rW aN aY bg (Fg o ob Gw _ (VO.out _ aY)) fun w3 bu bG gu => ?_
   have zc := kC.out _ bu
   have iR := kS.out _ gu
   cases ob with
   | true =>
    have l5 := Gw.out
    by_cases gX : o.num = (k : Int)
    ·
     have ES : (o.num != (k : Int)) = false := by simpa using gX
     by_cases hkey : o.key = 0
     ·
      have dk1 : (o.key == 0) = true := by simpa using hkey
      by_cases hlast : k + 1 = n
      ·
       have Z9 : decide ((k : Int) < (n : Int) - 1) = false := by simp; omega
       have HS2 : Hid (xy os hs n (k + 1) = true) := aa (by rw [xy, HST.out, Ba, nU.out]; simp [l5, hkey, gX, hlast])
       have NG : Kp (hbL os (k + 1) = h) := ⟨by rw [hbL, nU.out, if_pos hkey]; exact GD.1⟩
       have UG : Hid (wF os (k + 1) = k) := aa (by simp [wF, nU.out, hkey, zn.out])
       clear l5 hkey gX hlast
       have X_ : Hid (Below B W w3) := aa (au.out.trans (bG.out.mono (by have := au.out.size; have := Ce.out.1; omega)))
       have HKn : Hid (bB .u8 41 w3 B h) := (Sv.out _ bG)
       go_wp2
       go_roundw
       case rel => exact ⟨k + 1, h, by omega, by go_num, by rw [UG.out], HS2, NG, HKn, X_⟩
       case measure => simp [intOf]; omega
      ·
       have Z9 : decide ((k : Int) < (n : Int) - 1) = true := by simp; omega
       have SX : k + 1 ≠ n := hlast
       obtain rfl : r = false := hr.1.symm.trans (jQ hn.out hlt (by rw [Ba, nU.out]; simp [l5, hkey, SX]))
       clear l5 hkey gX hlast SX
       go_wp2
       go_ret
       exact ⟨rfl, fe ai bu⟩
     ·
      have dk1 : (o.key == 0) = false := by simpa using hkey
      obtain ⟨RR, hRR⟩ : ∃ x, Jk h o = x := ⟨_, rfl⟩
      have HRR : Kp (Jk h o = RR) := ⟨hRR⟩
      have fo : Hid (RR.length = 32) := aa (by rw [← hRR]; exact Bz _ _)
      have NG : Kp (hbL os (k + 1) = RR) := ⟨by rw [hbL, nU.out, if_neg hkey, GD.1]; exact hRR⟩
      have Uy := aa hkey
      have Uq := aa gX
      clear l5 hkey gX hRR
      have zR := (Sv.out _ bG)
      go_wp2_with ((with_reducible show wpList _ _ _ (⟨some 46, _, _, _, _, _⟩ :: _) _ _); refine wpList_load_row rfl 41 _ rfl B rfl _ _ _ _ zR.out Tryz.underlying41 rfl (ax HL.out) ?_)
      refine (I6 h HL HBY o NA (xC Gw.out nV.out) _ (kD.out _ bu) (VO.out _ bG)).mono ?_
      rintro e w4 ⟨rfl, hb0⟩
      rw [HRR.1]
      have dm := bY bu hb0
      have dx := bY bG hb0
      have lX := bY gu hb0
      clear zc iR hb0
      have zc := kC.out _ dm
      have iR := kS.out _ lX
      have zu := (Sv.out _ dx)
      obtain ⟨wz, hwz⟩ : ∃ x, w4.setRow B (arr .u8 RR) = x := ⟨_, rfl⟩
      have tT : Hid (Below B W wz) := aa (by rw [← hwz]; exact aj (au.out.trans (dx.out.mono (by have := au.out.size; have := Ce.out.1; omega))) (Nat.le_refl _))
      have zo : Hid (Below w0.heap.size w0 wz) := aa (bQ.out.trans (tT.out.mono Ce.out.2))
      have GJ : Hid (bB .u8 41 wz B RR) := aa (by rw [← hwz]; exact zu.out.setRow)
      go_upto_region 14 with ((with_reducible show wpList _ _ _ (⟨none, _, _, _, _, _⟩ :: _) _ _); refine wpList_store_row rfl 41 _ _ rfl B (arr .u8 RR) rfl rfl _ _ zu.out (ax fo.out) (dY HL.out fo.out) (cu _) ?_)
      clear zc iR
      rw [hwz]
      clear hwz zR zu
      by_cases hkm : m ≤ k
      ·
       have l5 := Gw.out
       have hkey := Uy.out
       have gX := Uq.out
       have WG : decide ((m : Int) ≤ (k : Int)) = true := by simp; omega
       obtain rfl : r = false := hr.1.symm.trans (jQ hn.out hlt (by rw [Ba, nU.out]; simp [l5, hkey, gX, hm.out]; omega))
       clear l5 hkey gX
       have jD := bS wz
       have hO := aa (fun (u : World) (h : Hid (Below w0.heap.size w0 u ∧ Below wz.heap.size wz u)) => kC.out u (aa h.out.1))
       refine t_ (fun u => Below w0.heap.size w0 u ∧ Below wz.heap.size wz u) [] (bb2 (aa ⟨zo.out, jD.out⟩) ((Below.refl _ _).drew)) (fun hHeld => ?_)
       refine aT 0 1 2 3 ?_
       refine aH 4 ?_
       refine aH 5 ?_
       refine dR 6 7 8 9 ?_
       refine jl 10 ?_
       refine jl 11 ?_
       refine jl 12 ?_
       refine aH 13 ?_
       refine gz ?_
       clear hO
       have fU := (aa hHeld.out.1)
       have jP := (aa hHeld.out.2)
       clear hHeld
       have zc := kC.out _ fU
       have CG : Hid (Below B W wz.drew) := aa (tT.out.trans (jP.out.mono (by have := tT.out.size; have := Ce.out.1; omega)))
       go_wp2
       go_ret
       exact ⟨rfl, fe ai fU⟩
      ·
       cases hrq : (hsL hs k == Jk h o) with
       | true =>
        have l5 := Gw.out
        have hkey := Uy.out
        have gX := Uq.out
        have WG : decide ((m : Int) ≤ (k : Int)) = false := by simp; omega
        have SY : k < m := by omega
        obtain ⟨b2, f2, hA2, hl2, hrg2⟩ := (O_.out _ zo).out k (by rw [hm.out]; omega)
        subst hA2
        obtain ⟨BI, hhk⟩ : ∃ x, hsL hs k = x := ⟨_, rfl⟩
        rw [hhk] at hl2 hrg2
        have HL2 := aa hl2
        have UB := aa hrg2
        have UC := aa hhk
        rw [hhk, HRR.1] at hrq
        have hbq : (!(BI == RR)) = false := by rw [hrq]; rfl
        clear hl2 hrg2 hhk
        have HS2 : Hid (xy os hs n (k + 1) = true) := aa (by rw [xy, HST.out, Ba, nU.out, NG.1, UC.out]; simp [l5, hm.out, hrq, hkey, gX]; omega)
        have UG : Hid (wF os (k + 1) = k + 1) := aa (by simp [wF, nU.out, hkey, zn.out])
        clear l5 hkey gX hrq
        have jD := bS wz
        have hO := aa (fun (u : World) (h : Hid (Below w0.heap.size w0 u ∧ Below wz.heap.size wz u)) => kC.out u (aa h.out.1))
        refine t_ (fun u => Below w0.heap.size w0 u ∧ Below wz.heap.size wz u) [] (bb2 (aa ⟨zo.out, jD.out⟩) ((Below.refl _ _).drew)) (fun hHeld => ?_)
        refine aT 0 1 2 3 ?_
        refine aT 4 5 6 7 ?_
        refine aH 8 ?_
        refine aH 9 ?_
        refine Bc 10 (.agg (arr .u8 BI)) rfl (oU 41 _ rfl b2 (f2 + k * 32) rfl (BI.map (Value.int .u8)) _ (fun _ hq => fQ UB.out hq.out.2) Tryz.underlying41 rfl (ou HL2.out)) ?_
        refine Bc 11 (.agg (arr .u8 RR)) rfl (fI 41 _ rfl B rfl _ _ _ _ (fun _ hq => GJ.out.below hq.out.2) Tryz.underlying41 rfl (ax fo.out)) ?_
        refine Bc 12 (.bool false) rfl (iX _ _ _ rfl BI RR HL2.out fo.out rfl rfl _ hbq) ?_
        refine aH 13 ?_
        refine gz ?_
        clear hO
        have fU := (aa hHeld.out.1)
        have jP := (aa hHeld.out.2)
        clear hHeld
        have zc := kC.out _ fU
        have CG : Hid (Below B W wz.drew) := aa (tT.out.trans (jP.out.mono (by have := tT.out.size; have := Ce.out.1; omega)))
        have HK9 : Hid (bB .u8 41 wz.drew B RR) := aa (GJ.out.below jP.out)
        go_wp2
        go_roundw
        case rel => exact ⟨k + 1, RR, by omega, by go_num, by rw [UG.out]; go_num, HS2, NG, HK9, CG⟩
        case measure => simp [intOf]; omega
       | false =>
        have l5 := Gw.out
        have hkey := Uy.out
        have gX := Uq.out
        have WG : decide ((m : Int) ≤ (k : Int)) = false := by simp; omega
        have SY : k < m := by omega
        obtain ⟨b2, f2, hA2, hl2, hrg2⟩ := (O_.out _ zo).out k (by rw [hm.out]; omega)
        subst hA2
        obtain ⟨BI, hhk⟩ : ∃ x, hsL hs k = x := ⟨_, rfl⟩
        rw [hhk] at hl2 hrg2
        have HL2 := aa hl2
        have UB := aa hrg2
        have UC := aa hhk
        rw [hhk, HRR.1] at hrq
        have hbq : (!(BI == RR)) = true := by rw [hrq]; rfl
        clear hl2 hrg2 hhk
        obtain rfl : r = false := hr.1.symm.trans (jQ hn.out hlt (by rw [Ba, nU.out]; simp [l5, hkey, gX, hm.out, UC.out, NG.1, hrq]))
        clear l5 hkey gX hrq
        have jD := bS wz
        have hO := aa (fun (u : World) (h : Hid (Below w0.heap.size w0 u ∧ Below wz.heap.size wz u)) => kC.out u (aa h.out.1))
        refine t_ (fun u => Below w0.heap.size w0 u ∧ Below wz.heap.size wz u) [] (bb2 (aa ⟨zo.out, jD.out⟩) ((Below.refl _ _).drew)) (fun hHeld => ?_)
        refine aT 0 1 2 3 ?_
        refine aT 4 5 6 7 ?_
        refine aH 8 ?_
        refine aH 9 ?_
        refine Bc 10 (.agg (arr .u8 BI)) rfl (oU 41 _ rfl b2 (f2 + k * 32) rfl (BI.map (Value.int .u8)) _ (fun _ hq => fQ UB.out hq.out.2) Tryz.underlying41 rfl (ou HL2.out)) ?_
        refine Bc 11 (.agg (arr .u8 RR)) rfl (fI 41 _ rfl B rfl _ _ _ _ (fun _ hq => GJ.out.below hq.out.2) Tryz.underlying41 rfl (ax fo.out)) ?_
        refine Bc 12 (.bool true) rfl (iX _ _ _ rfl BI RR HL2.out fo.out rfl rfl _ hbq) ?_
        refine aH 13 ?_
        refine gz ?_
        clear hO
        have fU := (aa hHeld.out.1)
        have jP := (aa hHeld.out.2)
        clear hHeld
        have zc := kC.out _ fU
        have CG : Hid (Below B W wz.drew) := aa (tT.out.trans (jP.out.mono (by have := tT.out.size; have := Ce.out.1; omega)))
        go_wp2
        go_ret
        exact ⟨rfl, fe ai fU⟩
    ·
     have ES : (o.num != (k : Int)) = true := by simpa using gX
     obtain rfl : r = false := hr.1.symm.trans (jQ hn.out hlt (by rw [Ba, nU.out]; simp [l5, gX]))
     clear l5 gX
     go_wp2
     go_ret
     exact ⟨rfl, fe ai bu⟩
   | false =>
    have l5 := Gw.out
    obtain rfl : r = false := hr.1.symm.trans (jQ hn.out hlt (by rw [Ba, nU.out]; simp [l5]))
    clear l5
    go_wp2
    go_ret
    exact ⟨rfl, fe ai bu⟩
  ·
   obtain rfl : k = n := by omega
   have hre : ((((wF os k : Nat) : Int)) == ((m : Nat) : Int)) = r := by
    rw [← hr.1, jH, hn.out, HST.out, hm.out, decide_eq_true Tn]; simp only [Bool.true_and]
    rw [Bool.eq_iff_iff]; simp; omega
   have Md : ((((m : Nat) : Int)) == ((wF os k : Nat) : Int)) = r := by rw [← hre, BEq.comm]
   obtain ⟨q, hq⟩ : ∃ q, wF os k = q := ⟨_, rfl⟩
   rw [hq] at hre Md ⊢
   clear hq
   have zc := kC.out _ nR
   have bV := ag ai.out nR.out
   go_wp2
   go_ret
   exact ⟨by first | rfl | rw [hre] | rw [Md], bV⟩
theorem Ae (O : Option Addr) (os : List aJ) (n c : Nat) (K : Option Addr) (hs : List (List Int)) (m d : Nat) (hn : Hid (os.length = n)) (hm : Hid (hs.length = m)) (hI : ∀ k, k < n → gP (iT os k)) (hb1 : n ≤ 1000000) (hb2 : m ≤ 1000000) (r : Bool) (hr : Kp (jH os hs = r)) (w : World) (hv : Hid (bF w)) (hO : Hid (Os w O os)) (hK : Hid (Hs w K hs)) :
  Calls Tryz.prog 85 #[kN O n c K m d] w (Rt w (.bool r)) := by
 by_cases h : n ≤ 100
 · exact Oz O os n c K hs m d hn hm hI hb1 hb2 h r hr w hv hO hK
 ·
  obtain rfl : r = false := hr.1.symm.trans (by rw [jH, hn.out, decide_eq_false h]; rfl)
  exact OA O n c K m d h hb1 w
theorem RH (P Q G : Int) (nd : Nat) (Cs : Option Addr) (cs : List Int) (cn cc : Nat) (Ks : Option Addr) (ks : List Int) (kn kc : Nat) (hcn : Hid (cs.length = cn)) (hkn : Hid (ks.length = kn)) (hQ : Q < 9223372036854775808) (hr : Hid (tY P Q G (nd : Int) cs ks = true)) (O : Option Addr) (os : List aJ) (n c : Nat) (K : Option Addr) (hs : List (List Int)) (m d : Nat) (hn : Hid (os.length = n)) (hm : Hid (hs.length = m)) (hI : Hid (∀ k, k < n → gP (iT os k))) (hb1 : n ≤ 1000000) (hb2 : m ≤ 1000000) (HT : Kp (jH os hs = true)) (w : World) (hv : Hid (Vars w)) (hd0 : Hid (bF w)) (hC : Hid (Sl w Cs cs)) (hK : Hid (Sl w Ks ks)) (hO : Hid (Os w O os)) (hH : Hid (Hs w K hs)) :
  Calls Tryz.prog 28 #[gv P Q G, lM (nd : Int) Cs cn cc Ks kn kc, kN O n c K m d] w (Rt w (.bool (mW (fun k => Rc P Q G nd cs ks os hs k) n))) := by
 obtain ⟨gf, hgf⟩ : ∃ f : Nat → Bool, (fun k => Rc P Q G nd cs ks os hs k) = f := ⟨_, rfl⟩
 rw [hgf]
 have XX := aa hgf
 clear hgf
 obtain ⟨w0, HW, ai, kC⟩ := qF (bq P Q G) gq (.cells #[.int .i64 (nd : Int), .slice Cs cn cc, .slice Ks kn kc] 26) gq (qj O n c K m d) xN w
 have kO := gV (fun u => Os u O os) ai hO (·.below)
 have kH := gV (fun u => Hs u K hs) ai hH (·.below)
 have kD := r_ ai hd0
 have tF := mkS ai hC
 have tC := mkS ai hK
 have kV := mkV ai hv
 have ah := bS w0
 clear hO hH hd0 hC hK hv
 go_in
 go_upto_region 1 with (fail)
 rw [HW.out]
 have zc := kC.out _ ah
 go_wp2_with fail
 clear zc
 refine eB kC ah (mh P Q G (nd : Int) Cs cs cn cc Ks ks kn kc hcn hkn true hr hQ _ (tF.out _ ah) (tC.out _ ah)) fun w1 aD zc => ?_
 go_wp2_with fail
 clear zc
 refine eB kC aD (Ae O os n c K hs m d hn hm hI.out hb1 hb2 true HT _ (kD.out _ aD) (kO.out _ aD) (kH.out _ aD)) fun w2 aN zc => ?_
 go_wp2
 have HB2 := aN
 clear zc
 go_loopw [7] (fun j u => ∃ k : Nat, k ≤ n ∧ j = .int .i64 k ∧ Hid (mW gf k = true) ∧ Hid (Below w0.heap.size w0 u)) (fun j _ => n - (intOf j).toNat)
 case atStart => exact ⟨0, by omega, rfl, aa rfl, HB2⟩
 case round =>
  obtain ⟨k, hk, rfl, NW, au⟩ := hrel
  by_cases hlt : k < n
  ·
   obtain ⟨bO, fO, ZQ, d_, hok⟩ := ((kO.out _ au)).out k (by rw [hn.out]; exact hlt)
   subst ZQ
   have jf := congrFun XX.out k
   have NA := aa (hI.out k hlt)
   have Ub : lD (iT os k) := xC (by exact (lY (o6 (nZ HT.1).1 k (by rw [hn.out]; exact hlt))).1) hok
   have him : k ≤ m := by rw [← hm.out]; exact Ii HT.1 (by rw [hn.out]; exact hlt)
   have HHL : Hid ((lC hs k).length = 32) := aa (by rw [BX HT.1 (by rw [hm.out]; exact him)]; exact uO _ _)
   have GD : Hid (az (lC hs k) = true) := aa (by rw [BX HT.1 (by rw [hm.out]; exact him)]; exact D7 _ _)
   obtain ⟨o, hoe⟩ : ∃ x, iT os k = x := ⟨_, rfl⟩
   rw [show os.getD k iF = o from hoe] at d_
   rw [Rc, hoe] at jf
   rw [hoe] at NA Ub
   rw [show os.getD k iF = o from hoe] at hok
   have Uo := aa hoe
   have nV := aa hok
   have CF := aa jf
   obtain ⟨j0, j1, j2, j3, j4, j5, j6, j7, j8⟩ := d_
   clear hoe hok jf
   have aY := bS wr
   have zc := kC.out _ au
   obtain ⟨w3, hw, EU, Qb, -, kE⟩ := sI (vo o) xM wr
   have bu := pY au EU
   have bG := pY aY EU
   have eO := bS w3
   clear EU
   have oQ := kC.out _ bu
   have EZ := kE.out _ eO
   go_upto_region 7 with (fail)
   clear zc oQ EZ hw
   have zc := kC.out _ bu
   have zU := kE.out _ eO
   clear j0 j1 j2 j3 j4 j5 j6 j7 j8
   have zc := kC.out _ bu
   have zU := kE.out _ eO
   have BH := nV.out.2.2.1.1
   have J8 : Hid (o.ps.length = o.np) := aa BH
   have Ym : o.np ≤ 8 := by rw [← BH]; exact Ub.n
   have HLR : Hid (∀ j, j < o.np → r64 (o.ps.getD j aF).ix) := aa (fun j hj => (NA.out.2.2.2.2.2.2.2 _ (oD (by rw [BH]; exact hj))).1)
   clear BH
   have Zg := aa (show ∀ u : World, Hid (Below wr.heap.size wr u) → Hid (Pa u o.L o.ps) from fun u h => aa (nV.out.2.2.2.2.2.below (ag (Below.refl _ _) h.out)))
   go_wp2_with fail
   clear zc zU
   refine rW bu bG eO (Le P Q G (nd : Int) Cs cs cn cc Ks ks kn kc hcn hkn hQ bO fO os n c K hs m d k hn hm hlt him hb1 hb2 (lC hs k) (aa rfl) HHL GD o Uo NA Ub _ (kV.out _ bu) (kD.out _ bu) (tF.out _ bu) (tC.out _ bu) (kO.out _ bu) (kH.out _ bu)) fun w4 dm dx nI => ?_
   have zc := kC.out _ dm
   have zU := kE.out _ nI
   obtain ⟨ab, hab⟩ : ∃ x, mW (fun j => Fh P Q G (nd : Int) cs ks (lC hs k) o (o.ps.getD j aF)) o.np = x := ⟨_, rfl⟩
   rw [hab]
   have jf := CF.out
   rw [hab] at jf
   clear hab CF
   cases ab with
   | false =>
    have HN : Hid (mW gf n = false) := aa (jA (by rw [← jf]; rfl) hlt)
    clear jf
    go_wp2
    go_ret
    exact ⟨by rw [HN.out]; rfl, fe ai dm⟩
   | true =>
    cases hk0 : (o.key == 0) with
    | true =>
     rw [hk0] at jf
     have CF := aa jf
     clear jf
     have HN : Hid (mW gf (k + 1) = true) := aa (by rw [mW, NW.out]; exact (by rw [← CF.out]; rfl))
     have IC := dm
     go_wp2
     go_roundw
     case rel => exact ⟨k + 1, by omega, by go_num, HN, IC⟩
     case measure => simp [intOf]; omega
    | false =>
     rw [hk0] at jf
     obtain ⟨cE, S_⟩ : ∃ x, jg P Q (nd : Int) kn o.E1 o.E2 o.ps = x := ⟨_, rfl⟩
     obtain ⟨cV, S9⟩ : ∃ x, nN P Q (nd : Int) kn o.E1 o.E2 o.ps = x := ⟨_, rfl⟩
     rw [hkn.out, S_, S9] at jf
     have HCE := aa S_
     have U7 := aa S9
     have CF := aa jf
     clear jf S_ S9
     go_wp2_with fail
     clear zc zU
     refine rW dm dx nI (Lc P Q G nd Cs cs cn cc Ks ks kn kc hcn hkn o.E1 o.E2 o.A o.na o.ca o.C o.Z o.nz o.cz o.L o.ps o.np o.cp J8 (by omega) HLR hr _ (Zg.out _ dx)) fun w5 jh lV qg => ?_
     have zc := kC.out _ jh
     have zU := kE.out _ qg
     rw [HCE.out, U7.out]
     have jf := CF.out
     by_cases d1 : o.np < nd
     ·
      have e1 : decide ((o.np : Int) < (nd : Int)) = true := by simp; omega
      rw [e1] at jf
      have HG2 := aa jf
      clear jf e1
      have d1b : ¬ nd ≤ o.np := by omega
      have HN : Hid (mW gf n = false) := aa (jA (by rw [← HG2.out]; rfl) hlt)
      go_wp2
      go_ret
      exact ⟨by rw [HN.out]; rfl, fe ai jh⟩
     ·
      have e1 : decide ((o.np : Int) < (nd : Int)) = false := by simp; omega
      rw [e1] at jf
      clear e1
      have d1b : nd ≤ o.np := by omega
      by_cases d2 : cE = 0
      ·
       subst d2
       rw [show ((0 : Int) == 0) = true from rfl] at jf
       cases d3 : (cV == o.key) with
       | false =>
        have e3 : (cV != o.key) = true := by rw [bne, d3]; rfl
        rw [d3] at jf
        have HG2 := aa jf
        clear jf d3
        have HN : Hid (mW gf n = false) := aa (jA (by rw [← HG2.out]; rfl) hlt)
        go_wp2
        go_ret
        exact ⟨by rw [HN.out]; rfl, fe ai jh⟩
       | true =>
        have e3 : (cV != o.key) = false := by rw [bne, d3]; rfl
        rw [d3] at jf
        have HG2 := aa jf
        clear jf d3
        have HN : Hid (mW gf (k + 1) = true) := aa (by rw [mW, NW.out]; exact (by rw [← HG2.out]; rfl))
        have IC := jh
        go_wp2
        go_roundw
        case rel => exact ⟨k + 1, by omega, by go_num, HN, IC⟩
        case measure => simp [intOf]; omega
      ·
       have e2 : (cE == 0) = false := by simpa using d2
       rw [e2] at jf
       have HG2 := aa jf
       clear jf e2
       have HN : Hid (mW gf n = false) := aa (jA (by rw [← HG2.out]; rfl) hlt)
       go_wp2
       go_ret
       exact ⟨by rw [HN.out]; rfl, fe ai jh⟩
  ·
   have hke : k = n := by omega
   have Yd : Hid (mW gf n = true) := aa (by rw [← hke]; exact NW.out)
   clear hke
   have zc := kC.out _ au
   go_wp2
   go_ret
   exact ⟨by rw [Yd.out]; rfl, fe ai au⟩
theorem Vj (P Q G need : Int) (Cs : Option Addr) (cs : List Int) (cn cc : Nat) (Ks : Option Addr) (ks : List Int) (kn kc : Nat) (hcn : Hid (cs.length = cn)) (hkn : Hid (ks.length = kn)) (hQ : Q < 9223372036854775808) (O : Option Addr) (os : List aJ) (n c : Nat) (K : Option Addr) (hs : List (List Int)) (m d : Nat) (hn : Hid (os.length = n)) (hm : Hid (hs.length = m)) (hI : Hid (∀ k, k < n → gP (iT os k))) (hb1 : n ≤ 1000000) (hb2 : m ≤ 1000000) (HT : Kp (jH os hs = false)) (w : World) (hv : Hid (Vars w)) (hd0 : Hid (bF w)) (hC : Hid (Sl w Cs cs)) (hK : Hid (Sl w Ks ks)) (hO : Hid (Os w O os)) (hH : Hid (Hs w K hs)) :
  Calls Tryz.prog 27 #[gv P Q G, lM need Cs cn cc Ks kn kc, kN O n c K m d] w (Rt w (.bool false)) := by
 obtain ⟨w0, HW, ai, kC⟩ := qF (bq P Q G) gq (.cells #[.int .i64 need, .slice Cs cn cc, .slice Ks kn kc] 26) gq (qj O n c K m d) xN w
 have kO := gV (fun u => Os u O os) ai hO (·.below)
 have kH := gV (fun u => Hs u K hs) ai hH (·.below)
 have kD := r_ ai hd0
 have tF := mkS ai hC
 have tC := mkS ai hK
 have kV := mkV ai hv
 have ah := bS w0
 clear hO hH hd0 hC hK hv
 go_in
 go_upto_region 1 with (fail)
 rw [HW.out]
 have zc := kC.out _ ah
 go_wp2_with fail
 clear zc
 refine eB kC ah (l_ O os n c K hs m d hn hm hI.out hb1 hb2 false HT _ (kD.out _ ah) (kO.out _ ah) (kH.out _ ah)) fun w1 aD zc => ?_
 go_wp2
 go_ret
 exact ⟨rfl, fe ai aD⟩
theorem Vi (P Q G need : Int) (Cs : Option Addr) (cs : List Int) (cn cc : Nat) (Ks : Option Addr) (ks : List Int) (kn kc : Nat) (hcn : Hid (cs.length = cn)) (hkn : Hid (ks.length = kn)) (hQ : Q < 9223372036854775808) (O : Option Addr) (os : List aJ) (n c : Nat) (K : Option Addr) (hs : List (List Int)) (m d : Nat) (hn : Hid (os.length = n)) (hm : Hid (hs.length = m)) (hI : Hid (∀ k, k < n → gP (iT os k))) (hb1 : n ≤ 1000000) (hb2 : m ≤ 1000000) (HT : Kp (jH os hs = true)) (hr : Hid (tY P Q G need cs ks = false)) (w : World) (hv : Hid (Vars w)) (hd0 : Hid (bF w)) (hC : Hid (Sl w Cs cs)) (hK : Hid (Sl w Ks ks)) (hO : Hid (Os w O os)) (hH : Hid (Hs w K hs)) :
  Calls Tryz.prog 27 #[gv P Q G, lM need Cs cn cc Ks kn kc, kN O n c K m d] w (Rt w (.bool false)) := by
 obtain ⟨w0, HW, ai, kC⟩ := qF (bq P Q G) gq (.cells #[.int .i64 need, .slice Cs cn cc, .slice Ks kn kc] 26) gq (qj O n c K m d) xN w
 have kO := gV (fun u => Os u O os) ai hO (·.below)
 have kH := gV (fun u => Hs u K hs) ai hH (·.below)
 have kD := r_ ai hd0
 have tF := mkS ai hC
 have tC := mkS ai hK
 have kV := mkV ai hv
 have ah := bS w0
 clear hO hH hd0 hC hK hv
 go_in
 go_upto_region 1 with (fail)
 rw [HW.out]
 have zc := kC.out _ ah
 go_wp2_with fail
 clear zc
 refine eB kC ah (l_ O os n c K hs m d hn hm hI.out hb1 hb2 true HT _ (kD.out _ ah) (kO.out _ ah) (kH.out _ ah)) fun w1 aD zc => ?_
 go_wp2_with fail
 clear zc
 refine eB kC aD (mX P Q G need Cs cs cn cc Ks ks kn kc hcn hkn false hr hQ _ (kV.out _ aD) (tF.out _ aD) (tC.out _ aD)) fun w2 aN zc => ?_
 go_wp2
 go_ret
 exact ⟨rfl, fe ai aN⟩
theorem KX (P Q G need : Int) (Cs : Option Addr) (cs : List Int) (cn cc : Nat) (Ks : Option Addr) (ks : List Int) (kn kc : Nat) (hcn : Hid (cs.length = cn)) (hkn : Hid (ks.length = kn)) (hQ : Q < 9223372036854775808) (O : Option Addr) (os : List aJ) (n c : Nat) (K : Option Addr) (hs : List (List Int)) (m d : Nat) (hn : Hid (os.length = n)) (hm : Hid (hs.length = m)) (hI : Hid (∀ k, k < n → gP (iT os k))) (hb1 : n ≤ 1000000) (hb2 : m ≤ 1000000) (hr : Hid (tY P Q G need cs ks = false)) (w : World) (hv : Hid (Vars w)) (hd0 : Hid (bF w)) (hC : Hid (Sl w Cs cs)) (hK : Hid (Sl w Ks ks)) (hO : Hid (Os w O os)) (hH : Hid (Hs w K hs)) :
  Calls Tryz.prog 28 #[gv P Q G, lM need Cs cn cc Ks kn kc, kN O n c K m d] w (Rt w (.bool false)) := by
 obtain ⟨w0, HW, ai, kC⟩ := qF (bq P Q G) gq (.cells #[.int .i64 need, .slice Cs cn cc, .slice Ks kn kc] 26) gq (qj O n c K m d) xN w
 have kO := gV (fun u => Os u O os) ai hO (·.below)
 have kH := gV (fun u => Hs u K hs) ai hH (·.below)
 have kD := r_ ai hd0
 have tF := mkS ai hC
 have tC := mkS ai hK
 have kV := mkV ai hv
 have ah := bS w0
 clear hO hH hd0 hC hK hv
 go_in
 go_upto_region 1 with (fail)
 rw [HW.out]
 have zc := kC.out _ ah
 go_wp2_with fail
 clear zc
 refine eB kC ah (mh P Q G need Cs cs cn cc Ks ks kn kc hcn hkn false hr hQ _ (tF.out _ ah) (tC.out _ ah)) fun w1 aD zc => ?_
 go_wp2
 go_ret
 exact ⟨rfl, fe ai aD⟩
theorem RI (P Q G need : Int) (Cs : Option Addr) (cs : List Int) (cn cc : Nat) (Ks : Option Addr) (ks : List Int) (kn kc : Nat) (hcn : Hid (cs.length = cn)) (hkn : Hid (ks.length = kn)) (hQ : Q < 9223372036854775808) (O : Option Addr) (os : List aJ) (n c : Nat) (K : Option Addr) (hs : List (List Int)) (m d : Nat) (hn : Hid (os.length = n)) (hm : Hid (hs.length = m)) (hI : Hid (∀ k, k < n → gP (iT os k))) (hb1 : n ≤ 1000000) (hb2 : m ≤ 1000000) (HT : Kp (jH os hs = false)) (hr : Hid (tY P Q G need cs ks = true)) (w : World) (hv : Hid (Vars w)) (hd0 : Hid (bF w)) (hC : Hid (Sl w Cs cs)) (hK : Hid (Sl w Ks ks)) (hO : Hid (Os w O os)) (hH : Hid (Hs w K hs)) :
  Calls Tryz.prog 28 #[gv P Q G, lM need Cs cn cc Ks kn kc, kN O n c K m d] w (Rt w (.bool false)) := by
 obtain ⟨w0, HW, ai, kC⟩ := qF (bq P Q G) gq (.cells #[.int .i64 need, .slice Cs cn cc, .slice Ks kn kc] 26) gq (qj O n c K m d) xN w
 have kO := gV (fun u => Os u O os) ai hO (·.below)
 have kH := gV (fun u => Hs u K hs) ai hH (·.below)
 have kD := r_ ai hd0
 have tF := mkS ai hC
 have tC := mkS ai hK
 have kV := mkV ai hv
 have ah := bS w0
 clear hO hH hd0 hC hK hv
 go_in
 go_upto_region 1 with (fail)
 rw [HW.out]
 have zc := kC.out _ ah
 go_wp2_with fail
 clear zc
 refine eB kC ah (mh P Q G need Cs cs cn cc Ks ks kn kc hcn hkn true hr hQ _ (tF.out _ ah) (tC.out _ ah)) fun w1 aD zc => ?_
 go_wp2_with fail
 clear zc
 refine eB kC aD (Ae O os n c K hs m d hn hm hI.out hb1 hb2 false HT _ (kD.out _ aD) (kO.out _ aD) (kH.out _ aD)) fun w2 aN zc => ?_
 go_wp2
 go_ret
 exact ⟨rfl, fe ai aN⟩
noncomputable def vB (P Q G need : Int) (cs ks : List Int) (os : List aJ) (hs : List (List Int)) (n : Nat) : Bool := jH os hs && (tY P Q G need cs ks && mW (fun k => Rc P Q G need.toNat cs ks os hs k) n)
theorem Oj (P Q G need : Int) (Cs : Option Addr) (cs : List Int) (cn cc : Nat) (Ks : Option Addr) (ks : List Int) (kn kc : Nat) (hcn : Hid (cs.length = cn)) (hkn : Hid (ks.length = kn)) (hQ : Q < 9223372036854775808) (O : Option Addr) (os : List aJ) (n c : Nat) (K : Option Addr) (hs : List (List Int)) (m d : Nat) (hn : Hid (os.length = n)) (hm : Hid (hs.length = m)) (hI : Hid (∀ k, k < n → gP (iT os k))) (hb1 : n ≤ 1000000) (hb2 : m ≤ 1000000) (r : Bool) (hr : Hid (vB P Q G need cs ks os hs n = r)) (w : World) (hv : Hid (Vars w)) (hd0 : Hid (bF w)) (hC : Hid (Sl w Cs cs)) (hK : Hid (Sl w Ks ks)) (hO : Hid (Os w O os)) (hH : Hid (Hs w K hs)) :
  Calls Tryz.prog 27 #[gv P Q G, lM need Cs cn cc Ks kn kc, kN O n c K m d] w (Rt w (.bool r)) := by
 have hr1 := hr.out
 cases h1 : jH os hs with
 | false =>
  obtain rfl : r = false := by rw [← hr1, vB, h1]; rfl
  exact Vj P Q G need Cs cs cn cc Ks ks kn kc hcn hkn hQ O os n c K hs m d hn hm hI hb1 hb2 ⟨h1⟩ w hv hd0 hC hK hO hH
 | true =>
  cases h2 : tY P Q G need cs ks with
  | false =>
   obtain rfl : r = false := by rw [← hr1, vB, h1, h2]; rfl
   exact Vi P Q G need Cs cs cn cc Ks ks kn kc hcn hkn hQ O os n c K hs m d hn hm hI hb1 hb2 ⟨h1⟩ (aa h2) w hv hd0 hC hK hO hH
  | true =>
   obtain ⟨iU, n1, n2, n3, n4, n5, n6⟩ := jk h2 hcn.out hkn.out
   obtain ⟨nd, rfl⟩ : ∃ nd : Nat, need = (nd : Int) := ⟨need.toNat, by omega⟩
   rw [vB, h1, h2, Bool.true_and, Bool.true_and, Int.toNat_natCast] at hr1
   rw [← hr1]
   exact Vh P Q G nd Cs cs cn cc Ks ks kn kc hcn hkn hQ (aa h2) O os n c K hs m d hn hm hI hb1 hb2 ⟨h1⟩ w hv hd0 hC hK hO hH
theorem KW (P Q G need : Int) (Cs : Option Addr) (cs : List Int) (cn cc : Nat) (Ks : Option Addr) (ks : List Int) (kn kc : Nat) (hcn : Hid (cs.length = cn)) (hkn : Hid (ks.length = kn)) (hQ : Q < 9223372036854775808) (O : Option Addr) (os : List aJ) (n c : Nat) (K : Option Addr) (hs : List (List Int)) (m d : Nat) (hn : Hid (os.length = n)) (hm : Hid (hs.length = m)) (hI : Hid (∀ k, k < n → gP (iT os k))) (hb1 : n ≤ 1000000) (hb2 : m ≤ 1000000) (r : Bool) (hr : Hid (vB P Q G need cs ks os hs n = r)) (w : World) (hv : Hid (Vars w)) (hd0 : Hid (bF w)) (hC : Hid (Sl w Cs cs)) (hK : Hid (Sl w Ks ks)) (hO : Hid (Os w O os)) (hH : Hid (Hs w K hs)) :
  Calls Tryz.prog 28 #[gv P Q G, lM need Cs cn cc Ks kn kc, kN O n c K m d] w (Rt w (.bool r)) := by
 have hr1 := hr.out
 cases h1 : jH os hs with
 | false =>
  obtain rfl : r = false := by rw [← hr1, vB, h1]; rfl
  exact (by
   cases h2 : tY P Q G need cs ks with
   | false => exact KX P Q G need Cs cs cn cc Ks ks kn kc hcn hkn hQ O os n c K hs m d hn hm hI hb1 hb2 (aa h2) w hv hd0 hC hK hO hH
   | true => exact RI P Q G need Cs cs cn cc Ks ks kn kc hcn hkn hQ O os n c K hs m d hn hm hI hb1 hb2 ⟨h1⟩ (aa h2) w hv hd0 hC hK hO hH)
 | true =>
  cases h2 : tY P Q G need cs ks with
  | false =>
   obtain rfl : r = false := by rw [← hr1, vB, h1, h2]; rfl
   exact KX P Q G need Cs cs cn cc Ks ks kn kc hcn hkn hQ O os n c K hs m d hn hm hI hb1 hb2 (aa h2) w hv hd0 hC hK hO hH
  | true =>
   obtain ⟨iU, n1, n2, n3, n4, n5, n6⟩ := jk h2 hcn.out hkn.out
   obtain ⟨nd, rfl⟩ : ∃ nd : Nat, need = (nd : Int) := ⟨need.toNat, by omega⟩
   rw [vB, h1, h2, Bool.true_and, Bool.true_and, Int.toNat_natCast] at hr1
   rw [← hr1]
   exact RH P Q G nd Cs cs cn cc Ks ks kn kc hcn hkn hQ (aa h2) O os n c K hs m d hn hm hI hb1 hb2 ⟨h1⟩ w hv hd0 hC hK hO hH
theorem Ol (P Q G need : Int) (Cs : Option Addr) (cs : List Int) (cn cc : Nat) (Ks : Option Addr) (ks : List Int) (kn kc : Nat) (hcn : Hid (cs.length = cn)) (hkn : Hid (ks.length = kn)) (hQ : Q < 9223372036854775808) (O : Option Addr) (os : List aJ) (n c : Nat) (K : Option Addr) (hs : List (List Int)) (m d : Nat) (hn : Hid (os.length = n)) (hm : Hid (hs.length = m)) (hI : Hid (∀ k, k < n → gP (iT os k))) (w : World) (hv : Hid (Vars w)) (hd0 : Hid (bF w)) (hC : Hid (Sl w Cs cs)) (hK : Hid (Sl w Ks ks)) (hO : Hid (Os w O os)) (hH : Hid (Hs w K hs)) :
  Calls Tryz.prog 6 #[gv P Q G, lM need Cs cn cc Ks kn kc, kN O n c K m d] w (Rt w (.bool true)) := by
 obtain ⟨w0, HW, ai, kC⟩ := qF (bq P Q G) gq (.cells #[.int .i64 need, .slice Cs cn cc, .slice Ks kn kc] 26) gq (qj O n c K m d) xN w
 have kO := gV (fun u => Os u O os) ai hO (·.below)
 have kH := gV (fun u => Hs u K hs) ai hH (·.below)
 have kD := r_ ai hd0
 have tF := mkS ai hC
 have tC := mkS ai hK
 have kV := mkV ai hv
 have ah := bS w0
 clear hO hH hd0 hC hK hv
 go_in
 go_upto_region 1 with (fail)
 rw [HW.out]
 have zc := kC.out _ ah
 go_wp2_with fail
 clear zc
 refine eB kC ah (xP _ (kD.out _ ah)) fun w1 aD zc => ?_
 go_wp2_with fail
 refine (JB O os n c K m d hn _ (kO.out _ aD)).mono ?_
 rintro e w2 ⟨bf, rfl, hbf, hb0⟩
 have aN := bY aD hb0
 clear zc hb0
 have zc := kC.out _ aN
 have fA := aa hbf
 clear hbf
 cases bf with
 | false =>
  go_wp2_with fail
  clear zc
  refine eB kC aN (xP _ (kD.out _ aN)) fun w3 bu zc => ?_
  go_wp2
  go_ret
  exact ⟨rfl, fe ai bu⟩
 | true =>
  have hbb := fA.out rfl
  have hb1 : n ≤ 1000000 := by omega
  have hb2 : m ≤ 1000000 := by omega
  clear hbb fA
  by_cases h1 : 20 < kn
  ·
   have d1 : decide ((20 : Int) < (kn : Int)) = true := by simp; omega
   go_wp2_with fail
   clear zc
   refine eB kC aN (xP _ (kD.out _ aN)) fun w3 bu zc => ?_
   go_wp2
   go_ret
   exact ⟨rfl, fe ai bu⟩
  ·
   have d1 : decide ((20 : Int) < (kn : Int)) = false := by simp; omega
   by_cases h2 : 20 < cn
   ·
    have d2 : decide ((20 : Int) < (cn : Int)) = true := by simp; omega
    go_wp2_with fail
    clear zc
    refine eB kC aN (xP _ (kD.out _ aN)) fun w3 bu zc => ?_
    go_wp2
    go_ret
    exact ⟨rfl, fe ai bu⟩
   ·
    have d2 : decide ((20 : Int) < (cn : Int)) = false := by simp; omega
    obtain ⟨r, hr⟩ : ∃ r, vB P Q G need cs ks os hs n = r := ⟨_, rfl⟩
    have HR := aa hr
    clear hr
    go_upto_region 3 with (fail)
    clear zc
    have hO := kC
    refine jq [] aN (fun hHeld => ?_)
    refine aT 0 1 2 4 ?_
    refine aH 5 ?_
    refine aH 6 ?_
    refine bW 3 fun K hK => ?_
    go_simp
    refine (Oj P Q G need Cs cs cn cc Ks ks kn kc hcn hkn hQ O os n c _ hs m d hn hm hI hb1 hb2 r HR _ (kV.out _ hHeld) (kD.out _ hHeld) (tF.out _ hHeld) (tC.out _ hHeld) (kO.out _ hHeld) (kH.out _ hHeld)).mono ?_
    rintro e wA ⟨rfl, bM⟩
    refine hK.out _ _ (bY hHeld bM) (fun hHeld => ?_)
    clear hK K
    try simp only [qq]
    refine bW 7 fun K hK => ?_
    go_simp
    refine (KW P Q G need Cs cs cn cc Ks ks kn kc hcn hkn hQ O os n c _ hs m d hn hm hI hb1 hb2 r HR _ (kV.out _ hHeld) (kD.out _ hHeld) (tF.out _ hHeld) (tC.out _ hHeld) (kO.out _ hHeld) (kH.out _ hHeld)).mono ?_
    rintro e wA ⟨rfl, bM⟩
    refine hK.out _ _ (bY hHeld bM) (fun hHeld => ?_)
    clear hK K
    refine aH 8 ?_
    refine aH 9 ?_
    refine gz ?_
    clear hO
    have dW := hHeld
    clear hHeld
    have zc := kC.out _ dW
    cases r with
    | false =>
     go_wp2
     go_ret
     exact ⟨rfl, fe ai dW⟩
    | true =>
     go_wp2
     go_ret
     exact ⟨rfl, fe ai dW⟩
end Go.Proofs.YtchcllcbknfikaaGreatDoor