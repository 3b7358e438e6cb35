/- Contracts and lemmas: EncA, EncB, EncC, EncD, EncE, EncF, EncG, TrA, RdgB, RdgC, RdgD, RdgE, DigG. -/
import Derived.Deep.AppendLies
import Derived.Laws.AppendOwnNone
import Derived.Test.YtchcllcbknfikaaGreatDoorTc3
set_option linter.unusedVariables false
set_option linter.unusedSimpArgs false
set_option maxRecDepth 100000
set_option maxHeartbeats 25600000
namespace Go.Proofs.YtchcllcbknfikaaGreatDoor
open Go.RowKit sH
theorem GQ {w w1 w2:World} {r r1:Option Nat} (h:w.grownBy w1 r)(h2:w1.grownBy w2 r1)(hr:r1=r∨∀g,r1=some g→w.heap.size≤g):w.grownBy w2 r:=by
 refine⟨h2.os.trans h.os,h2.tape.trans h.tape,h2.output.trans h.output,Nat.le_trans h.size h2.size,fun k hk hne=>?_⟩;refine(h2.block k (Nat.lt_of_lt_of_le hk h.size) ?_).trans (h.block k hk hne);intro e;rcases hr with hr | hr
 · exact hne (by rw[e,hr])
 · have:=hr k e.symm;omega
def App (base:Nat)(w:World)(v:Value)(xs ys:List Int)(w':World)(v':Value):Prop:=
 aV .u8 5 w' base v' (xs++ys)∧w.grownBy w' v.ownBlock∧(v'.ownBlock=v.ownBlock∨∀g,v'.ownBlock=some g→w.heap.size≤g)
theorem App.refl {base:Nat} {w:World} {v:Value} {xs:List Int} (h:aV .u8 5 w base v xs):App base w v xs [] w v:=
 ⟨by rw[List.append_nil];exact h,World.grownBy.refl _ _,Or.inl rfl⟩
theorem App.trans {base:Nat} {w w1 w2:World} {v v1 v2:Value} {xs ys zs:List Int} (h:App base w v xs ys w1 v1)(h2:App base w1 v1 (xs++ys) zs w2 v2):App base w v xs (ys++zs) w2 v2:=by
 refine⟨by rw[←List.append_assoc];exact h2.1,GQ h.2.1 h2.2.1 h.2.2, ?_⟩;rcases h2.2.2 with e | e
 ·
  rcases h.2.2 with e1 | e1
  · exact Or.inl (e.trans e1)
  · exact Or.inr fun g hg=>e1 g (e▸hg)
 · exact Or.inr fun g hg=>Nat.le_trans h.2.1.size (e g hg)
theorem App.alloc {base:Nat} {w:World} {v:Value} {xs:List Int} (h:aV .u8 5 w base v xs)(o:Obj):App base w v xs [] (w.alloc o) v:=
 ⟨by rw[List.append_nil];exact h.keep (af _ _),World.grownBy_alloc _ _ _,Or.inl rfl⟩
theorem App.pre {base:Nat} {w w1 w2:World} {v v1 v2:Value} {xs ys:List Int} (h:App base w v xs [] w1 v1)(h2:App base w1 v1 xs ys w2 v2):App base w v xs ys w2 v2:=by
 have h3:App base w v xs ([]++ys) w2 v2:=h.trans (by rw[List.append_nil];exact h2);exact h3
theorem App.calm {base:Nat} {w w1:World} {v:Value} {xs:List Int} (h:aV .u8 5 w base v xs)(hb:Below w.heap.size w w1):App base w v xs [] w1 v:=
 ⟨by rw[List.append_nil];exact h.keep hb,⟨hb.os,hb.tape,hb.output,hb.size,fun k hk _=>hb.block k hk⟩,Or.inl rfl⟩
theorem App.below {B base:Nat} {w0 w w':World} {v v':Value} {xs ys:List Int} (h:App base w v xs ys w' v')(ho:aV .u8 5 w base v xs)(hb:Below B w0 w)(hB:B≤base)(hBw:B≤w.heap.size):Below B w0 w':=
 hb.grown h.2.1 hBw (fun j hj=>Nat.le_trans hB (aV.lt ho j hj).1)
theorem App.cell {base:Nat} {w w':World} {v v':Value} {xs ys:List Int} (h:App base w v xs ys w' v') {p:Addr} {u:Value} (hc:w.cell? p=some u)(hne:v.ownBlock≠some p.block):w'.cell? p=some u:=
 h.2.1.cell hc (Ne.symm hne)
theorem App.of_lies {base n m:Nat} {w w1:World} {v:Value} {xs ys:List Int} {g cap H:Nat} (hn:xs.length=n)(hm:ys.length=m)(hH:w.heap.size=H)
  (h1:w1.ownsRow base 5 1 (.slice (some ⟨g,0,none⟩) (n+m) cap) (n+m) (xs.map (Value.int .u8)++ys.map (Value.int .u8))) (h2:w.grownBy w1 v.ownBlock) (h3:v.ownBlock=some g∨g=H):App base w v xs ys w1 (.slice (some ⟨g,0,none⟩) (n+m) cap):=
 ⟨aV.app hn.symm hm.symm h1,h2,h3.elim (fun e=>Or.inl e.symm) (fun e=>Or.inr fun k hk=>by cases hk;show w.heap.size≤g;omega)⟩
section
variable {P : Program}
theorem wpList_append_lies {ops:Array Oper} {rest:List Oper} {o:Oper} {a:Act} {w:World} {Q:Exit→Act→World→Prop} (hgd:o.guard=none)(s x:Operand)(t:TypeId)
  (ho:o.op = .call { callee:= .builtin .append,args:=#[s,x],argTypes:=#[t,t] })
  (base:Nat) (e:TypeId) (i:TypeInfo) (z:Value) (size bytes:Nat) (ht:P.underlying t=some (.slice e)) (hi:P.info? e=some i) (hz:i.zero=some z)
  (hsize:i.size=size) (hby:i.bytes=bytes) (hzs:z.cells.size=size) (hsz:0<size)
  (v:Value) (n:Nat) (xs:List Value) (hs:a.eval s=v) (hown:w.ownsRow base e size v n xs)
  (ad:Addr) (m c:Nat) (news:List Value) (hx:a.eval x = .slice (some ad) m c) (hl:news.length=m*size) (hnews:∀j u,news[j]? = some u→w.cell? (ad.add j)=some u) (h1:∀u∈news,u.oneCell'=true)
  (hm:0<m) (h63:n+m≤maxLen) (hbytes:(n+m)*bytes≤140737488355328) (hbase:base≤w.heap.size) (H:Nat) (hH:w.heap.size=H)
  (h:∀g cap w',w'.ownsRow base e size (.slice (some ⟨g,0,none⟩) (n+m) cap) (n+m) (xs++news)→w.grownBy w' v.ownBlock→(v.ownBlock=some g∨g=H)→g<w'.heap.size→wpList P ops Q rest (a.put o.dst (.slice (some ⟨g,0,none⟩) (n+m) cap)) w') :
  wpList P ops Q (o::rest) a w:=
 wpList_plain hgd fun _ hK=>wp_append_lies w s x t ho base e i z size bytes ht hi hz hsize hby hzs hsz v n xs hs hown ad m c news hx hl hnews h1 hm h63 hbytes hbase H hH fun g cap w' a1 a2 a3 a4=>hK _ _ (h g cap w' a1 a2 a3 a4)
end
def rW (s:Nat)(n:Int):List Int:=if s=8 then sU n else wR n
theorem jO {s:Nat} (h:s=4∨s=8)(n:Int):(rW s n).length=s:=by rcases h with rfl | rfl <;> rfl
theorem EL {s:Nat} (h:s=4∨s=8)(n:Int)(j:Nat)(hj:j<s):(rW s n).getD j 0=n / 2 ^ (8*(s-1-j))%256:=by
 rcases h with rfl | rfl
 · rcases (show j=0∨j=1∨j=2∨j=3 by omega)with rfl | rfl | rfl | rfl <;> simp[rW,wR]
 · rcases (show j=0∨j=1∨j=2∨j=3∨j=4∨j=5∨j=6∨j=7 by omega)with rfl | rfl | rfl | rfl | rfl | rfl | rfl | rfl <;> simp[rW,sU]
def uE (base:Nat)(v:Value)(xs ys:List Int)(w:World)(e:Ending)(w':World):Prop:=∃v',e = .returned v'∧App base w v xs ys w' v'
theorem uh (base:Nat)(v:Value)(xs:List Int)(N:Nat)(n:Int)(s:Nat)(hs:s=4∨s=8)(hN:Hid (xs.length=N))(hbig:N≤20000)(w:World)(ho:Hid (aV .u8 5 w base v xs))(hbase:base≤w.heap.size) :
  Calls Tryz.prog 233 #[v, .int .u64 n, .int .i64 s] w (uE base v xs (rW s n) w):=by
 obtain⟨i0,hi,hz0,hz1,hz2⟩:=info_parts eB;have s1:4≤s:=by omega
 have s2:s≤8:=by omega
 have Fp:=aa hs;clear hs;go_in;go_wp2
 go_loopw [0,7] (fun p i u=>∃k:Nat,k≤s∧i = .int .i64 ((s:Int)-1-(k:Int))∧Hid (App base w v xs ((rW s n).take k) u p)) (fun _ i _=>(intOf i+1).toNat)
 case atStart=>exact⟨0,by omega,by simp,aa (App.refl ho.out)⟩
 case round=>
  obtain⟨k,hk,rfl,HA⟩:=hrel
  by_cases hlt:k<s
  ·
   obtain⟨q,hq⟩:∃q,n / 2 ^ (8*(s-1-k))=q:=⟨_,rfl⟩;have zO:Hid ((rW s n).take (k+1)=(rW s n).take k ++ [q%256]):=aa (by rw[take_one (by rw[jO Fp.out];exact hlt),EL Fp.out n k hlt,hq]);have tC:Hid ((xs++(rW s n).take k).length=N+k):=aa (by rw[List.length_append,List.length_take,jO Fp.out,hN.out];omega);have j0:(0:Int)≤8*((s:Int)-1-(k:Int)):=by omega
   have j1:(8*((s:Int)-1-(k:Int))).toNat=8*(s-1-k):=by omega
   have hown:=(HA.out.1.row tC.out);have hbs:base≤wr.heap.size:=Nat.le_trans hbase HA.out.2.1.size;have d1:(0:Int)≤(s:Int)-1-(k:Int):=by omega
   go_wp2_with (at_builtin;refine wpList_append_lies rfl _ _ 114 rfl base 5 i0 (.int .u8 0) 1 1 Tryz.underlying114 hi hz0 hz1 hz2 rfl (by decide) _ _ _ rfl (hown.alloc _) ⟨wr.heap.size,0,none⟩ 1 1 [.int .u8 (q%256)] rfl rfl (cell_one_new _ _ _) (ints_oneCell .u8 [q%256]) (by decide) (by unfold maxLen;omega) (by omega) (by simp;omega) _ rfl ?_;intro g cap w2 hown2 hgrow2 yO hlt2)
   have HA2:=App.of_lies (v:=u0) (xs:=xs++(rW s n).take k) (ys:= [q%256]) tC.out rfl rfl hown2 hgrow2 yO
   have Ls:Hid (App base w v xs ((rW s n).take (k+1)) w2 (.slice (some ⟨g,0,none⟩) (N+k+1) cap)):=aa (by
    rw[zO.out]
    exact HA.out.trans ((App.alloc HA.out.1 _).pre HA2))
   clear hown hown2 hgrow2 yO HA HA2
   go_roundw
   case rel=>exact⟨k+1,by omega,by go_num,Ls⟩
   case measure=>simp[intOf];omega
  ·
   have HF:Hid (App base w v xs (rW s n) wr u0):=aa (by
    have h:=HA.out
    rwa [show k=(rW s n).length by rw[jO Fp.out];omega,List.take_length]at h)
   have d1:(s:Int)-1-(k:Int)<0:=by omega
   clear HA;go_wp2;go_ret;exact⟨_,rfl,HF.out⟩
def vB (c:Ic):Obj:= .cells #[.int .i64 c.kind, .int .i64 c.n, .slice c.B c.nb c.cb, .slice c.L c.nl c.cl] 117
theorem iT (w:World)(c:Ic):Four (w.alloc (vB c)) w.heap.size 0 c:=by
 have h:=heap_alloc_new w (vB c);exact⟨au h 0,au h 1,au h 2,au h 3⟩
theorem Four.get {w:World} {b o:Nat} {c:Ic} (h:Four w b o c):w.cell? ⟨b,o,none⟩=some (.int .i64 c.kind)∧w.cell? ⟨b,o+1,none⟩=some (.int .i64 c.n)∧w.cell? ⟨b,o+2,none⟩=some (.slice c.B c.nb c.cb)∧w.cell? ⟨b,o+3,none⟩=some (.slice c.L c.nl c.cl):=h
def Qw (g:FuncId)(caps:Array Value)(l:List It)(f:Nat→Ic)(W:World):Prop:=
 ∀k,k<l.length→∀(w1:World),Below W.heap.size W w1→Calls Tryz.prog g (#[(f k).val]++caps) w1 fun e w'=>e = .returned (.bool false)∧Below w1.heap.size w1 w'
theorem O0 (c0:Value)(A:Option Addr)(l:List It)(f:Nat→Ic)(n c:Nat)(hn:Hid (l.length=n))(hbig:n≤1000)(w:World)
  (hs:Hid (∀k,k<l.length→∃b o,A=some ⟨b,o,none⟩∧Four w b (o+k*4) (f k))) (hp:Hid (Qw 254 #[c0] l f w)) :
  Calls Tryz.prog 266 #[.slice A n c, .func (.func 254) #[] #[c0]] w (Rt w (.int .i64 (-1))):=by
 go_in;go_wp2
 go_loopw [8] (fun i wr=>∃k:Nat,k≤n∧i = .int .i64 k∧Hid (Below w.heap.size w wr)) (fun i _=>n-(intOf i).toNat)
 case atStart=>exact⟨0,by omega,rfl,aa (Below.refl _ _)⟩
 case round=>
  obtain⟨k,hk,rfl,aD⟩:=hrel
  by_cases hlt:k<n
  ·
   have hkl:k<l.length:=by rw[hn.out];exact hlt
   obtain⟨b,o,hA,h4⟩:=hs.out k hkl;subst hA;have wI:=hp.out k hkl wr aD.out;obtain⟨ic,hic⟩:∃x,f k=x:=⟨_,rfl⟩;rw[hic]at h4 wI;obtain⟨kd,nn,B,nb,cb,L,nl,cl⟩:=ic;obtain⟨i0,i1,i2,i3⟩:=(h4.below aD.out).get;have HC:Hid (Calls Tryz.prog 254 #[.agg #[.int .i64 kd, .int .i64 nn, .slice B nb cb, .slice L nl cl],c0] wr fun e w'=>e = .returned (.bool false)∧Below wr.heap.size wr w'):=aa wI;clear h4 hkl hic wI
   go_wp2_with fail
   refine HC.out.mono ?_;rintro e w2 ⟨rfl,hb0⟩;have HB2:=aa (ag aD.out hb0);clear i0 i1 i2 i3 hb0 HC;go_wp2
   go_roundw
   case rel=>exact⟨k+1,by omega,by go_num,HB2⟩
   case measure=>simp[intOf];omega
  ·
   go_wp2;go_ret;exact⟨rfl,aD.out⟩
theorem TI (c0:Value)(A:Option Addr)(l:List It)(f:Nat→Ic)(n c:Nat)(hn:Hid (l.length=n))(hbig:n≤1000)(w:World)
  (hs:Hid (∀k,k<l.length→∃b o,A=some ⟨b,o,none⟩∧Four w b (o+k*4) (f k))) (hp:Hid (Qw 254 #[c0] l f w)) :
  Calls Tryz.prog 253 #[.slice A n c, .func (.func 254) #[] #[c0]] w (Rt w (.bool false)):=by
 go_in
 go_wp2_with fail
 refine(O0 c0 A l f n c hn hbig _ hs hp).mono ?_;rintro e w' ⟨rfl,hb0⟩;go_wp2;go_ret;exact⟨rfl,hb0⟩
theorem LH (d D:Nat)(hD0:1≤D)(hD:D≤8)(a:Nat)(l:List It)(f:Nat→Ic)(hl:Hid (∀x∈l,fits d x))(w:World)(hx:Hid (w.cell? ⟨a,0,none⟩=some (.int .i64 (D:Int))))(hr:Hid (∀k,k<l.length→pV w (l.getD k default) (f k)))
  (ih:∀(i:It) (c:Ic) (w:World),fits d i→pV w i c→Calls Tryz.prog 232 #[c.val, .int .i64 ((D-1:Nat):Int)] w (Rt w (.bool true))) :
  Qw 254 #[.pointer (some ⟨a,0,none⟩)] l f w:=fun k hk w1 hb=>by
 have h1:=hl.out (l.getD k default) (by rw[List.getD_eq_getElem?_getD,List.getElem?_eq_getElem hk];exact List.getElem_mem hk);have h2:=(hr.out k hk).kept hb;obtain⟨ic,hic⟩:∃x,f k=x:=⟨_,rfl⟩;rw[hic]at h2 ⊢;obtain⟨it,hit⟩:∃x,l.getD k default=x:=⟨_,rfl⟩;rw[hit]at h1 h2;have hc0:=cell_below hx.out hb;have J8:=aa (ih it ic ((w1.alloc (vB ic))) h1 (h2.kept (af _ _)));obtain⟨kd,nn,B,nb,cb,L,nl,cl⟩:=ic;show Calls Tryz.prog 254 #[.agg #[.int .i64 kd, .int .i64 nn, .slice B nb cb, .slice L nl cl], .pointer (some ⟨a,0,none⟩)] w1 fun e w'=>e = .returned (.bool false)∧Below w1.heap.size w1 w';have hc:(w1.alloc (.cells #[.int .i64 kd, .int .i64 nn, .slice B nb cb, .slice L nl cl] 117)).cell? ⟨a,0,none⟩=some (.int .i64 (D:Int)):=cell_below hc0 (af _ _);have e1:IntKind.i64.wrap ((D:Int)-1)=(D:Int)-1:=IntWalk.i64_in _ (by omega);have HE:Hid (((D-1:Nat):Int)=(D:Int)-1):=aa (by omega);clear h1 h2 hic hit hb hc0;go_in
 go_wp2_with fail
 rw[←HE.out];refine J8.out.mono ?_;rintro e w2 ⟨rfl,hb0⟩;have hb1:=ag (af _ _) hb0;clear hb0;go_wp2;go_ret;exact⟨rfl,hb1⟩
theorem AO (n:Int)(c:Ic)(w:World)(D:Nat)(h1:c.kind=1)(h3:c.nb=0)(h4:c.nl=0):Calls Tryz.prog 232 #[c.val, .int .i64 (D:Int)] w (Rt w (.bool true)):=by
 obtain⟨kd,nn,B,nb,cb,L,nl,cl⟩:=c
 dsimp only at h1 h3 h4
 subst h1;subst h3;subst h4;show Calls Tryz.prog 232 #[.agg #[.int .i64 1, .int .i64 nn, .slice B 0 cb, .slice L 0 cl], .int .i64 (D:Int)] w (Rt w (.bool true));go_in;go_wp2;go_ret;exact⟨rfl,aO (Below.refl _ _)⟩
theorem AP (c:Ic)(w:World)(D:Nat)(h1:c.kind=2)(h2:c.n=0)(h4:c.nl=0):Calls Tryz.prog 232 #[c.val, .int .i64 (D:Int)] w (Rt w (.bool true)):=by
 obtain⟨kd,nn,B,nb,cb,L,nl,cl⟩:=c
 dsimp only at h1 h2 h4
 subst h1;subst h2;subst h4;show Calls Tryz.prog 232 #[.agg #[.int .i64 2, .int .i64 0, .slice B nb cb, .slice L 0 cl], .int .i64 (D:Int)] w (Rt w (.bool true));go_in;go_wp2;go_ret;exact⟨rfl,aO (Below.refl _ _)⟩
theorem IM:∀(d D:Nat),d≤D→D≤8→∀(i:It) (c:Ic) (w:World),fits d i→pV w i c→Calls Tryz.prog 232 #[c.val, .int .i64 (D:Int)] w (Rt w (.bool true)):=by
 intro d
 induction d with
 | zero=>
  intro D hdD hD i c w hf hr
  cases hr with
  | int n c h1 h2 h3 h4=>exact AO n c w D h1 h3 h4
  | byt b c h1 h2 h3 h4 h5=>exact AP c w D h1 h2 h4
  | lst l c h1 h2 h3 h4 f h5 h6=>exact absurd hf (by simp[fits])
 | succ d ih=>
  intro D hdD hD i c w hf hr
  cases hr with
  | int n c h1 h2 h3 h4=>exact AO n c w D h1 h3 h4
  | byt b c h1 h2 h3 h4 h5=>exact AP c w D h1 h2 h4
  | lst l c h1 h2 h3 h4 f h5 h6=>
   obtain⟨kd,nn,B,nb,cb,L,nl,cl⟩:=c
   dsimp only at h1 h2 h3 h4 h5
   subst h1;subst h2;subst h3;subst h4;show Calls Tryz.prog 232 #[.agg #[.int .i64 3, .int .i64 0, .slice B 0 cb, .slice L l.length cl], .int .i64 (D:Int)] w (Rt w (.bool true));obtain⟨W,hW⟩:∃W,(w.alloc (vB ⟨3,0,B,0,cb,L,l.length,cl⟩)).alloc (.cells #[.int .i64 (D:Int)] 3)=W:=⟨_,rfl⟩;have cu:Hid (Below w.heap.size w W):=aa (by rw[←hW];exact aO (Below.refl _ _));have hF:Four W w.heap.size 0 ⟨3,0,B,0,cb,L,l.length,cl⟩:=by rw[←hW];exact(iT w _).below (af _ _)
   obtain⟨i0,i1,i2,i3⟩:=hF.get;have hd:W.cell? ⟨w.heap.size+1,0,none⟩=some (.int .i64 (D:Int)):=by rw[←hW];exact au (heap_alloc2_new _ _ _) 0
   have hll:=hf.1
   have Zn:=aa (TI (.pointer (some ⟨w.heap.size+1,0,none⟩)) L l f l.length cl (aa rfl) hll W (aa fun k hk=>by obtain⟨b,o,e,h⟩:=h5 k hk;exact⟨b,o,e,h.below cu.out⟩)
    (aa (LH d D (by omega) hD (w.heap.size+1) l f (aa hf.2) W (aa hd) (aa fun k hk=>(h6 k hk).kept cu.out) (ih (D-1) (by omega) (by omega)))))
   obtain⟨nl,hnl⟩:∃x,l.length=x:=⟨_,rfl⟩;rw[hnl]at i3 hll Zn ⊢;rw[hnl]at hW;have HW:Hid ((w.alloc (.cells #[.int .i64 3, .int .i64 0, .slice B 0 cb, .slice L nl cl] 117)).alloc (.cells #[.int .i64 (D:Int)] 3)=W):=aa hW;have d1:decide ((nl:Int)≤1000)=true:=by simp;omega
   have d2:decide ((0:Int)<(D:Int))=true:=by simp;omega
   have d3:(0:Int)<(D:Int):=by omega
   clear hW hF hnl h5 h6 hf ih;go_in
   go_wp2_with fail
   rw[HW.out];refine Zn.out.mono ?_;rintro e w2 ⟨rfl,hb0⟩;have hb1:=ag cu.out hb0;clear hb0;go_wp2;go_ret;exact⟨by simp,hb1⟩
theorem JG (i:It)(c:Ic)(w:World)(hf:fits 8 i)(hr:pV w i c):Calls Tryz.prog 208 #[c.val] w (Rt w (.bool true)):=by
 have J8:=aa (IM 8 8 (Nat.le_refl _) (Nat.le_refl _) i c (w.alloc (vB c)) hf (hr.kept (af _ _)));obtain⟨kd,nn,B,nb,cb,L,nl,cl⟩:=c;show Calls Tryz.prog 208 #[.agg #[.int .i64 kd, .int .i64 nn, .slice B nb cb, .slice L nl cl]] w (Rt w (.bool true));clear hf hr;go_in
 go_wp2_with fail
 refine J8.out.mono ?_;rintro e w2 ⟨rfl,hb0⟩;have hb1:=ag (af _ _) hb0;clear hb0;go_wp2;go_ret;exact⟨rfl,hb1⟩
theorem CR (n:Int)(hn1: -9223372036854775808≤n)(hn2:n<9223372036854775808)(B:Option Addr)(cb:Nat)(L:Option Addr)(cl:Nat)(w:World)(base:Nat)(v:Value)(xs:List Int)(ho:Hid (aV .u8 5 w base v xs))(hbase:base≤w.heap.size)(hlen:xs.length+9≤16384) :
  Calls Tryz.prog 209 #[v, .agg #[.int .i64 1, .int .i64 n, .slice B 0 cb, .slice L 0 cl]] w (uE base v xs (enc (.int n)) w):=by
 obtain⟨i0,hi,hz0,hz1,hz2⟩:=info_parts eB;obtain⟨A,cp,rfl,-,-,-⟩:=ho.out.sk;obtain⟨N,hN⟩:∃n,xs.length=n:=⟨_,rfl⟩;rw[hN]at hlen ho ⊢;have HN:=aa hN;have hlt:(Value.slice A N cp).ownBlock≠some w.heap.size:=fun e=>by have:=(ho.out.lt _ e).2;omega
 obtain⟨W,hW⟩:∃W,w.alloc (.cells #[.int .i64 1, .int .i64 n, .slice B 0 cb, .slice L 0 cl] 117)=W:=⟨_,rfl⟩;have hF:Four W w.heap.size 0 ⟨1,n,B,0,cb,L,0,cl⟩:=by rw[←hW];exact iT w ⟨1,n,B,0,cb,L,0,cl⟩
 have Ay:Hid (App base w (.slice A N cp) xs [] W (.slice A N cp)):=aa (by rw[←hW];exact App.alloc ho.out _);have hbW:base≤W.heap.size:=by rw[←hW];simp;omega
 have Ie:Hid (W.heap.size=w.heap.size+1):=aa (by rw[←hW];simp);obtain⟨c0,c1,c2,c3⟩:=hF.get;have HC:=aa hF;have hown:=Ay.out.1.row (n:=N) (by rw[List.append_nil,HN.out]);rw[List.append_nil]at hown;have HW:=aa hW;clear hN hF hW;go_in
 go_upto_region 3 with(fail)
 rw[HW.out]
 go_upto_region 4 with(at_builtin;refine wpList_append_lies rfl _ _ 114 rfl base 5 i0 (.int .u8 0) 1 1 Tryz.underlying114 hi hz0 hz1 hz2 rfl (by decide) _ _ _ rfl (hown.alloc _) ⟨W.heap.size,0,none⟩ 1 1 [.int .u8 1] rfl rfl (cell_one_new _ _ _) (ints_oneCell .u8 [1]) (by decide) (by unfold maxLen;omega) (by omega) (by simp;omega) _ rfl ?_;intro g cap w2 hown2 hgrow2 yO hlt2)
 have HA1:=App.of_lies (v:= .slice A N cp) (xs:=xs) (ys:= [1]) HN.out rfl rfl hown2 hgrow2 yO;have HA2:Hid (App base w (.slice A N cp) xs [1] w2 (.slice (some ⟨g,0,none⟩) (N+1) cap)):=aa (Ay.out.pre (((App.alloc (by have h:=Ay.out.1;rwa [List.append_nil]at h) _)).pre HA1));have hb2:base≤w2.heap.size:=Nat.le_trans hbase HA2.out.2.1.size;have e0:=HA1.cell (cell_below c0 (af _ _)) hlt;have e1:=HA1.cell (cell_below c1 (af _ _)) hlt;have e2:=HA1.cell (cell_below c2 (af _ _)) hlt;have e3:=HA1.cell (cell_below c3 (af _ _)) hlt;rw[Nat.zero_add]at e1 e2 e3
 have hne2:(Value.slice (some ⟨g,0,none⟩) (N+1) cap).ownBlock≠some w.heap.size:=fun e=>by
  rcases HA1.2.2 with e5 | e5
  · exact hlt (e5▸e)
  · have h5:=e5 _ e;simp at h5;have:=Ie.out;omega
 clear c0 c1 c2 c3 hown hown2 hgrow2 yO HA1 HC HW
 go_wp2_with fail
 refine(uh base _ (xs ++ [1]) (N+1) _ 8 (Or.inr rfl) (aa (by rw[List.length_append,HN.out];rfl)) (by omega) _ (aa HA2.out.1) hb2).mono ?_;rintro e w3 ⟨v3,rfl,MB⟩;have HF:Hid (App base w (.slice A N cp) xs (enc (.int n)) w3 v3):=aa (HA2.out.trans MB);clear MB HA2;go_wp2;go_ret;exact⟨_,rfl,HF.out⟩
theorem CS (l:List Int)(n:Nat)(hn:Hid (l.length=n))(hn0:0<n)(b o:Nat)(cb:Nat)(L:Option Addr)(cl:Nat)(w0 w:World)(base:Nat)(v:Value)(xs:List Int)(hs:Hid (Sk .u8 w0 (some ⟨b,o,none⟩) l))(hw0:Hid (Below w0.heap.size w0 w))(Tc:w0.heap.size≤base)(ho:Hid (aV .u8 5 w base v xs))(hbase:base≤w.heap.size)(hlen:xs.length+(n+5)≤16384) :
  Calls Tryz.prog 209 #[v, .agg #[.int .i64 2, .int .i64 0, .slice (some ⟨b,o,none⟩) n cb, .slice L 0 cl]] w (uE base v xs (enc (.byt l)) w):=by
 obtain⟨i0,hi,hz0,hz1,hz2⟩:=info_parts eB;obtain⟨A,cp,rfl,-,-,-⟩:=ho.out.sk;obtain⟨N,hN⟩:∃n,xs.length=n:=⟨_,rfl⟩;rw[hN]at hlen ho ⊢;have HN:=aa hN;have hlt:(Value.slice A N cp).ownBlock≠some w.heap.size:=fun e=>by have:=(ho.out.lt _ e).2;omega
 obtain⟨W,hW⟩:∃W,w.alloc (.cells #[.int .i64 2, .int .i64 0, .slice (some ⟨b,o,none⟩) n cb, .slice L 0 cl] 117)=W:=⟨_,rfl⟩;have hF:Four W w.heap.size 0 ⟨2,0,some ⟨b,o,none⟩,n,cb,L,0,cl⟩:=by rw[←hW];exact iT w ⟨2,0,some ⟨b,o,none⟩,n,cb,L,0,cl⟩
 have Ay:Hid (App base w (.slice A N cp) xs [] W (.slice A N cp)):=aa (by rw[←hW];exact App.alloc ho.out _);have hbW:base≤W.heap.size:=by rw[←hW];simp;omega
 have Ie:Hid (W.heap.size=w.heap.size+1):=aa (by rw[←hW];simp);obtain⟨c0,c1,c2,c3⟩:=hF.get;have HC:=aa hF;have hown:=Ay.out.1.row (n:=N) (by rw[List.append_nil,HN.out]);rw[List.append_nil]at hown;have HW:=aa hW;clear hN hF hW;go_in
 go_upto_region 3 with(fail)
 rw[HW.out]
 go_upto_region 4 with(at_builtin;refine wpList_append_lies rfl _ _ 114 rfl base 5 i0 (.int .u8 0) 1 1 Tryz.underlying114 hi hz0 hz1 hz2 rfl (by decide) _ _ _ rfl (hown.alloc _) ⟨W.heap.size,0,none⟩ 1 1 [.int .u8 2] rfl rfl (cell_one_new _ _ _) (ints_oneCell .u8 [2]) (by decide) (by unfold maxLen;omega) (by omega) (by simp;omega) _ rfl ?_;intro g cap w2 hown2 hgrow2 yO hlt2)
 have HA1:=App.of_lies (v:= .slice A N cp) (xs:=xs) (ys:= [2]) HN.out rfl rfl hown2 hgrow2 yO;have HA2:Hid (App base w (.slice A N cp) xs [2] w2 (.slice (some ⟨g,0,none⟩) (N+1) cap)):=aa (Ay.out.pre (((App.alloc (by have h:=Ay.out.1;rwa [List.append_nil]at h) _)).pre HA1));have hb2:base≤w2.heap.size:=Nat.le_trans hbase HA2.out.2.1.size;have e0:=HA1.cell (cell_below c0 (af _ _)) hlt;have e1:=HA1.cell (cell_below c1 (af _ _)) hlt;have e2:=HA1.cell (cell_below c2 (af _ _)) hlt;have e3:=HA1.cell (cell_below c3 (af _ _)) hlt;rw[Nat.zero_add]at e1 e2 e3
 have hne2:(Value.slice (some ⟨g,0,none⟩) (N+1) cap).ownBlock≠some w.heap.size:=fun e=>by
  rcases HA1.2.2 with e5 | e5
  · exact hlt (e5▸e)
  · have h5:=e5 _ e;simp at h5;have:=Ie.out;omega
 clear c0 c1 c2 c3 hown hown2 hgrow2 yO HA1 HC HW;have u1:IntKind.u64.wrap (n:Int)=(n:Int):=by simp[IntKind.wrap,IntKind.bits,IntKind.signed];omega
 go_wp2_with fail
 have HE2:=aa e2;clear e0 e1 e2 e3;refine bV (S:=fun w'=>w'.cell? ⟨w.heap.size,2,none⟩=some (.slice (some ⟨b,o,none⟩) n cb)) (E:= [8,9]) (by kernel_rfl) (cell_below HE2.out (Below.refl _ _).drew) (fun hHeld=>?_);refine b_ 0 ?_;refine b_ 1 ?_;refine b_ 2 ?_;refine b_ 3 ?_;refine b_ 4 ?_;refine b_ 6 ?_;refine b_ 7 ?_;refine dh 5 fun K hK=>?_;go_simp;refine(uh base _ (xs ++ [2]) (N+1) n 4 (Or.inl rfl) (aa (by rw[List.length_append,HN.out];rfl)) (by omega) _ (aa (HA2.out.1.keep (Below.refl _ _).drew)) hb2).mono ?_;rintro e w3 ⟨v3,rfl,MB⟩;have Ls:Hid (App base w (.slice A N cp) xs (2::rW 4 n) w3 v3):=aa (HA2.out.trans ((App.calm HA2.out.1 (Below.refl _ _).drew).pre MB));have hsb:=hs.out.below (Ls.out.below ho.out hw0.out Tc hw0.out.size);have hb3:base≤w3.heap.size:=Nat.le_trans hbase Ls.out.2.1.size;have hl3:(xs++2::rW 4 (n:Int)).length=N+1+4:=by rw[List.length_append,HN.out,List.length_cons,jO (Or.inl rfl)]
 have hrow3:=Ls.out.1.row hl3;refine hK.out _ _ ?_ (fun hHeld=>?_)
 · exact MB.cell (cell_below HE2.out (Below.refl _ _).drew) hne2
 clear hK K
 try simp only[qq]
 refine oz 8 fun K hK=>?_;refine step_append_lies _ (by rfl) _ _ _ (by rfl) base 5 i0 _ 1 1 Tryz.underlying114 hi hz0 hz1 hz2 rfl (by omega) v3 (N+1+4) ((xs++2::rW 4 (n:Int)).map (.int .u8)) (by rfl) hrow3 ⟨b,o,none⟩ n cb (l.map (.int .u8)) (by rfl) (by simp[hn.out]) hsb.news (ints_oneCell .u8 _) hn0 (by unfold maxLen;omega) (by omega) hb3 w3.heap.size rfl ?_;intro g4 cap4 w4 vD rO aaJ adV;have HA4:=App.of_lies (v:=v3) (xs:=xs++2::rW 4 (n:Int)) (ys:=l) hl3 hn.out rfl vD rO aaJ;refine hK.out _ _ ?_;clear hK K
 try simp only[qq]
 refine oz 9 fun K hK=>?_;go_simp;refine hK.out _ _ ?_;clear hK K
 try simp only[qq]
 refine gM ?_
 have HF:Hid (App base w (.slice A N cp) xs (enc (.byt l)) w4 (.slice (some ⟨g4,0,none⟩) (N+1+4+n) cap4)):=aa (by
  rw[jh,hn.out]
  exact Ls.out.trans HA4)
 clear HA4 Ls HA2 HE2;go_wp2;go_ret;exact⟨_,rfl,HF.out⟩
theorem Lv (l:List It)(n:Nat)(hn:Hid (l.length=n))(hn1:n≤1000)(f:Nat→Ic)(B:Option Addr)(cb:Nat)(L:Option Addr)(cl:Nat)(w0 w:World)(base:Nat)(v:Value)(xs:List Int)
  (h5:Hid (∀k,k<l.length→∃b o,L=some ⟨b,o,none⟩∧Four w0 b (o+k*4) (f k))) (h6:Hid (∀k,k<l.length→pV w0 (l.getD k default) (f k))) (hw0:Hid (Below w0.heap.size w0 w)) (Tc:w0.heap.size≤base) (ho:Hid (aV .u8 5 w base v xs)) (hbase:base≤w.heap.size)
  (hsm:Hid (xs.length+(enc (.lst l)).length≤16384))
  (ih:∀(k:Nat),k<l.length→∀(w:World) (v:Value) (ys:List Int),Below w0.heap.size w0 w→aV .u8 5 w base v ys→base≤w.heap.size→ys.length+(enc (l.getD k default)).length≤16384→Calls Tryz.prog 209 #[v,(f k).val] w (uE base v ys (enc (l.getD k default)) w)) :
  Calls Tryz.prog 209 #[v, .agg #[.int .i64 3, .int .i64 0, .slice B 0 cb, .slice L n cl]] w (uE base v xs (enc (.lst l)) w):=by
 have hlen:xs.length+5≤16384:=by have h:=hsm.out;rw[fV,List.length_cons,List.length_append,eX]at h;omega
 have J8:=aa ih;clear ih;obtain⟨i0,hi,hz0,hz1,hz2⟩:=info_parts eB;obtain⟨A,cp,rfl,-,-,-⟩:=ho.out.sk;obtain⟨N,hN⟩:∃n,xs.length=n:=⟨_,rfl⟩;rw[hN]at hlen ho ⊢;have HN:=aa hN;have hlt:(Value.slice A N cp).ownBlock≠some w.heap.size:=fun e=>by have:=(ho.out.lt _ e).2;omega
 obtain⟨W,hW⟩:∃W,w.alloc (.cells #[.int .i64 3, .int .i64 0, .slice B 0 cb, .slice L n cl] 117)=W:=⟨_,rfl⟩;have hF:Four W w.heap.size 0 ⟨3,0,B,0,cb,L,n,cl⟩:=by rw[←hW];exact iT w ⟨3,0,B,0,cb,L,n,cl⟩
 have Ay:Hid (App base w (.slice A N cp) xs [] W (.slice A N cp)):=aa (by rw[←hW];exact App.alloc ho.out _);have hbW:base≤W.heap.size:=by rw[←hW];simp;omega
 have Ie:Hid (W.heap.size=w.heap.size+1):=aa (by rw[←hW];simp);obtain⟨c0,c1,c2,c3⟩:=hF.get;have HC:=aa hF;have hown:=Ay.out.1.row (n:=N) (by rw[List.append_nil,HN.out]);rw[List.append_nil]at hown;have HW:=aa hW;clear hN hF hW;go_in
 go_upto_region 3 with(fail)
 rw[HW.out]
 go_upto_region 4 with(at_builtin;refine wpList_append_lies rfl _ _ 114 rfl base 5 i0 (.int .u8 0) 1 1 Tryz.underlying114 hi hz0 hz1 hz2 rfl (by decide) _ _ _ rfl (hown.alloc _) ⟨W.heap.size,0,none⟩ 1 1 [.int .u8 3] rfl rfl (cell_one_new _ _ _) (ints_oneCell .u8 [3]) (by decide) (by unfold maxLen;omega) (by omega) (by simp;omega) _ rfl ?_;intro g cap w2 hown2 hgrow2 yO hlt2)
 have HA1:=App.of_lies (v:= .slice A N cp) (xs:=xs) (ys:= [3]) HN.out rfl rfl hown2 hgrow2 yO;have HA2:Hid (App base w (.slice A N cp) xs [3] w2 (.slice (some ⟨g,0,none⟩) (N+1) cap)):=aa (Ay.out.pre (((App.alloc (by have h:=Ay.out.1;rwa [List.append_nil]at h) _)).pre HA1));have hb2:base≤w2.heap.size:=Nat.le_trans hbase HA2.out.2.1.size;have e0:=HA1.cell (cell_below c0 (af _ _)) hlt;have e1:=HA1.cell (cell_below c1 (af _ _)) hlt;have e2:=HA1.cell (cell_below c2 (af _ _)) hlt;have e3:=HA1.cell (cell_below c3 (af _ _)) hlt;rw[Nat.zero_add]at e1 e2 e3
 have hne2:(Value.slice (some ⟨g,0,none⟩) (N+1) cap).ownBlock≠some w.heap.size:=fun e=>by
  rcases HA1.2.2 with e5 | e5
  · exact hlt (e5▸e)
  · have h5:=e5 _ e;simp at h5;have:=Ie.out;omega
 clear c0 c1 c2 c3 hown hown2 hgrow2 yO HA1 HC HW;have u1:IntKind.u64.wrap (n:Int)=(n:Int):=by simp[IntKind.wrap,IntKind.bits,IntKind.signed];omega
 go_wp2_with fail
 refine(uh base _ (xs ++ [3]) (N+1) n 4 (Or.inl rfl) (aa (by rw[List.length_append,HN.out];rfl)) (by omega) _ (aa HA2.out.1) hb2).mono ?_;rintro e w3 ⟨v3,rfl,MB⟩;have f3:=MB.cell e3 hne2;have Ls:Hid (App base w (.slice A N cp) xs (3::rW 4 n) w3 v3):=aa (HA2.out.trans MB);clear MB HA2 e0 e1 e2 e3;have HA4:Hid (App base w (.slice A N cp) xs ((3::rW 4 n)++gz (l.take 0)) w3 v3):=aa (by rw[List.take_zero];simpa [gz]using Ls.out);clear Ls
 go_wp2_with fail
 clear f3
 go_loopw [0,46] (fun p i u=>∃k:Nat,k≤n∧i = .int .i64 k∧Hid (App base w (.slice A N cp) xs ((3::rW 4 n)++gz (l.take k)) u p)) (fun _ i _=>n-(intOf i).toNat)
 case atStart=>exact⟨0,by omega,rfl,HA4⟩
 case round=>
  obtain⟨k,hk,rfl,HA⟩:=hrel
  by_cases hlk:k<n
  ·
   have hkl:k<l.length:=by rw[hn.out];exact hlk
   obtain⟨b,o,hL,h4⟩:=h5.out k hkl;subst hL;have hbw:=HA.out.below ho.out hw0.out Tc hw0.out.size
   have hle:(xs++((3::rW 4 (n:Int))++gz (l.take k))).length+(enc (l.getD k default)).length≤16384:=by
    have h:=hsm.out;have t1:=qP hkl;have t2:=rR (l:=l) (k:=k+1);rw[t1,List.length_append]at t2;rw[fV,List.length_cons,List.length_append,eX]at h;rw[List.length_append,List.length_append,List.length_cons,jO (Or.inl rfl)]
    omega
   have hbs:base≤wr.heap.size:=Nat.le_trans hbase HA.out.2.1.size;have hstep:=qP hkl;obtain⟨ic,hic⟩:∃x,f k=x:=⟨_,rfl⟩;obtain⟨kd,nn,B',nb,cb',L',nl,cl'⟩:=ic;obtain⟨WX,hWX⟩:∃u,wr.alloc (.cells #[.int .i64 kd, .int .i64 nn, .slice B' nb cb', .slice L' nl cl'] 117)=u:=⟨_,rfl⟩
   have HAX:Hid (App base w (.slice A N cp) xs ((3::rW 4 n)++gz (l.take k)) WX u0):=aa (by
    have h:=HA.out.trans (App.alloc HA.out.1 (.cells #[.int .i64 kd, .int .i64 nn, .slice B' nb cb', .slice L' nl cl'] 117));rw[List.append_nil]at h
    rwa [←hWX])
   have aaG:Below w0.heap.size w0 WX:=HAX.out.below ho.out hw0.out Tc hw0.out.size;have ad5:base≤WX.heap.size:=by rw[←hWX];simp;omega
   have wI:=J8.out k hkl WX u0 _ aaG HAX.out.1 ad5 hle;rw[hic]at h4 wI;have HC:Hid (Calls Tryz.prog 209 #[u0, .agg #[.int .i64 kd, .int .i64 nn, .slice B' nb cb', .slice L' nl cl']] WX (uE base u0 (xs++((3::rW 4 (n:Int))++gz (l.take k))) (enc (l.getD k default)) WX)):=aa wI;obtain⟨i0',i1',i2',i3'⟩:=(h4.below hbw).get;obtain⟨et,het⟩:∃x,enc (l.getD k default)=x:=⟨_,rfl⟩;rw[het]at HC hstep;have HST:=aa hstep;have HWX:=aa hWX;clear hkl h4 hbw hle hstep hic hWX aaG wI het HA
   go_wp2_with fail
   rw[HWX.out];refine HC.out.mono ?_;rintro e w5 ⟨v5,rfl,ha5⟩
   have HA6:Hid (App base w (.slice A N cp) xs ((3::rW 4 n)++gz (l.take (k+1))) w5 v5):=aa (by
    rw[HST.out,←List.append_assoc]
    exact HAX.out.trans ha5)
   clear ha5 HC HAX i0' i1' i2' i3' HWX;go_wp2
   go_roundw
   case rel=>exact⟨k+1,by omega,by go_num,HA6⟩
   case measure=>simp[intOf];omega
  ·
   have HF:Hid (App base w (.slice A N cp) xs (enc (.lst l)) wr u0):=aa (by
    have h:=HA.out;rw[show k=l.length by rw[hn.out];omega,List.take_length]at h;rw[fV,hn.out]
    exact h)
   clear HA;go_wp2;go_ret;exact⟨_,rfl,HF.out⟩
theorem Lx:∀(d:Nat) (i:It) (c:Ic) (w0 w:World) (base:Nat) (v:Value) (xs:List Int),fits d i→pV w0 i c→Below w0.heap.size w0 w→w0.heap.size≤base→aV .u8 5 w base v xs→base≤w.heap.size→xs.length+(enc i).length≤16384 →
  Calls Tryz.prog 209 #[v,c.val] w (uE base v xs (enc i) w):=by
 intro d
 induction d with
 | zero=>
  intro i c w0 w base v xs hf hr hw hwb ho hb hl;obtain⟨kd,nn,B,nb,cb,L,nl,cl⟩:=c
  cases hr with
  | int n _ h1 h2 h3 h4=>
   dsimp only at h1 h2 h3 h4
   subst h1;subst h2;subst h3;subst h4;exact CR nn hf.1 hf.2 B cb L cl w base v xs (aa ho) hb hl
  | byt b _ h1 h2 h3 h4 h5=>
   dsimp only at h1 h2 h3 h4 h5
   subst h1;subst h2;subst h4;subst h3;obtain⟨b',o',rfl,_⟩:=h5.at0 hf.1.1;rw[jh,List.length_cons,List.length_append,eX]at hl;exact CS b b.length (aa rfl) hf.1.1 b' o' cb L cl w0 w base v xs (aa h5) (aa hw) hwb (aa ho) hb (by omega)
  | lst l _ h1 h2 h3 h4 f h5 h6=>exact absurd hf (by simp[fits])
 | succ d ih=>
  intro i c w0 w base v xs hf hr hw hwb ho hb hl;obtain⟨kd,nn,B,nb,cb,L,nl,cl⟩:=c
  cases hr with
  | int n _ h1 h2 h3 h4=>
   dsimp only at h1 h2 h3 h4
   subst h1;subst h2;subst h3;subst h4;exact CR nn hf.1 hf.2 B cb L cl w base v xs (aa ho) hb hl
  | byt b _ h1 h2 h3 h4 h5=>
   dsimp only at h1 h2 h3 h4 h5
   subst h1;subst h2;subst h4;subst h3;obtain⟨b',o',rfl,_⟩:=h5.at0 hf.1.1;rw[jh,List.length_cons,List.length_append,eX]at hl;exact CS b b.length (aa rfl) hf.1.1 b' o' cb L cl w0 w base v xs (aa h5) (aa hw) hwb (aa ho) hb (by omega)
  | lst l _ h1 h2 h3 h4 f h5 h6=>
   dsimp only at h1 h2 h3 h4 h5
   subst h1;subst h2;subst h3;subst h4;refine Lv l l.length (aa rfl) hf.1 f B cb L cl w0 w base v xs (aa h5) (aa h6) (aa hw) hwb (aa ho) hb (aa hl) ?_;intro k hk w' v' ys hw' ho' hb' hl';exact ih _ (f k) w0 w' base v' ys (hf.2 _ (by rw[List.getD_eq_getElem?_getD,List.getElem?_eq_getElem hk];exact List.getElem_mem hk)) (h6 k hk) hw' hwb ho' hb' hl'
def Vo (ys:List Int)(w:World)(e:Ending)(w':World):Prop:=∃v,e = .returned (.tuple #[v, .int .i64 0])∧aV .u8 5 w' w.heap.size v ys∧Below w.heap.size w w'
theorem vZ (i:It)(c:Ic)(w:World)(hf:fits 8 i)(hr:pV w i c)(hl:(enc i).length≤16384) :
  Calls Tryz.prog 177 #[c.val] w (Vo (enc i) w):=by
 have HV:=aa (JG i c (w.alloc (vB c)) hf (hr.kept (af _ _)));have hF:=iT w c
 have HE:Hid (∀u,Below (w.alloc (vB c)).heap.size (w.alloc (vB c)) u→Calls Tryz.prog 209 #[.slice none 0 0,c.val] u (uE u.heap.size (.slice none 0 0) [] (enc i) u)):=aa (fun u hu=>
  Lx 8 i c w u u.heap.size (.slice none 0 0) [] hf hr (ag (af _ _) hu) (by have:=hu.size;simp at this;omega) (tT _ _) (Nat.le_refl _) (by simpa using hl))
 obtain⟨ys,hys⟩:∃ys,enc i=ys:=⟨_,rfl⟩;rw[hys]at HE hl ⊢;obtain⟨kd,nn,B,nb,cb,L,nl,cl⟩:=c;obtain⟨W,hW⟩:∃W,w.alloc (vB ⟨kd,nn,B,nb,cb,L,nl,cl⟩)=W:=⟨_,rfl⟩;rw[hW]at HV HE hF;have cu:Hid (Below w.heap.size w W):=aa (by rw[←hW];exact af _ _);have HF:=aa hF;have HW:Hid (w.alloc (.cells #[.int .i64 kd, .int .i64 nn, .slice B nb cb, .slice L nl cl] 117)=W):=aa hW;show Calls Tryz.prog 177 #[.agg #[.int .i64 kd, .int .i64 nn, .slice B nb cb, .slice L nl cl]] w (Vo ys w);obtain⟨c0,c1,c2,c3⟩:=hF.get;clear hf hr hys hW hF;go_in
 go_wp2_with fail
 rw[HW.out];refine HV.out.mono ?_;rintro e w2 ⟨rfl,hb0⟩;obtain⟨d0,d1,d2,d3⟩:=(HF.out.below hb0).get;have HE2:=aa (HE.out w2 hb0);have HB2:=aa (ag cu.out hb0);clear c0 c1 c2 c3 hb0 HE HV HW
 go_wp2_with fail
 refine HE2.out.mono ?_;rintro e w3 ⟨v3,rfl,MB⟩;have om:Hid (aV .u8 5 w3 w2.heap.size v3 ys):=aa (by have h:=MB.1;rwa [List.nil_append]at h);have HB3:Hid (Below w.heap.size w w3):=aa (MB.below (B:=w.heap.size) (tT _ _) HB2.out HB2.out.size HB2.out.size);have hz:w.heap.size≤w2.heap.size:=HB2.out.size;clear MB HE2 d0 d1 d2 d3;obtain⟨A,cp,rfl,-,-,-⟩:=om.out.sk;obtain⟨N,hN⟩:∃n,ys.length=n:=⟨_,rfl⟩;rw[hN]at hl om ⊢;clear hN;have t1:¬16384<N:=by omega
 go_wp2;go_ret2;exact⟨_,rfl,om.out.mono hz,HB3.out⟩
def aY (c:Ic):List Value:= [.int .i64 c.kind, .int .i64 c.n, .slice c.B c.nb c.cb, .slice c.L c.nl c.cl]
theorem j_:(Tryz.prog.info? 117).map (fun i=>(i.zero,i.size,i.bytes))=some (some (.agg #[.int .i64 0, .int .i64 0, .slice none 0 0, .slice none 0 0]),4,64):=by kernel_rfl
theorem jF (w:World)(a j:Nat)(v:Value):w.grownBy (w.setCell ⟨a,j,none⟩ v) (some a):=
 ⟨rfl,rfl,rfl,by simp[World.setCell],fun k hk hne=>by
  have:a≠k:=fun e=>hne (by rw[e])
  simp[World.setCell,Array.getElem?_modify,this]⟩
theorem aJ {w w1:World} {row:Option Nat} {p:Addr} {v:Value} (h:Own w p v)(hg:w.grownBy w1 row)(hne:row≠some p.block):Own w1 p v:=by
 have hlt:=World.block_lt_of_cell? _ _ h.1;exact⟨by rw[hg.cell_far _ hlt (Ne.symm hne)];exact h.1,by rw[hg.frozen_far _ hlt (Ne.symm hne)];exact h.2⟩
theorem ak {w:World} {p q:Addr} {v u:Value} (h:Own w p v)(hne:q≠p):Own (w.setCell q u) p v:=
 ⟨by rw[World.cell?_setCell_other _ _ _ _ hne];exact h.1,by rw[World.frozen?_setCell];exact h.2⟩
theorem bu {w:World} {p:Addr} {v u:Value} (h:Own w p v):Own (w.setCell p u) p u:=
 ⟨World.cell?_setCell_same _ _ _ h.1,by rw[World.frozen?_setCell];exact h.2⟩
theorem aK {P:Program} {fn:Func} {p:Tmp} {ty:TypeId} (h:fn.results = #[.cell p ty])(tmps:Array Value)(w:World)(a:Addr)(v:Value)
  (hp:tmps.getD p undef = .pointer (some a)) (hl:(loadVar ty a).run P w = .ok v w):(results fn tmps).run P w = .ok v w:=by
 have hp':tmps[p]?.getD undef = .pointer (some a):=by simpa using hp
 simp[results,h,hp',asAddr,hl]
def d_ (w:World)(base:Nat)(v:Value)(cs:List Ic):Prop:=w.ownsRow base 117 4 v cs.length (cs.flatMap aY)
instance agl:Inhabited Ic:=⟨⟨0,0,none,0,0,none,0,0⟩⟩
theorem P6 (cs:List Ic)(k r:Nat)(hr:r<4)(hk:k<cs.length):(cs.flatMap aY)[k*4+r]? = (aY (cs.getD k default))[r]? :=by
 induction cs generalizing k with
 | nil=>simp at hk
 | cons c cs ih=>
  cases k with
  | zero=>
   rw[List.flatMap_cons,Nat.zero_mul,Nat.zero_add,List.getElem?_append_left (by simpa [aY]using hr)]
   rfl
  | succ k=>
   rw[List.flatMap_cons,List.getElem?_append_right (by simp[aY];omega)];rw[show(k+1)*4+r-(aY c).length=k*4+r by simp[aY];omega];rw[ih k (by simpa using hk)]
   rfl
theorem d_.four {w:World} {base:Nat} {v:Value} {cs:List Ic} (h:d_ w base v cs)(h0:0<cs.length):∃g cap,v = .slice (some ⟨g,0,none⟩) cs.length cap∧base≤g∧cs.length≤cap∧∀k,k<cs.length→Four w g (0+k*4) (cs.getD k default):=by
 obtain⟨h1,h2⟩:=h;rcases h2 with⟨_,h3⟩ | ⟨g,cap,cur,rfl,hg,hh,hn,hc,hs,ht⟩
 · omega
 ·
  refine⟨g,cap,rfl,hg,hn,fun k hk=>?_⟩
  have key:∀r,r<4→w.cell? ⟨g,k*4+r,none⟩=(aY (cs.getD k default))[r]? :=fun r hr=>by
   rw[au hh,←Array.getElem?_toList,←P6 cs k r hr hk,←ht,List.getElem?_take_of_lt (by omega)]
  rw[Nat.zero_add];exact⟨key 0 (by omega),key 1 (by omega),key 2 (by omega),key 3 (by omega)⟩
theorem tV (w:World)(base:Nat):d_ w base (.slice none 0 0) []:=World.ownsRow_nil _ _ _ _
theorem d_.len {w:World} {base:Nat} {v:Value} {cs:List Ic} (h:d_ w base v cs):∃A cap,v = .slice A cs.length cap:=by
 by_cases h0:0<cs.length
 ·
  obtain⟨g,cap,e,_⟩:=h.four h0;exact⟨_,cap,e⟩
 ·
  obtain⟨_,h2⟩:=h;rcases h2 with⟨hv,_⟩ | ⟨g,cap,cur,hv,_⟩
  · exact⟨none,0,by rw[hv];congr 1;omega⟩
  · exact⟨_,cap,hv⟩
theorem d_.keep {w w':World} {B:Nat} {v:Value} {xs:List Ic} (h:d_ w B v xs)(hb:Below w.heap.size w w'):d_ w' B v xs:=by
 obtain⟨h1,h2⟩:=h;refine⟨h1,h2.imp id ?_⟩;rintro ⟨g,cap,cur,rfl,hg,hh,rest⟩;exact⟨g,cap,cur,rfl,hg,(hb.block g (Array.getElem?_eq_some_iff.1 hh).1).trans hh,rest⟩
theorem d_.app {w1:World} {base k:Nat} {v':Value} {xs:List Ic} {c:Ic} (hk:k=xs.length)
  (h:w1.ownsRow base 117 4 v' (k+1) (xs.flatMap aY++aY c)):d_ w1 base v' (xs ++ [c]):=by
 unfold d_;rw[List.length_append,List.flatMap_append,List.length_singleton,←hk]
 simpa using h
theorem d_.no {w:World} {base a:Nat} {v:Value} {cs:List Ic} (h:d_ w base v cs)(ha:a<base):v.ownBlock≠some a:=fun e=>by
 have:=(World.ownsRow.lt h _ e).1
 omega
theorem d_.set {w:World} {base a j:Nat} {v u:Value} {cs:List Ic} (h:d_ w base v cs)(ha:a<base):d_ (w.setCell ⟨a,j,none⟩ u) base v cs:=
 World.ownsRow.kept h (jF w a j u) (Or.inr (h.no ha))
def aR (n:Int):Ic:=⟨1,n,none,0,0,none,0,0⟩
theorem vV {l:List Int} {k:Nat} (hk:k<l.length):(l.take (k+1)).map aR=(l.take k).map aR ++ [aR (l.getD k 0)]:=by
 rw[take_one hk,List.map_append];rfl
def Ia (i:It)(w:World)(e:Ending)(w':World):Prop:=∃c:Ic,e = .returned c.val∧pV w' i c∧Below w.heap.size w w'
theorem Gx {w:World} {base:Nat} {v:Value} {l:List Int} (h:d_ w base v (l.map aR)):∃L cl,v = .slice L l.length cl∧pV w (.lst (l.map .int)) ⟨3,0,none,0,0,L,l.length,cl⟩:=by
 by_cases h0:0<l.length
 ·
  obtain⟨g,cap,e,_,_,hf⟩:=h.four (by rw[List.length_map];exact h0);rw[List.length_map]at e hf;refine⟨_,cap,e, .lst _ _ rfl rfl rfl (by rw[List.length_map]) (fun k=>aR (l.getD k 0)) (fun k hk=>⟨g,0,rfl, ?_⟩) (fun k hk=>?_)⟩
  ·
   rw[List.length_map]at hk;have:=hf k hk
   have e2:(l.map aR).getD k default=aR (l.getD k 0):=by
    simp[List.getD_eq_getElem?_getD,List.getElem?_eq_getElem hk]
   rwa [e2]at this
  ·
   rw[List.length_map]at hk
   have e2:(l.map It.int).getD k default=It.int (l.getD k 0):=by
    simp[List.getD_eq_getElem?_getD,List.getElem?_eq_getElem hk]
   rw[e2];exact .int _ _ rfl rfl rfl rfl
 ·
  have e:l = []:=List.eq_nil_of_length_eq_zero (by omega);subst e;obtain⟨L,cl,hv⟩:=h.len;exact⟨L,cl,hv, .lst [] _ rfl rfl rfl rfl (fun _=>default) (fun k hk=>absurd hk (by simp)) (fun k hk=>absurd hk (by simp))⟩
def rY (lo:Nat)(w:World)(i:It)(c:Ic):Prop:=∀w':World,(∀b,lo≤b→b<w.heap.size→w'.heap[b]? = w.heap[b]?)→pV w' i c
theorem rY.it {lo:Nat} {w:World} {i:It} {c:Ic} (h:rY lo w i c):pV w i c:=h w fun _ _ _=>rfl
theorem Bp {w w':World} {B:Nat} {v:Value} {cs:List Ic} (h:d_ w B v cs)(hw:∀b,B≤b→b<w.heap.size→w'.heap[b]? = w.heap[b]?):d_ w' B v cs:=by
 obtain⟨h1,h2⟩:=h;refine⟨h1,h2.imp id ?_⟩;rintro ⟨g,cap,cur,rfl,hg,hh,rest⟩;exact⟨g,cap,cur,rfl,hg,(hw g hg (Array.getElem?_eq_some_iff.1 hh).1).trans hh,rest⟩
def pG (i:It)(w:World)(e:Ending)(w':World):Prop:=∃c:Ic,e = .returned c.val∧rY w.heap.size w' i c∧Below w.heap.size w w'
theorem pG.it {i:It} {w w':World} {e:Ending} (h:pG i w e w'):Ia i w e w':=by
 obtain⟨c,h1,h2,h3⟩:=h;exact⟨c,h1,h2.it,h3⟩
theorem Gw {w:World} {base lo:Nat} {L:Option Addr} {n cl:Nat} {l:List Int} (h:d_ w base (.slice L n cl) (l.map aR))(hlo:lo≤base):rY lo w (.lst (l.map .int)) ⟨3,0,none,0,0,L,l.length,cl⟩:=fun w' hw=>by
 obtain⟨L',cl',e,hr⟩:=Gx (Bp h fun b h1 h2=>hw b (by omega) h2)
 simp only[Value.slice.injEq]at e
 obtain⟨rfl,_,rfl⟩:=e;exact hr
theorem mH (A:Option Addr)(l:List Int)(n c:Nat)(hn:Hid (l.length=n))(hbig:n≤1000000)(w:World)(hs:Hid (Sl w A l)) :
  Calls Tryz.prog 179 #[.slice A n c] w (pG (.lst (l.map .int)) w):=by
 obtain⟨i0,hi,hz0,hz1,hz2⟩:=info_parts j_;obtain⟨W,hW⟩:∃W,(w.alloc (.cells #[.int .i64 0, .int .i64 0, .slice none 0 0, .slice none 0 0] 117)).alloc (.cells #[.int .i64 3, .int .i64 0, .slice none 0 0, .slice none 0 0] 117)=W:=⟨_,rfl⟩;have cu:Hid (Below w.heap.size w W):=aa (by rw[←hW];exact aO (Below.refl _ _));have l8:Hid (W.heap.size=w.heap.size+2):=aa (by rw[←hW];simp)
 have hF:Four W (w.heap.size+1) 0 ⟨3,0,none,0,0,none,0,0⟩:=by
  rw[←hW];have h:=heap_alloc2_new w (.cells #[.int .i64 0, .int .i64 0, .slice none 0 0, .slice none 0 0] 117) (.cells #[.int .i64 3, .int .i64 0, .slice none 0 0, .slice none 0 0] 117);exact⟨au h 0,au h 1,au h 2,au h 3⟩
 have hf0:∀j,W.frozen? ⟨w.heap.size+1,j,none⟩=false:=by
  rw[←hW];exact fun j=>ay (heap_alloc2_new _ _ _) j
 have HG:Hid ((Four W w.heap.size 0 ⟨0,0,none,0,0,none,0,0⟩)∧∀j,W.frozen? ⟨w.heap.size,j,none⟩=false):=aa (by
  rw[←hW];have h:=heap_alloc2_old w (.cells #[.int .i64 0, .int .i64 0, .slice none 0 0, .slice none 0 0] 117) (.cells #[.int .i64 3, .int .i64 0, .slice none 0 0, .slice none 0 0] 117)
  exact⟨⟨au h 0,au h 1,au h 2,au h 3⟩,fun j=>ay h j⟩)
 have MX:Hid (W.heap[w.heap.size]? = some (.cells #[.int .i64 0, .int .i64 0, .slice none 0 0, .slice none 0 0] 117 (0,0))):=aa (by rw[←hW];exact heap_alloc2_old w _ _);have HS:=aa hs.out;have HW:=aa hW;have HX:Hid (Own W ⟨w.heap.size+1,0,none⟩ (.int .i64 3)∧Own W ⟨w.heap.size+1,1,none⟩ (.int .i64 0)∧Own W ⟨w.heap.size+1,2,none⟩ (.slice none 0 0)):=aa ⟨⟨hF.1,hf0 0⟩,⟨hF.2.1,hf0 1⟩,⟨hF.2.2.1,hf0 2⟩⟩;have HL:Hid (Own W ⟨w.heap.size+1,3,none⟩ (.slice none 0 0)):=aa ⟨hF.2.2.2,hf0 3⟩;clear hW hs hF hf0;go_in;go_wp2;rw[HW.out]
 go_loopw [9] (fun i u=>∃(k:Nat) (v:Value),k≤n∧i = .int .i64 k∧Hid (Own u ⟨w.heap.size+1,3,none⟩ v)∧Hid (d_ u (w.heap.size+2) v ((l.take k).map aR))∧Hid (Own u ⟨w.heap.size+1,0,none⟩ (.int .i64 3)∧Own u ⟨w.heap.size+1,1,none⟩ (.int .i64 0)∧Own u ⟨w.heap.size+1,2,none⟩ (.slice none 0 0))∧Hid (Below (w.heap.size+1) W u)) (fun i _=>n-(intOf i).toNat)
 case atStart=>exact⟨0,_,by omega,rfl,HL,aa (tV _ _),HX,aa (Below.refl _ _)⟩
 case round=>
  obtain⟨k,v,hk,rfl,HV,HO,qh,aD⟩:=hrel
  by_cases hlt:k<n
  ·
   have hkl:k<l.length:=by rw[hn.out];exact hlt
   obtain⟨b,o,hA,hc⟩:=(HS.out.below (cu.out.trans (aD.out.mono (Nat.le_succ _)))) k hkl;subst hA;have zO:=aa (vV hkl);obtain⟨x,hx⟩:∃x,l.getD k 0=x:=⟨_,rfl⟩;rw[hx]at hc zO;have tC:Hid (((l.take k).map aR).length=k):=aa (by rw[List.length_map,List.length_take];omega);have hown:wr.ownsRow (w.heap.size+2) 117 4 v k (((l.take k).map aR).flatMap aY):=by have h:=HO.out;unfold d_ at h;rwa [tC.out]at h
   have hbs:w.heap.size+2≤wr.heap.size:=by have:=aD.out.size;have:=l8.out;omega
   have hno:v.ownBlock≠some (w.heap.size+1):=HO.out.no (by omega);obtain⟨v3,IQ⟩:=HV.out;have HVA:=aa (HV.out.below (af wr (.cells #[.int .i64 1, .int .i64 x, .slice none 0 0, .slice none 0 0] 117)));have b1:k+1≤maxLen:=by unfold maxLen;omega
   have b2:(k+1)*64≤140737488355328:=by omega
   have b3:w.heap.size+2≤(wr.alloc (.cells #[.int .i64 1, .int .i64 x, .slice none 0 0, .slice none 0 0] 117)).heap.size:=by simp;omega
   clear hx hkl
   go_wp2_with (at_builtin;refine wpList_append_lies rfl _ _ 115 rfl (w.heap.size+2) 117 i0 (.agg #[.int .i64 0, .int .i64 0, .slice none 0 0, .slice none 0 0]) 4 64 Tryz.underlying115 hi hz0 hz1 hz2 rfl (by decide) _ _ _ rfl (hown.alloc _) ⟨wr.heap.size,0,none⟩ 1 1 [.int .i64 1, .int .i64 x, .slice none 0 0, .slice none 0 0] rfl rfl (World.news_of_block (cs:=#[.int .i64 1, .int .i64 x, .slice none 0 0, .slice none 0 0]) (t:=117) (fr:=(0,0)) (heap_alloc_new wr _)) (by simp[Value.oneCell']) (by decide) b1 b2 b3 _ rfl ?_;intro g2 cap2 w2 hown2 hgrow2 yO hlt2;obtain⟨q1,q2⟩:=aJ HVA.out hgrow2 hno)
   obtain⟨v',hv'⟩:∃v',Value.slice (some ⟨g2,0,none⟩) (k+1) cap2=v':=⟨_,rfl⟩;rw[hv']at hown2;have HVE:=aa hv';clear hv' yO hlt2;rw[HVE.out];have HB2:Hid (Below (w.heap.size+1) W w2):=aa ((aD.out.alloc (by omega) _).grown hgrow2 (by simp;omega) (fun j hj=>by have:=(World.ownsRow.lt hown j hj).1;omega))
   have tu:Hid (d_ w2 (w.heap.size+2) v' ((l.take (k+1)).map aR)):=aa (by
    rw[zO.out]
    exact d_.app tC.out.symm hown2)
   have a0:=aJ (qh.out.1.below (af wr (.cells #[.int .i64 1, .int .i64 x, .slice none 0 0, .slice none 0 0] 117))) hgrow2 hno;have a1:=aJ (qh.out.2.1.below (af wr (.cells #[.int .i64 1, .int .i64 x, .slice none 0 0, .slice none 0 0] 117))) hgrow2 hno;have a2:=aJ (qh.out.2.2.below (af wr (.cells #[.int .i64 1, .int .i64 x, .slice none 0 0, .slice none 0 0] 117))) hgrow2 hno;have wu:Hid (Own (w2.setCell ⟨w.heap.size+1,3,none⟩ v') ⟨w.heap.size+1,3,none⟩ v'):=aa (bu ⟨q1,q2⟩);have Aq:Hid (d_ (w2.setCell ⟨w.heap.size+1,3,none⟩ v') (w.heap.size+2) v' ((l.take (k+1)).map aR)):=aa (tu.out.set (by omega))
   have TZ:Hid (Own (w2.setCell ⟨w.heap.size+1,3,none⟩ v') ⟨w.heap.size+1,0,none⟩ (.int .i64 3)∧Own (w2.setCell ⟨w.heap.size+1,3,none⟩ v') ⟨w.heap.size+1,1,none⟩ (.int .i64 0)∧Own (w2.setCell ⟨w.heap.size+1,3,none⟩ v') ⟨w.heap.size+1,2,none⟩ (.slice none 0 0)):=
    aa ⟨ak a0 (by simp),ak a1 (by simp),ak a2 (by simp)⟩
   have l5:Hid (Below (w.heap.size+1) W (w2.setCell ⟨w.heap.size+1,3,none⟩ v')):=aa (HB2.out.setCell (Nat.le_refl _) _);clear b1 b2 b3 hown hown2 hgrow2 HO qh HV v3 IQ q1 q2 a0 a1 a2 HB2 tu HVA hc
   go_roundw
   case rel=>exact⟨k+1,v',by omega,by go_num,wu,Aq,TZ,l5⟩
   case measure=>simp[intOf];omega
  ·
   have yY:Hid (d_ wr (w.heap.size+2) v (l.map aR)):=aa (by
    have h:=HO.out
    rwa [List.take_of_length_le (by have:=hn.out;omega)]at h)
   obtain⟨L,cl,UX⟩:=yY.out.len;rw[List.length_map,hn.out]at UX;subst UX;obtain⟨p0,p0f⟩:=qh.out.1;obtain⟨p1,p1f⟩:=qh.out.2.1;obtain⟨p2,p2f⟩:=qh.out.2.2;obtain⟨p3,p3f⟩:=HV.out;have HGr:=HG.out;have r0:=(aD.out.cell (p:=⟨w.heap.size,0,none⟩) (Nat.lt_succ_self _)).trans HG.out.1.1;have r1:=(aD.out.cell (p:=⟨w.heap.size,1,none⟩) (Nat.lt_succ_self _)).trans HG.out.1.2.1;have r2:=(aD.out.cell (p:=⟨w.heap.size,2,none⟩) (Nat.lt_succ_self _)).trans HG.out.1.2.2.1;have r3:=(aD.out.cell (p:=⟨w.heap.size,3,none⟩) (Nat.lt_succ_self _)).trans HG.out.1.2.2.2;have z0:=(aD.out.frozen (p:=⟨w.heap.size,0,none⟩) (Nat.lt_succ_self _)).trans (HG.out.2 0);have z1:=(aD.out.frozen (p:=⟨w.heap.size,1,none⟩) (Nat.lt_succ_self _)).trans (HG.out.2 1);have z2:=(aD.out.frozen (p:=⟨w.heap.size,2,none⟩) (Nat.lt_succ_self _)).trans (HG.out.2 2);have z3:=(aD.out.frozen (p:=⟨w.heap.size,3,none⟩) (Nat.lt_succ_self _)).trans (HG.out.2 3);have u_:=aa (cu.out.trans (aD.out.mono (Nat.le_succ _)));clear qh HV HO HGr;obtain⟨WF,uY⟩:∃u,(((wr.setCell ⟨w.heap.size,0,none⟩ (.int .i64 3)).setCell ⟨w.heap.size,1,none⟩ (.int .i64 0)).setCell ⟨w.heap.size,2,none⟩ (.slice none 0 0)).setCell ⟨w.heap.size,3,none⟩ (.slice L n cl)=u:=⟨_,rfl⟩
   have hgB:WF.heap[w.heap.size]? = some (.cells #[.int .i64 3, .int .i64 0, .slice none 0 0, .slice L n cl] 117 (0,0)):=by
    have h0:=(aD.out.block w.heap.size (Nat.lt_succ_self _)).trans MX.out;rw[←uY,heap_setCell_same _ _ _ _ _ _ (heap_setCell_same _ _ _ _ _ _ (heap_setCell_same _ _ _ _ _ _ (heap_setCell_same _ _ _ _ _ _ h0)))]
    rfl
   have Fs:Hid (d_ WF (w.heap.size+2) (.slice L n cl) (l.map aR)):=aa (by
    rw[←uY]
    exact(((yY.out.set (by omega)).set (by omega)).set (by omega)).set (by omega))
   have gU:Hid (Below w.heap.size w WF):=aa (by
    rw[←uY]
    exact(((u_.out.setCell (Nat.le_refl _) _).setCell (Nat.le_refl _) _).setCell (Nat.le_refl _) _).setCell (Nat.le_refl _) _)
   have Bz:=Gw (lo:=w.heap.size) Fs.out (by omega);rw[hn.out]at Bz;have HIT:=aa Bz;have Yu:Kp ((loadVar 117 ⟨w.heap.size,0,none⟩).run Tryz.prog WF = .ok (.agg #[.int .i64 3, .int .i64 0, .slice none 0 0, .slice L n cl]) WF):=⟨run_loadVar_row _ _ _ _ _ _ _ hgB Tryz.underlying117 rfl (by kernel_rfl)⟩;have HWF:=aa uY;clear Bz yY Fs hgB uY;go_wp2;rw[HWF.out];exact bodyPost_ret (v:= .agg #[.int .i64 3, .int .i64 0, .slice none 0 0, .slice L n cl]) (aK (p:=2) (ty:=117) rfl _ _ ⟨w.heap.size,0,none⟩ _ rfl Yu.out) rfl ⟨⟨3,0,none,0,0,L,n,cl⟩,rfl,HIT.out,gU.out⟩
theorem OY (A:Option Addr)(l:List Int)(n c:Nat)(hn:Hid (l.length=n))(hbig:n≤1000000)(w:World)(hs:Hid (Sl w A l)) :
  Calls Tryz.prog 179 #[.slice A n c] w (Ia (.lst (l.map .int)) w):=
 (mH A l n c hn hbig w hs).mono (fun _ _ h=>h.it)
theorem Kh {l:List Int} {k:Nat} (h:k<l.length):(dL (k+1)++l.drop (k+1)).set k (l.getD k 0)=dL k++l.drop k:=by
 rw[List.drop_eq_getElem_cons h,dL,List.replicate_succ',List.append_assoc,List.set_append_right _ _ (by rw[List.length_replicate];exact Nat.le_refl _),List.length_replicate,Nat.sub_self];rw[List.getD_eq_getElem?_getD,List.getElem?_eq_getElem h]
 rfl
def NumOut (s:Nat)(n:Int)(w:World)(e:Ending)(w':World):Prop:=∃g cap,e = .returned (.slice (some ⟨g,0,none⟩) s cap)∧Sk .u8 w' (some ⟨g,0,none⟩) (rW s n)∧Below w.heap.size w w'
theorem yC (n:Int)(h0:0≤n)(h1:n<18446744073709551616)(w:World):Calls Tryz.prog 182 #[.int .u64 n, .int .i64 4] w (NumOut 4 n w):=by
 obtain⟨W,hW⟩:∃W,w.alloc (.cells #[.int .u8 0, .int .u8 0, .int .u8 0, .int .u8 0] 5)=W:=⟨_,rfl⟩;have cu:Hid (Below w.heap.size w W):=aa (by rw[←hW];exact af _ _)
 have HB0:Hid (bS .u8 5 W w.heap.size (dL 4++(rW 4 n).drop 4)):=aa (by
  rw[←hW]
  exact bS.new w (dL 4))
 have hmk:∀w,(Instr.makeSlice 114 (.int .i64 4) (.int .i64 4)).run Tryz.prog w = .ok (.slice (some ⟨w.heap.size,0,none⟩) 4 4) (w.alloc (.cells #[.int .u8 0, .int .u8 0, .int .u8 0, .int .u8 0] 5)):=fun _=>by kernel_rfl
 have HW:=aa hW;clear hW;go_in;go_wp2;rw[HW.out];clear HW hmk
 go_loopw [0,6] (fun p i u=>∃(j:Nat) (x:Int),j≤4∧i = .int .i64 (3-(j:Int))∧p = .int .u64 x∧0≤x∧x≤n∧Hid (n / 2 ^ (8*j)=x)∧Hid (bS .u8 5 u w.heap.size (dL (4-j)++(rW 4 n).drop (4-j)))∧Hid (Below w.heap.size w u)) (fun _ i _=>(intOf i+1).toNat)
 case atStart=>exact⟨0,n,by omega,rfl,rfl,h0,Int.le_refl _,aa (by simp),HB0,cu⟩
 case round=>
  obtain⟨j,x,hj,rfl,rfl,x0,x1,HX,HB,aD⟩:=hrel
  by_cases hlt:j<4
  ·
   obtain⟨k,hk⟩:∃k,3-j=k:=⟨_,rfl⟩;have hkk:4-j=k+1:=by omega
   have hkl:k<(rW 4 n).length:=by rw[jO (by omega)];omega
   rw[hkk]at HB;have hc:=HB.out.cell (j:=k) (by rw[List.length_append,dL,List.length_replicate];omega);have hf:=HB.out.free k;have hst:=Kh hkl;rw[EL (by omega) n k (by omega),show 8*(4-1-k)=8*j by omega,HX.out]at hst
   have Cn:Hid (n / 2 ^ (8*(j+1))=x / 256):=aa (by
    rw[←HX.out,show 8*(j+1)=8*j+8 by omega,Int.pow_add,←Int.ediv_ediv_of_nonneg (Int.le_of_lt (Int.pow_pos (by decide)))]
    rfl)
   have d1:(0:Int)≤3-(j:Int):=by omega
   have d2:(3-(j:Int)).toNat=k:=by omega
   have d3:3-(j:Int)<4:=by omega
   have y0:0≤x / 256:=Int.ediv_nonneg x0 (by decide);have y1:x / 256≤n:=by omega
   obtain⟨WV,Ff⟩:∃u,wr.setCell ⟨w.heap.size,k,none⟩ (.int .u8 (x%256))=u:=⟨_,rfl⟩
   have HB2:Hid (bS .u8 5 WV w.heap.size (dL (4-(j+1))++(rW 4 n).drop (4-(j+1)))):=aa (by
    rw[←Ff,show 4-(j+1)=k by omega,←hst]
    exact HB.out.set)
   have EU:Hid (Below w.heap.size w WV):=aa (by rw[←Ff];exact aD.out.setCell (Nat.le_refl _) _);have T_:=aa Ff;clear hst HB aD Ff hkl hk;go_wp2
   try go_region
   try rw[T_.out]
   clear hc hf;go_wp2
   go_roundw
   case rel=>exact⟨j+1,_,by omega,by go_num,rfl,y0,y1,Cn,HB2,EU⟩
   case measure=>simp[intOf];omega
  ·
   have M4:Hid (bS .u8 5 wr w.heap.size (rW 4 n)):=aa (by
    have h:=HB.out
    rwa [show 4-j=0 by omega]at h)
   have d1:3-(j:Int)<0:=by omega
   clear HB;go_wp2;go_ret;exact⟨_,_,rfl,M4.out.sk,aD.out⟩
theorem LQ (n:Int)(h0:0≤n)(h1:n<18446744073709551616)(w:World):Calls Tryz.prog 182 #[.int .u64 n, .int .i64 8] w (NumOut 8 n w):=by
 obtain⟨W,hW⟩:∃W,w.alloc (.cells #[.int .u8 0, .int .u8 0, .int .u8 0, .int .u8 0, .int .u8 0, .int .u8 0, .int .u8 0, .int .u8 0] 5)=W:=⟨_,rfl⟩;have cu:Hid (Below w.heap.size w W):=aa (by rw[←hW];exact af _ _)
 have HB0:Hid (bS .u8 5 W w.heap.size (dL 8++(rW 8 n).drop 8)):=aa (by
  rw[←hW]
  exact bS.new w (dL 8))
 have hmk:∀w,(Instr.makeSlice 114 (.int .i64 8) (.int .i64 8)).run Tryz.prog w = .ok (.slice (some ⟨w.heap.size,0,none⟩) 8 8) (w.alloc (.cells #[.int .u8 0, .int .u8 0, .int .u8 0, .int .u8 0, .int .u8 0, .int .u8 0, .int .u8 0, .int .u8 0] 5)):=fun _=>by kernel_rfl
 have HW:=aa hW;clear hW;go_in;go_wp2;rw[HW.out];clear HW hmk
 go_loopw [0,6] (fun p i u=>∃(j:Nat) (x:Int),j≤8∧i = .int .i64 (7-(j:Int))∧p = .int .u64 x∧0≤x∧x≤n∧Hid (n / 2 ^ (8*j)=x)∧Hid (bS .u8 5 u w.heap.size (dL (8-j)++(rW 8 n).drop (8-j)))∧Hid (Below w.heap.size w u)) (fun _ i _=>(intOf i+1).toNat)
 case atStart=>exact⟨0,n,by omega,rfl,rfl,h0,Int.le_refl _,aa (by simp),HB0,cu⟩
 case round=>
  obtain⟨j,x,hj,rfl,rfl,x0,x1,HX,HB,aD⟩:=hrel
  by_cases hlt:j<8
  ·
   obtain⟨k,hk⟩:∃k,7-j=k:=⟨_,rfl⟩;have hkk:8-j=k+1:=by omega
   have hkl:k<(rW 8 n).length:=by rw[jO (by omega)];omega
   rw[hkk]at HB;have hc:=HB.out.cell (j:=k) (by rw[List.length_append,dL,List.length_replicate];omega);have hf:=HB.out.free k;have hst:=Kh hkl;rw[EL (by omega) n k (by omega),show 8*(8-1-k)=8*j by omega,HX.out]at hst
   have Cn:Hid (n / 2 ^ (8*(j+1))=x / 256):=aa (by
    rw[←HX.out,show 8*(j+1)=8*j+8 by omega,Int.pow_add,←Int.ediv_ediv_of_nonneg (Int.le_of_lt (Int.pow_pos (by decide)))]
    rfl)
   have d1:(0:Int)≤7-(j:Int):=by omega
   have d2:(7-(j:Int)).toNat=k:=by omega
   have d3:7-(j:Int)<8:=by omega
   have y0:0≤x / 256:=Int.ediv_nonneg x0 (by decide);have y1:x / 256≤n:=by omega
   obtain⟨WV,Ff⟩:∃u,wr.setCell ⟨w.heap.size,k,none⟩ (.int .u8 (x%256))=u:=⟨_,rfl⟩
   have HB2:Hid (bS .u8 5 WV w.heap.size (dL (8-(j+1))++(rW 8 n).drop (8-(j+1)))):=aa (by
    rw[←Ff,show 8-(j+1)=k by omega,←hst]
    exact HB.out.set)
   have EU:Hid (Below w.heap.size w WV):=aa (by rw[←Ff];exact aD.out.setCell (Nat.le_refl _) _);have T_:=aa Ff;clear hst HB aD Ff hkl hk;go_wp2
   try go_region
   try rw[T_.out]
   clear hc hf;go_wp2
   go_roundw
   case rel=>exact⟨j+1,_,by omega,by go_num,rfl,y0,y1,Cn,HB2,EU⟩
   case measure=>simp[intOf];omega
  ·
   have M4:Hid (bS .u8 5 wr w.heap.size (rW 8 n)):=aa (by
    have h:=HB.out
    rwa [show 8-j=0 by omega]at h)
   have d1:7-(j:Int)<0:=by omega
   clear HB;go_wp2;go_ret;exact⟨_,_,rfl,M4.out.sk,aD.out⟩
theorem NK (c:Ic)(w:World)(D:Nat)(h1:c.kind=1)(h3:c.nb=0)(h4:c.nl=0):Calls Tryz.prog 272 #[c.val, .int .i64 (D:Int)] w (Rt w (.bool true)):=by
 obtain⟨kd,nn,B,nb,cb,L,nl,cl⟩:=c
 dsimp only at h1 h3 h4
 subst h1;subst h3;subst h4;show Calls Tryz.prog 272 #[.agg #[.int .i64 1, .int .i64 nn, .slice B 0 cb, .slice L 0 cl], .int .i64 (D:Int)] w (Rt w (.bool true));go_in;go_wp2;go_ret;exact⟨rfl,af _ _⟩
theorem NL (c:Ic)(w:World)(D:Nat)(h1:c.kind=2)(h2:c.n=0)(h4:c.nl=0):Calls Tryz.prog 272 #[c.val, .int .i64 (D:Int)] w (Rt w (.bool true)):=by
 obtain⟨kd,nn,B,nb,cb,L,nl,cl⟩:=c
 dsimp only at h1 h2 h4
 subst h1;subst h2;subst h4;show Calls Tryz.prog 272 #[.agg #[.int .i64 2, .int .i64 0, .slice B nb cb, .slice L 0 cl], .int .i64 (D:Int)] w (Rt w (.bool true));go_in;go_wp2;go_ret;exact⟨rfl,af _ _⟩
theorem VD (l:List It)(n:Nat)(hn:Hid (l.length=n))(hn1:n≤1000)(f:Nat→Ic)(B:Option Addr)(cb:Nat)(L:Option Addr)(cl:Nat)(D:Nat)(hD:D<8)(w:World)
  (h5:Hid (∀k,k<l.length→∃b o,L=some ⟨b,o,none⟩∧Four w b (o+k*4) (f k))) (h6:Hid (∀k,k<l.length→pV w (l.getD k default) (f k)))
  (ih:∀k,k<l.length→∀u,Below w.heap.size w u→Calls Tryz.prog 272 #[(f k).val, .int .i64 ((D+1:Nat):Int)] u fun e w'=>e = .returned (.bool true)∧Below u.heap.size u w') :
  Calls Tryz.prog 272 #[.agg #[.int .i64 3, .int .i64 0, .slice B 0 cb, .slice L n cl], .int .i64 (D:Int)] w (Rt w (.bool true)):=by
 have J8:=aa ih;clear ih;obtain⟨W,hW⟩:∃W,w.alloc (.cells #[.int .i64 3, .int .i64 0, .slice B 0 cb, .slice L n cl] 117)=W:=⟨_,rfl⟩;have cu:Hid (Below w.heap.size w W):=aa (by rw[←hW];exact af _ _);have HF:Hid (Four W w.heap.size 0 ⟨3,0,B,0,cb,L,n,cl⟩):=aa (by rw[←hW];exact iT w ⟨3,0,B,0,cb,L,n,cl⟩);have HW:=aa hW;have d1:decide ((1000:Int)<(n:Int))=false:=by simp;omega
 have d2:((D:Int) == 8)=false:=by simp;omega
 have HD:Hid (((D+1:Nat):Int)=(D:Int)+1):=aa (by omega);have aiL:IntKind.i64.wrap ((D:Int)+1)=(D:Int)+1:=IntWalk.i64_in _ (by omega);obtain⟨c0,c1,c2,c3⟩:=HF.out.get;clear hW;go_in
 go_upto_region 1 with(fail)
 rw[HW.out];go_wp2;clear c0 c1 c2 c3
 go_loopw [5] (fun i u=>∃k:Nat,k≤n∧i = .int .i64 k∧Hid (Below W.heap.size W u)) (fun i _=>n-(intOf i).toNat)
 case atStart=>exact⟨0,by omega,rfl,aa (Below.refl _ _)⟩
 case round=>
  obtain⟨k,hk,rfl,aD⟩:=hrel;obtain⟨c0,c1,c2,c3⟩:=(HF.out.below aD.out).get
  by_cases hlk:k<n
  ·
   have hkl:k<l.length:=by rw[hn.out];exact hlk
   obtain⟨b,o,hL,h4⟩:=h5.out k hkl;subst hL;have hbw:=ag cu.out aD.out;obtain⟨ic,hic⟩:∃x,f k=x:=⟨_,rfl⟩;obtain⟨kd,nn,B',nb,cb',L',nl,cl'⟩:=ic;have wI:=J8.out k hkl wr hbw;rw[hic]at h4 wI;rw[HD.out]at wI;have HC:Hid (Calls Tryz.prog 272 #[.agg #[.int .i64 kd, .int .i64 nn, .slice B' nb cb', .slice L' nl cl'], .int .i64 ((D:Int)+1)] wr fun e w'=>e = .returned (.bool true)∧Below wr.heap.size wr w'):=aa wI;obtain⟨i0',i1',i2',i3'⟩:=(h4.below hbw).get;clear hkl h4 hbw hic wI
   go_wp2_with fail
   refine HC.out.mono ?_;rintro e w5 ⟨rfl,hb5⟩;have l9:=aa (ag aD.out hb5);clear hb5 HC i0' i1' i2' i3' c0 c1 c2 c3;go_wp2
   go_roundw
   case rel=>exact⟨k+1,by omega,by go_num,l9⟩
   case measure=>simp[intOf];omega
  ·
   have hbf:=ag cu.out aD.out;go_wp2;go_ret;exact⟨rfl,hbf⟩
theorem NM:∀(d D:Nat),d+D≤8→∀(i:It) (c:Ic) (w:World),fits d i→pV w i c→Calls Tryz.prog 272 #[c.val, .int .i64 (D:Int)] w (Rt w (.bool true)):=by
 intro d
 induction d with
 | zero=>
  intro D hdD i c w hf hr
  cases hr with
  | int n c h1 h2 h3 h4=>exact NK c w D h1 h3 h4
  | byt b c h1 h2 h3 h4 h5=>exact NL c w D h1 h2 h4
  | lst l c h1 h2 h3 h4 f h5 h6=>exact absurd hf (by simp[fits])
 | succ d ih=>
  intro D hdD i c w hf hr
  cases hr with
  | int n c h1 h2 h3 h4=>exact NK c w D h1 h3 h4
  | byt b c h1 h2 h3 h4 h5=>exact NL c w D h1 h2 h4
  | lst l c h1 h2 h3 h4 f h5 h6=>
   obtain⟨kd,nn,B,nb,cb,L,nl,cl⟩:=c
   dsimp only at h1 h2 h3 h4 h5
   subst h1;subst h2;subst h3;subst h4;refine VD l l.length (aa rfl) hf.1 f B cb L cl D (by omega) w (aa h5) (aa h6) ?_;intro k hk u hu;exact ih (D+1) (by omega) _ (f k) u (hf.2 _ (by rw[List.getD_eq_getElem?_getD,List.getElem?_eq_getElem hk];exact List.getElem_mem hk)) ((h6 k hk).kept hu)
theorem D6 (i:It)(c:Ic)(w:World)(hf:fits 8 i)(hr:pV w i c):Calls Tryz.prog 265 #[c.val] w (Rt w (.bool true)):=by
 have J8:=aa (NM 8 0 (Nat.le_refl _) i c (w.alloc (vB c)) hf (hr.kept (af _ _)));obtain⟨kd,nn,B,nb,cb,L,nl,cl⟩:=c;show Calls Tryz.prog 265 #[.agg #[.int .i64 kd, .int .i64 nn, .slice B nb cb, .slice L nl cl]] w (Rt w (.bool true));clear hf hr;go_in
 go_wp2_with fail
 refine J8.out.mono ?_;rintro e w2 ⟨rfl,hb0⟩;have hb1:=ag (af _ _) hb0;clear hb0;go_wp2;go_ret;exact⟨rfl,hb1⟩
theorem xC (w:World)(x:Int):aV .u8 5 (w.alloc (.cells #[.int .u8 x] 5)) w.heap.size (.slice (some ⟨w.heap.size,0,none⟩) 1 1) [x]:=
 ⟨rfl,Or.inr ⟨w.heap.size,1,#[.int .u8 x],rfl,Nat.le_refl _,heap_alloc_new _ _,Nat.le_refl _,by decide,rfl,rfl⟩⟩
theorem F7 (n:Int)(hn1: -9223372036854775808≤n)(hn2:n<9223372036854775808)(B:Option Addr)(cb:Nat)(L:Option Addr)(cl:Nat)(w:World) :
  Calls Tryz.prog 145 #[.agg #[.int .i64 1, .int .i64 n, .slice B 0 cb, .slice L 0 cl]] w (BU .u8 5 (enc (.int n)) w):=by
 obtain⟨i0,hi,hz0,hz1,hz2⟩:=info_parts eB;obtain⟨W,hW⟩:∃W,w.alloc (.cells #[.int .i64 1, .int .i64 n, .slice B 0 cb, .slice L 0 cl] 117)=W:=⟨_,rfl⟩;have cu:Hid (Below w.heap.size w W):=aa (by rw[←hW];exact af _ _);have hF:Four W w.heap.size 0 ⟨1,n,B,0,cb,L,0,cl⟩:=by rw[←hW];exact iT w ⟨1,n,B,0,cb,L,0,cl⟩
 obtain⟨c0,c1,c2,c3⟩:=hF.get;have c1b:(W.alloc (.cells #[.int .u8 1] 5)).cell? ⟨w.heap.size,0+1,none⟩=some (.int .i64 n):=cell_below c1 (af _ _);rw[Nat.zero_add]at c1b;have HO:Hid (aV .u8 5 (W.alloc (.cells #[.int .u8 1] 5)) W.heap.size (.slice (some ⟨W.heap.size,0,none⟩) 1 1) [1]):=aa (xC W 1);have Rj:=aa (af W (.cells #[.int .u8 1] 5));have HW:=aa hW;have y0:0≤n%18446744073709551616:=Int.emod_nonneg _ (by decide);have y1:n%18446744073709551616<18446744073709551616:=Int.emod_lt_of_pos _ (by decide);clear hW hF;go_in
 go_upto_region 1 with(fail)
 rw[HW.out]
 go_wp2_with fail
 refine(LQ (n%18446744073709551616) y0 y1 _).mono ?_;rintro e w3 ⟨g3,pU,rfl,hs3,hb3⟩;have om:=aa (HO.out.keep hb3);have HB3:=aa (ag Rj.out hb3);have Ud:=aa hs3;have hz3:=HB3.out.size;have hrow:=om.out.row (n:=1) rfl;clear hb3 hs3 c0 c1 c1b c2 c3
 go_wp2_with (at_builtin;refine wpList_append_own _ rfl _ _ 114 rfl (W.heap.size) 5 i0 (.int .u8 0) 1 1 Tryz.underlying114 hi hz0 hz1 hz2 rfl (by decide) (.slice (some ⟨W.heap.size,0,none⟩) 1 1) (1) ([.int .u8 1]) rfl (hrow) ⟨g3,0,none⟩ 8 pU ((rW 8 (n%18446744073709551616)).map (.int .u8)) rfl (by simp[jO,eX,g_]) (Ud.out.news) (ints_oneCell .u8 _) (by unfold maxLen;omega) (by omega) (by omega) ?_;intro v4 w4 vD rO _)
 have Aq:Hid (aV .u8 5 w4 W.heap.size v4 (enc (.int n))):=aa (by rw[og];exact aV.app (xs:= [1]) (ys:=sU (n%18446744073709551616)) (m:=8) rfl rfl vD);have l5:Hid (Below w.heap.size w w4):=aa (ag cu.out (om.out.below0 HB3.out hz3 rO));have hle:=cu.out.size;clear vD rO hrow;go_wp2;go_ret;exact⟨_,rfl,Aq.out.mono hle,l5.out⟩
theorem F8 (l:List Int)(n:Nat)(hn:Hid (l.length=n))(hn0:0<n)(hn1:n<1000000)(b o:Nat)(cb:Nat)(L:Option Addr)(cl:Nat)(w:World)(hs:Hid (Sk .u8 w (some ⟨b,o,none⟩) l)) :
  Calls Tryz.prog 145 #[.agg #[.int .i64 2, .int .i64 0, .slice (some ⟨b,o,none⟩) n cb, .slice L 0 cl]] w (BU .u8 5 (enc (.byt l)) w):=by
 obtain⟨i0,hi,hz0,hz1,hz2⟩:=info_parts eB;obtain⟨W,hW⟩:∃W,w.alloc (.cells #[.int .i64 2, .int .i64 0, .slice (some ⟨b,o,none⟩) n cb, .slice L 0 cl] 117)=W:=⟨_,rfl⟩;have cu:Hid (Below w.heap.size w W):=aa (by rw[←hW];exact af _ _);have HF:Hid (Four W w.heap.size 0 ⟨2,0,some ⟨b,o,none⟩,n,cb,L,0,cl⟩):=aa (by rw[←hW];exact iT w ⟨2,0,some ⟨b,o,none⟩,n,cb,L,0,cl⟩);obtain⟨c0,c1,c2,c3⟩:=HF.out.get;rw[Nat.zero_add]at c1 c2 c3;have HS:=aa (hs.out.below cu.out);have DL:=aa c2;have HW:=aa hW;have u1:IntKind.u64.wrap (n:Int)=(n:Int):=by simp[IntKind.wrap,IntKind.bits,IntKind.signed];omega
 clear hW;go_in
 go_upto_region 1 with(fail)
 rw[HW.out]
 go_wp2_with fail
 clear c0 c1 c2 c3;refine bV (S:=fun w'=>w'.cell? ⟨w.heap.size,2,none⟩=some (.slice (some ⟨b,o,none⟩) n cb)) (E:= []) (by kernel_rfl) (cell_below DL.out (Below.refl _ _).drew) (fun hHeld=>?_);refine b_ 1 ?_;refine b_ 2 ?_;refine b_ 3 ?_;refine b_ 4 ?_;refine b_ 7 ?_;refine b_ 8 ?_;refine Rm (i1:=0) (i2:=5) (by kernel_rfl) rfl rfl (fun K hK=>?_) (fun K hK=>?_)
 ·
  go_simp;refine hK.out _ _ ?_ (fun hHeld=>?_)
  · exact cell_below DL.out (af _ _).drew
  clear hK K
  try simp only[qq]
  refine dh 5 fun K hK=>?_;go_simp
  try rw[show(W.drew.alloc (.cells #[.int .u8 2] 5))=(W.alloc (.cells #[.int .u8 2] 5)).drew from rfl]
  refine(yC n (by omega) (by omega) _).mono ?_;rintro e w3 ⟨gN,XE,rfl,hsN,hb3⟩;refine hK.out _ _ ?_ (fun hHeld=>?_)
  · exact cell_below DL.out (ag (af _ _).drew hb3)
  clear hK K
  try simp only[qq]
  refine dh 6 fun K hK=>?_;obtain⟨gA,hgA⟩:∃g,W.heap.size=g:=⟨_,rfl⟩;have Fs:Hid (aV .u8 5 w3 W.heap.size (.slice (some ⟨gA,0,none⟩) 1 1) [2]):=aa (by rw[←hgA];exact(xC W 2).keep (ag (Below.refl _ _).drew hb3));have oM:Hid (Below W.heap.size W w3):=aa (ag (af _ _).drew hb3);have QI:=aa hsN;obtain⟨W6,Jv⟩:∃u,w3=u:=⟨_,rfl⟩;rw[Jv]at Fs oM QI ⊢;rw[hgA];have Pb:=Fs.out.row (n:=1) rfl;have WC:=oM.out.size;refine step_append_lies _ (by rfl) _ _ _ (by rfl) (W.heap.size) 5 i0 _ 1 1 Tryz.underlying114 hi hz0 hz1 hz2 rfl (by omega) (.slice (some ⟨gA,0,none⟩) 1 1) (1) ([.int .u8 2]) (by rfl) (Pb) ⟨gN,0,none⟩ 4 XE ((rW 4 (n:Int)).map (.int .u8)) (by rfl) (by simp[jO,eX,hn.out]) (QI.out.news) (ints_oneCell .u8 _) (by decide) (by unfold maxLen;omega) (by omega) (by omega) (W6.heap.size) rfl ?_;intro g7 JW w7 Ph Jt aeb adU;have vK:=aa (Fs.out.below0 oM.out WC Jt);have Ii:Hid (aV .u8 5 w7 W.heap.size (.slice (some ⟨g7,0,none⟩) (1+4) JW) (2::wR (n:Int))):=aa (aV.app (xs:= [2]) (ys:=wR (n:Int)) (m:=4) rfl rfl Ph);have O_:=Ii.out.row (n:=5) rfl;have WB:=vK.out.size;have QD:=aa (HS.out.below vK.out);refine hK.out _ _ ?_ (fun hHeld=>?_)
  · exact cell_below DL.out vK.out
  clear hK K
  try simp only[qq]
  refine dh 9 fun K hK=>?_;refine step_append_lies _ (by rfl) _ _ _ (by rfl) (W.heap.size) 5 i0 _ 1 1 Tryz.underlying114 hi hz0 hz1 hz2 rfl (by omega) (.slice (some ⟨g7,0,none⟩) (1+4) JW) (5) ((2::wR (n:Int)).map (.int .u8)) (by rfl) (O_) ⟨b,o,none⟩ n cb (l.map (.int .u8)) (by rfl) (by simp[jO,eX,hn.out]) (QD.out.news) (ints_oneCell .u8 _) (hn0) (by unfold maxLen;omega) (by omega) (by omega) (w7.heap.size) rfl ?_;intro g8 Qj w8 vC kR aea Pm;have sK:=aa (Ii.out.below0 vK.out WB kR);have J5:Hid (aV .u8 5 w8 W.heap.size (.slice (some ⟨g8,0,none⟩) (5+n) Qj) (enc (.byt l))):=aa (by rw[jh,hn.out];exact aV.app (xs:=2::wR (n:Int)) (ys:=l) (m:=n) rfl hn.out.symm vC);refine hK.out _ _ ?_ (fun hHeld=>?_)
  · exact cell_below DL.out sK.out
  clear hK K
  try simp only[qq]
  refine b_ 10 ?_;refine gM ?_;have HF:=aa (J5.out.mono cu.out.size);have hbf:=ag cu.out sK.out;go_wp2;go_ret;exact⟨_,rfl,HF.out,hbf⟩
 ·
  go_simp;refine(yC n (by omega) (by omega) _).mono ?_;rintro e w3 ⟨gN,XE,rfl,hsN,hb3⟩;have Nf:=aa (ag (Below.refl W.heap.size W).drew hb3);have hzN:=Nf.out.size;refine hK.out _ _ ?_ (fun hHeld=>?_)
  · exact cell_below DL.out (ag (Below.refl W.heap.size W).drew hb3)
  clear hK K
  try simp only[qq]
  refine dh 0 fun K hK=>?_;go_simp;refine hK.out _ _ ?_ (fun hHeld=>?_)
  ·
   exact cell_below DL.out (ag (ag (Below.refl W.heap.size W).drew hb3) (af _ _))
  clear hK K
  try simp only[qq]
  refine dh 6 fun K hK=>?_;obtain⟨gA,hgA⟩:∃g,w3.heap.size=g:=⟨_,rfl⟩;have Fs:Hid (aV .u8 5 (w3.alloc (.cells #[.int .u8 2] 5)) W.heap.size (.slice (some ⟨gA,0,none⟩) 1 1) [2]):=aa (by rw[←hgA];exact(xC w3 2).mono hzN);have oM:Hid (Below W.heap.size W (w3.alloc (.cells #[.int .u8 2] 5))):=aa (ag Nf.out (af _ _));have QI:=aa (hsN.below (af w3 (.cells #[.int .u8 2] 5)));obtain⟨W6,Jv⟩:∃u,w3.alloc (.cells #[.int .u8 2] 5)=u:=⟨_,rfl⟩;rw[Jv]at Fs oM QI ⊢;rw[hgA];have Pb:=Fs.out.row (n:=1) rfl;have WC:=oM.out.size;refine step_append_lies _ (by rfl) _ _ _ (by rfl) (W.heap.size) 5 i0 _ 1 1 Tryz.underlying114 hi hz0 hz1 hz2 rfl (by omega) (.slice (some ⟨gA,0,none⟩) 1 1) (1) ([.int .u8 2]) (by rfl) (Pb) ⟨gN,0,none⟩ 4 XE ((rW 4 (n:Int)).map (.int .u8)) (by rfl) (by simp[jO,eX,hn.out]) (QI.out.news) (ints_oneCell .u8 _) (by decide) (by unfold maxLen;omega) (by omega) (by omega) (W6.heap.size) rfl ?_;intro g7 JW w7 Ph Jt aeb adU;have vK:=aa (Fs.out.below0 oM.out WC Jt);have Ii:Hid (aV .u8 5 w7 W.heap.size (.slice (some ⟨g7,0,none⟩) (1+4) JW) (2::wR (n:Int))):=aa (aV.app (xs:= [2]) (ys:=wR (n:Int)) (m:=4) rfl rfl Ph);have O_:=Ii.out.row (n:=5) rfl;have WB:=vK.out.size;have QD:=aa (HS.out.below vK.out);refine hK.out _ _ ?_ (fun hHeld=>?_)
  · exact cell_below DL.out vK.out
  clear hK K
  try simp only[qq]
  refine dh 9 fun K hK=>?_;refine step_append_lies _ (by rfl) _ _ _ (by rfl) (W.heap.size) 5 i0 _ 1 1 Tryz.underlying114 hi hz0 hz1 hz2 rfl (by omega) (.slice (some ⟨g7,0,none⟩) (1+4) JW) (5) ((2::wR (n:Int)).map (.int .u8)) (by rfl) (O_) ⟨b,o,none⟩ n cb (l.map (.int .u8)) (by rfl) (by simp[jO,eX,hn.out]) (QD.out.news) (ints_oneCell .u8 _) (hn0) (by unfold maxLen;omega) (by omega) (by omega) (w7.heap.size) rfl ?_;intro g8 Qj w8 vC kR aea Pm;have sK:=aa (Ii.out.below0 vK.out WB kR);have J5:Hid (aV .u8 5 w8 W.heap.size (.slice (some ⟨g8,0,none⟩) (5+n) Qj) (enc (.byt l))):=aa (by rw[jh,hn.out];exact aV.app (xs:=2::wR (n:Int)) (ys:=l) (m:=n) rfl hn.out.symm vC);refine hK.out _ _ ?_ (fun hHeld=>?_)
  · exact cell_below DL.out sK.out
  clear hK K
  try simp only[qq]
  refine b_ 10 ?_;refine gM ?_;have HF:=aa (J5.out.mono cu.out.size);have hbf:=ag cu.out sK.out;go_wp2;go_ret;exact⟨_,rfl,HF.out,hbf⟩
theorem Oh (l:List It)(n:Nat)(hn:Hid (l.length=n))(hn1:n≤1000)(f:Nat→Ic)(B:Option Addr)(cb:Nat)(L:Option Addr)(cl:Nat)(w:World)
  (h5:Hid (∀k,k<l.length→∃b o,L=some ⟨b,o,none⟩∧Four w b (o+k*4) (f k))) (hsm:Hid ((enc (.lst l)).length≤16384))
  (ih:∀k,k<l.length→∀u,Below w.heap.size w u→Calls Tryz.prog 145 #[(f k).val] u (BU .u8 5 (enc (l.getD k default)) u)) :
  Calls Tryz.prog 145 #[.agg #[.int .i64 3, .int .i64 0, .slice B 0 cb, .slice L n cl]] w (BU .u8 5 (enc (.lst l)) w):=by
 have J8:=aa ih;clear ih;obtain⟨i0,hi,hz0,hz1,hz2⟩:=info_parts eB;obtain⟨W,hW⟩:∃W,w.alloc (.cells #[.int .i64 3, .int .i64 0, .slice B 0 cb, .slice L n cl] 117)=W:=⟨_,rfl⟩;have cu:Hid (Below w.heap.size w W):=aa (by rw[←hW];exact af _ _);have HF:Hid (Four W w.heap.size 0 ⟨3,0,B,0,cb,L,n,cl⟩):=aa (by rw[←hW];exact iT w ⟨3,0,B,0,cb,L,n,cl⟩);obtain⟨c0,c1,c2,c3⟩:=HF.out.get;have c3b:(W.alloc (.cells #[.int .u8 3] 5)).cell? ⟨w.heap.size,0+3,none⟩=some (.slice L n cl):=cell_below c3 (af _ _);rw[Nat.zero_add]at c3b;have HO:Hid (aV .u8 5 (W.alloc (.cells #[.int .u8 3] 5)) W.heap.size (.slice (some ⟨W.heap.size,0,none⟩) 1 1) [3]):=aa (xC W 3);have Rj:=aa (af W (.cells #[.int .u8 3] 5));have HW:=aa hW;have u1:IntKind.u64.wrap (n:Int)=(n:Int):=by simp[IntKind.wrap,IntKind.bits,IntKind.signed];omega
 clear hW;go_in
 go_upto_region 1 with(fail)
 rw[HW.out]
 go_wp2_with fail
 refine(yC n (by omega) (by omega) _).mono ?_;rintro e w3 ⟨g3,pU,rfl,hs3,hb3⟩;have om:=aa (HO.out.keep hb3);have HB3:=aa (ag Rj.out hb3);have Ud:=aa hs3;have hz3:=HB3.out.size;have hrow:=om.out.row (n:=1) rfl;clear hb3 hs3 c0 c1 c3b c2 c3
 go_wp2_with (at_builtin;refine wpList_append_own _ rfl _ _ 114 rfl (W.heap.size) 5 i0 (.int .u8 0) 1 1 Tryz.underlying114 hi hz0 hz1 hz2 rfl (by decide) (.slice (some ⟨W.heap.size,0,none⟩) 1 1) (1) ([.int .u8 3]) rfl (hrow) ⟨g3,0,none⟩ 4 pU ((rW 4 (n:Int)).map (.int .u8)) rfl (by simp[jO,eX,g_]) (Ud.out.news) (ints_oneCell .u8 _) (by unfold maxLen;omega) (by omega) (by omega) ?_;intro v4 w4 vD rO _)
 have Aq:Hid (aV .u8 5 w4 W.heap.size v4 (3::wR (n:Int)++gz (l.take 0))):=aa (by rw[List.take_zero];simpa [gz]using aV.app (xs:= [3]) (ys:=wR (n:Int)) (m:=4) rfl rfl vD);have l5:Hid (Below W.heap.size W w4):=aa (om.out.below0 HB3.out hz3 rO);have hle:=cu.out.size;clear vD rO hrow om HB3 Ud HO Rj
 go_loopw [3,4] (fun p i u=>∃k:Nat,k≤n∧i = .int .i64 k∧Hid (aV .u8 5 u W.heap.size p (3::wR (n:Int)++gz (l.take k)))∧Hid (Below W.heap.size W u)) (fun _ i _=>n-(intOf i).toNat)
 case atStart=>exact⟨0,by omega,rfl,Aq,l5⟩
 case round=>
  obtain⟨k,hk,rfl,HOk,aD⟩:=hrel;obtain⟨c0,c1,c2,c3⟩:=(HF.out.below aD.out).get
  by_cases hlk:k<n
  ·
   have hkl:k<l.length:=by rw[hn.out];exact hlk
   obtain⟨b,o,hL,h4⟩:=h5.out k hkl;subst hL;have hbw:=ag cu.out aD.out
   have hle2:(3::wR (n:Int)++gz (l.take k)).length+(enc (l.getD k default)).length≤16384:=by
    have h:=hsm.out;have t1:=qP hkl;have t2:=rR (l:=l) (k:=k+1);rw[t1,List.length_append]at t2;rw[fV,List.length_cons,List.length_append,eX]at h;rw[List.length_append,List.length_cons,eX]
    omega
   have hstep:=qP hkl;have hpos:=qd (l.getD k default);obtain⟨ic,hic⟩:∃x,f k=x:=⟨_,rfl⟩;obtain⟨kd,nn,B',nb,cb',L',nl,cl'⟩:=ic;have wI:=J8.out k hkl wr hbw;rw[hic]at h4 wI;obtain⟨et,het⟩:∃x,enc (l.getD k default)=x:=⟨_,rfl⟩;rw[het]at wI hle2 hstep hpos;have HC:Hid (Calls Tryz.prog 145 #[.agg #[.int .i64 kd, .int .i64 nn, .slice B' nb cb', .slice L' nl cl']] wr (BU .u8 5 et wr)):=aa wI;obtain⟨i0',i1',i2',i3'⟩:=(h4.below hbw).get;have HST:=aa hstep;obtain⟨m,hm⟩:∃m,et.length=m:=⟨_,rfl⟩;obtain⟨N,hN⟩:∃N,(3::wR (n:Int)++gz (l.take k)).length=N:=⟨_,rfl⟩;rw[hm]at hle2 hpos;rw[hN]at hle2;have HM:=aa hm;have Rh:=aa hN;clear hkl h4 hbw hic wI het hstep hm hN
   go_wp2_with fail
   refine HC.out.mono ?_;rintro e w5 ⟨v5,rfl,ho5,hb5⟩;obtain⟨g5,cap5,e5,hg5,-,-,Eu⟩:=ho5.cells (by rw[HM.out];exact hpos);rw[HM.out]at e5;subst e5;have yY:=aa (HOk.out.keep hb5);have l9:=aa (ag aD.out hb5);have Nb:=aa Eu;have hrow:=yY.out.row Rh.out;have hz5:=l9.out.size;clear Eu ho5 hb5 HC i0' i1' i2' i3' c0 c1 c2 c3 HOk
   go_wp2_with (at_builtin;refine wpList_append_own _ rfl _ _ 114 rfl (W.heap.size) 5 i0 (.int .u8 0) 1 1 Tryz.underlying114 hi hz0 hz1 hz2 rfl (by decide) (u3) (N) ((3::wR (n:Int)++gz (l.take k)).map (.int .u8)) rfl (hrow) ⟨g5,0,none⟩ m cap5 (et.map (.int .u8)) rfl (by simp[HM.out]) (Nb.out.news) (ints_oneCell .u8 _) (by unfold maxLen;omega) (by omega) (by omega) ?_;intro v6 w6 hown6 Pp _)
   have Fs:Hid (aV .u8 5 w6 W.heap.size v6 (3::wR (n:Int)++gz (l.take (k+1)))):=aa (by
    rw[HST.out,←List.append_assoc]
    exact aV.app Rh.out.symm HM.out.symm hown6)
   have oM:Hid (Below W.heap.size W w6):=aa (yY.out.below0 l9.out hz5 Pp);clear hown6 Pp hrow yY l9 Nb
   go_roundw
   case rel=>exact⟨k+1,by omega,by go_num,Fs,oM⟩
   case measure=>simp[intOf];omega
  ·
   have Zm:Hid (aV .u8 5 wr W.heap.size u3 (enc (.lst l))):=aa (by
    have h:=HOk.out;rw[show k=l.length by rw[hn.out];omega,List.take_length]at h;rw[fV,hn.out]
    exact h)
   have hbf:=ag cu.out aD.out;clear HOk;go_wp2;go_ret;exact⟨_,rfl,Zm.out.mono hle,hbf⟩
theorem xx:∀(d:Nat) (i:It) (c:Ic) (w:World),fits d i→pV w i c→(enc i).length≤16384→Calls Tryz.prog 145 #[c.val] w (BU .u8 5 (enc i) w):=by
 intro d
 induction d with
 | zero=>
  intro i c w hf hr hl;obtain⟨kd,nn,B,nb,cb,L,nl,cl⟩:=c
  cases hr with
  | int n _ h1 h2 h3 h4=>
   dsimp only at h1 h2 h3 h4
   subst h1;subst h2;subst h3;subst h4;exact F7 nn hf.1 hf.2 B cb L cl w
  | byt b _ h1 h2 h3 h4 h5=>
   dsimp only at h1 h2 h3 h4 h5
   subst h1;subst h2;subst h4;subst h3;obtain⟨b',o',rfl,_⟩:=h5.at0 hf.1.1;exact F8 b b.length (aa rfl) hf.1.1 hf.1.2 b' o' cb L cl w (aa h5)
  | lst l _ h1 h2 h3 h4 f h5 h6=>exact absurd hf (by simp[fits])
 | succ d ih=>
  intro i c w hf hr hl;obtain⟨kd,nn,B,nb,cb,L,nl,cl⟩:=c
  cases hr with
  | int n _ h1 h2 h3 h4=>
   dsimp only at h1 h2 h3 h4
   subst h1;subst h2;subst h3;subst h4;exact F7 nn hf.1 hf.2 B cb L cl w
  | byt b _ h1 h2 h3 h4 h5=>
   dsimp only at h1 h2 h3 h4 h5
   subst h1;subst h2;subst h4;subst h3;obtain⟨b',o',rfl,_⟩:=h5.at0 hf.1.1;exact F8 b b.length (aa rfl) hf.1.1 hf.1.2 b' o' cb L cl w (aa h5)
  | lst l _ h1 h2 h3 h4 f h5 h6=>
   dsimp only at h1 h2 h3 h4 h5
   subst h1;subst h2;subst h3;subst h4;refine Oh l l.length (aa rfl) hf.1 f B cb L cl w (aa h5) (aa hl) ?_;intro k hk u hu;refine ih _ (f k) u (hf.2 _ (by rw[List.getD_eq_getElem?_getD,List.getElem?_eq_getElem hk];exact List.getElem_mem hk)) ((h6 k hk).kept hu) ?_;have t1:=qP hk;have t2:=rR (l:=l) (k:=k+1);rw[t1,List.length_append]at t2;rw[fV,List.length_cons,List.length_append,eX]at hl
   omega
def nH (x:Int):Bool:=decide (x<33) || decide (126<x)
def iQ (l:List Int):Bool:=decide (1≤l.length)&&decide (l.length≤24) && !(l.any nH)
theorem Hy (x:Int)(w:World):Calls Tryz.prog 271 #[.int .u8 x] w fun e w'=>e = .returned (.bool (nH x))∧w=w':=by
 by_cases h1:x<33
 ·
  have e:nH x=true:=by simp[nH,h1]
  have d1:decide (x<33)=true:=by simp[h1]
  rw[e];clear e;go_in;go_wp2;go_ret;exact⟨rfl,rfl⟩
 ·
  have d1:decide (x<33)=false:=by simp[h1]
  have e:nH x=decide (126<x):=by simp[nH,h1]
  rw[e];clear e;go_in;go_wp2;go_ret;exact⟨rfl,rfl⟩
theorem SY (A:Option Addr)(xs:List Int)(n c:Nat)(hn:Hid (xs.length=n))(hbig:n≤100000)(w:World)(hs:Hid (Sk .u8 w A xs)) :
  Calls Tryz.prog 273 #[.slice A n c, .func (.func 271) #[] #[]] w (ER nH xs w):=by
 go_in;go_wp2
 go_loopw [8] (fun i wr=>∃k:Nat,k≤n∧i = .int .i64 k∧Hid (xs.any nH=(xs.drop k).any nH)∧Hid (Below w.heap.size w wr)) (fun i _=>n-(intOf i).toNat)
 case atStart=>exact⟨0,by omega,rfl,aa rfl,aa (Below.refl _ _)⟩
 case round=>
  obtain⟨k,hk,rfl,HR,aD⟩:=hrel
  by_cases hlt:k<n
  ·
   have hkl:k<xs.length:=by rw[hn.out];exact hlt
   obtain⟨b,o,hA,hi⟩:=(hs.out.below aD.out) k hkl;subst hA
   cases hpx:nH (xs.getD k 0)with
   | false=>
    have HN:Hid (xs.any nH=(xs.drop (k+1)).any nH):=aa (HR.out.trans (ko hkl hpx));obtain⟨x,hx⟩:∃x,xs.getD k 0=x:=⟨_,rfl⟩;rw[hx]at hi hpx;have BX:=aa hpx;clear hx hkl hpx HR
    go_wp2_with fail
    refine(Hy x _).mono ?_;rintro e w2 ⟨rfl,rfl⟩;rw[BX.out];go_wp2
    go_roundw
    case rel=>exact⟨k+1,by omega,by go_num,HN,aD⟩
    case measure=>simp[intOf];omega
   | true=>
    have HN:Hid (xs.any nH=true):=aa (HR.out.trans (jP hkl hpx));obtain⟨x,hx⟩:∃x,xs.getD k 0=x:=⟨_,rfl⟩;rw[hx]at hi hpx;have BX:=aa hpx;clear hx hkl hpx HR
    go_wp2_with fail
    refine(Hy x _).mono ?_;rintro e w2 ⟨rfl,rfl⟩;rw[BX.out];go_wp2;go_ret;exact⟨_,rfl,by rw[HN.out];simp,aD.out⟩
  ·
   have HN:Hid (xs.any nH=false):=aa (by
    have h:=HR.out
    rwa [List.drop_of_length_le (by have:=hn.out;omega)]at h)
   clear HR;go_wp2;go_ret;exact⟨_,rfl,by rw[HN.out];rfl,aD.out⟩
theorem XB (A:Option Addr)(xs:List Int)(n c:Nat)(r:Bool)(hr:Hid (xs.any nH=r))(hn:Hid (xs.length=n))(hbig:n≤100000)(w:World)(hs:Hid (Sk .u8 w A xs)) :
  Calls Tryz.prog 270 #[.slice A n c, .func (.func 271) #[] #[]] w (Rt w (.bool r)):=by
 go_in
 go_wp2_with fail
 refine(SY A xs n c hn hbig _ hs).mono ?_;rintro e w' ⟨i,rfl,hdi,hb0⟩;have HD:Hid (decide (0≤i)=r):=aa (hdi.trans hr.out);clear hdi;go_wp2;go_ret;exact⟨by first | rfl | (rw[←HD.out];rfl),hb0⟩
theorem ry (s:ByteArray)(hs:s.size≤1000)(r:Bool)(hr:Hid (iQ (bq s)=r))(w:World) :
  Calls Tryz.prog 260 #[.string s] w (Rt w (.bool r)):=by
 by_cases h1:s.size<1
 ·
  have e:r=false:=by rw[←hr.out,iQ,bP,decide_eq_false (by omega)];rfl
  have d1:decide ((1:Int)≤(s.size:Int))=false:=by simp;omega
  subst e;clear hr;go_in;go_wp2;go_ret;exact⟨rfl,Below.refl _ _⟩
 ·
  have d1:decide ((1:Int)≤(s.size:Int))=true:=by simp;omega
  by_cases h2:24<s.size
  ·
   have e:r=false:=by rw[←hr.out,iQ,bP,decide_eq_false (show ¬s.size≤24 by omega)];simp
   have d2:decide ((s.size:Int)≤24)=false:=by simp;omega
   subst e;clear hr;go_in;go_wp2;go_ret;exact⟨rfl,Below.refl _ _⟩
  ·
   have d2:decide ((s.size:Int)≤24)=true:=by simp;omega
   obtain⟨q,hq⟩:∃q,(bq s).any nH=q:=⟨_,rfl⟩;have e:r = !q:=by rw[←hr.out,iQ,bP,decide_eq_true (by omega),decide_eq_true (by omega),hq];rfl
   subst e;have HQ:=aa hq;have hcv:=fun w=>run_bytes_of_string (P:=Tryz.prog) w 9 114 5 s Tryz.underlying9 Tryz.underlying114 Tryz.underlying5;clear hr hq;go_in
   go_wp2_with fail
   clear hcv;obtain⟨Wc,hWc⟩:∃u,(w.alloc (.cells (bytesRow s (grownCap w s.size 0 5)) 5 ((bytesRow s (grownCap w s.size 0 5)).size,(bytesRow s (grownCap w s.size 0 5)).size+1))).drew=u:=⟨_,rfl⟩;have uC:Hid (Below w.heap.size w Wc):=aa (by rw[←hWc];exact(af _ _).drew)
   have HSc:Hid (Sk .u8 Wc (some ⟨w.heap.size,0,none⟩) (bq s)):=aa (by
    rw[←hWc]
    exact nN (heap_alloc_new w _))
   obtain⟨gc,hgc⟩:∃g,grownCap w s.size 0 5=g:=⟨_,rfl⟩;rw[hWc,hgc];clear hWc hgc;refine(XB (some ⟨w.heap.size,0,none⟩) (bq s) s.size gc q HQ (aa (bP s)) (by omega) _ HSc).mono ?_;rintro e w2 ⟨rfl,hb2⟩;have hbf:=ag uC.out hb2;clear hb2;go_wp2;go_ret;exact⟨by first | rfl | simp,hbf⟩
theorem TK {s:ByteArray} {k:Nat} (h:k<s.size):(bq s).getD k 0=((s[k]'h).toNat:Int):=by
 have h2:k<s.data.toList.length:=by simpa using h
 rw[bq,List.getD_eq_getElem?_getD,List.getElem?_map,List.getElem?_eq_getElem h2]
 rfl
theorem rE (s:ByteArray)(hs:s.size≤1000)(r:Bool)(hr:Hid (iQ (bq s)=r))(w:World) :
  Calls Tryz.prog 206 #[.string s] w fun e w'=>e = .returned (.bool r)∧w=w':=by
 by_cases h1:s.size<1
 ·
  have e:r=false:=by rw[←hr.out,iQ,bP,decide_eq_false (by omega)];rfl
  have d1:decide ((s.size:Int)<1)=true:=by simp;omega
  subst e;clear hr;go_in;go_wp2;go_ret;exact⟨rfl,rfl⟩
 ·
  have d1:decide ((s.size:Int)<1)=false:=by simp;omega
  by_cases h2:24<s.size
  ·
   have e:r=false:=by rw[←hr.out,iQ,bP,decide_eq_false (show ¬s.size≤24 by omega)];simp
   have d2:decide ((24:Int)<(s.size:Int))=true:=by simp;omega
   subst e;clear hr;go_in;go_wp2;go_ret;exact⟨rfl,rfl⟩
  ·
   have d2:decide ((24:Int)<(s.size:Int))=false:=by simp;omega
   have HE:Hid (r = !((bq s).any nH)):=aa (by rw[←hr.out,iQ,bP,decide_eq_true (by omega),decide_eq_true (by omega)];rfl);clear hr;go_in;go_wp2
   go_loop [3] (fun i=>∃k:Nat,k≤s.size∧i = .int .i64 k∧Hid ((bq s).any nH=((bq s).drop k).any nH)) (fun i=>s.size-(intOf i).toNat)
   case atStart=>exact⟨0,by omega,rfl,aa rfl⟩
   case round=>
    obtain⟨k,hk,rfl,HR⟩:=hrel
    by_cases hlt:k<s.size
    ·
     have hkl:k<(bq s).length:=by rw[bP];exact hlt
     have hg:=TK hlt
     by_cases t1:((s[k]'hlt).toNat:Int)<33
     ·
      have hN:(bq s).any nH=true:=HR.out.trans (jP hkl (by rw[hg];simp[nH,t1]));have e:r=false:=by rw[HE.out,hN];rfl
      have d3:decide (((s[k]'hlt).toNat:Int)<33)=true:=by simp[t1]
      subst e;clear hN hg hkl HR HE;go_wp2;go_ret;exact⟨rfl,rfl⟩
     ·
      have d3:decide (((s[k]'hlt).toNat:Int)<33)=false:=by simp[t1]
      by_cases t2:(126:Int)<((s[k]'hlt).toNat:Int)
      ·
       have hN:(bq s).any nH=true:=HR.out.trans (jP hkl (by rw[hg];simp[nH,t1,t2]));have e:r=false:=by rw[HE.out,hN];rfl
       have d4:decide ((126:Int)<((s[k]'hlt).toNat:Int))=true:=by simp[t2]
       subst e;clear hN hg hkl HR HE;go_wp2;go_ret;exact⟨rfl,rfl⟩
      ·
       have HN:Hid ((bq s).any nH=((bq s).drop (k+1)).any nH):=aa (HR.out.trans (ko hkl (by rw[hg];simp[nH,t1,t2])));have d4:decide ((126:Int)<((s[k]'hlt).toNat:Int))=false:=by simp[t2]
       clear hg hkl HR;go_wp2
       go_round
       case rel=>exact⟨k+1,by omega,by go_num,HN⟩
       case measure=>simp[intOf];omega
    ·
     have e:r=true:=by
      rw[HE.out,HR.out,List.drop_of_length_le (by rw[bP];omega)];rfl
     subst e;clear HR HE;go_wp2;go_ret;exact⟨rfl,rfl⟩
theorem Kl:(Tryz.prog.info? 209).map (fun i=>(i.zero,i.size,i.bytes))=some (some (.int .u32 0),1,4):=by kernel_rfl
theorem IX (b o cap:Nat)(blk:List Int)(hlen:Hid (blk.length=64))(hby:Hid (aF blk=true))(w:World)(hs:Hid (Sk .u8 w (some ⟨b,o,none⟩) blk))(hcap:64≤cap) :
  Calls Tryz.prog 213 #[.slice (some ⟨b,o,none⟩) 64 cap] w (BU .u32 209 (dY blk) w):=by
 obtain⟨i0,hi,hz0,hz1,hz2⟩:=info_parts Kl;go_in;go_wp2
 go_loopw [3,4] (fun v i u=>∃k:Nat,k≤16∧i = .int .i64 k∧Hid (aV .u32 209 u w.heap.size v (dO blk k))∧Hid (Below w.heap.size w u)) (fun _ i _=>16-(intOf i).toNat)
 case atStart=>exact⟨0,by omega,rfl,aa (tT _ _),aa (Below.refl _ _)⟩
 case round=>
  obtain⟨k,hk,rfl,HO,aD⟩:=hrel
  by_cases hlt:k<16
  ·
   go_wp2
   go_loopw [5,6] (fun p j u=>∃(m:Nat) (x:Int),m≤4∧j = .int .i64 m∧p = .int .u32 x∧Hid (part blk k m=x)∧0≤x∧Hid (aV .u32 209 u w.heap.size u3 (dO blk k))∧Hid (Below w.heap.size w u)) (fun _ j _=>4-(intOf j).toNat)
   case atStart=>exact⟨0,0,by omega,rfl,rfl,aa rfl,by omega,HO,aD⟩
   case round=>
    obtain⟨m,x,hm,rfl,rfl,HX,x0,HOm,oJ⟩:=hrel
    by_cases hlm:m<4
    ·
     have hc1:=(hs.out.below oJ.out).cell (j:=4*k+m) (by have:=hlen.out;omega);obtain⟨c0,c1⟩:=jH hby.out (4*k+m);have hpn:part blk k (m+1)=part blk k m*256+blk.getD (4*k+m) 0:=rfl;have x1:=Kw hby.out k m (by omega);rw[HX.out]at hpn x1;obtain⟨c,hcc⟩:∃c,blk.getD (4*k+m) 0=c:=⟨_,rfl⟩;rw[hcc]at hc1 c0 c1 hpn;have Cn:=aa hpn;have j2:(4*(k:Int)+m).toNat=4*k+m:=by omega
     clear hcc hpn;go_wp2
     go_roundw
     case rel=>exact⟨m+1,_,by omega,by go_num,rfl,Cn,by omega,HOm,oJ⟩
     case measure=>simp[intOf];omega
    ·
     have HW1:Hid (dO blk (k+1)=dO blk k ++ [x]):=aa (by rw[zb,←UF,←HX.out,show m=4 by omega]);have tC:Hid ((dO blk k).length=k):=aa (gu _ _);have hown:=HOm.out.row tC.out;have hbs:=oJ.out.size;clear HX
     go_wp2_with (at_builtin;refine wpList_append_own _ rfl _ _ 176 rfl w.heap.size 209 i0 (.int .u32 0) 1 4 Tryz.underlying176 hi hz0 hz1 hz2 rfl (by decide) _ _ _ rfl (hown.alloc _) ⟨wr.heap.size,0,none⟩ 1 1 [.int .u32 x] rfl rfl (cell_one_new _ _ _) (ints_oneCell .u32 [x]) (by unfold maxLen;omega) (by omega) (by simp;omega) ?_;intro v2 w2 hown2 hgrow2 _)
     have om:Hid (aV .u32 209 w2 w.heap.size v2 (dO blk (k+1))):=aa (by
      rw[HW1.out]
      exact aV.app tC.out.symm rfl hown2)
     have sj:Hid (Below w.heap.size w w2):=aa (HOm.out.below oJ.out hbs hgrow2);clear hown hown2 hgrow2 HOm
     go_roundw
     case rel=>exact⟨k+1,by omega,by go_num,om,sj⟩
     case measure=>simp[intOf];omega
  ·
   obtain rfl:k=16:=by omega
   obtain⟨g1,uq,e1,hg1,_,_,_⟩:=HO.out.cells (by rw[gu];decide);rw[gu]at e1;subst e1;have afp:Hid (aV .u32 209 wr w.heap.size (.slice (some ⟨g1,0,none⟩) 16 uq) (oN (16-16) (dO blk 16))):=aa (by rw[show 16-16=0 from rfl,oN];exact HO.out);clear HO hlt;go_wp2;rw[show(((16:Nat):Int))=16 from rfl]
   go_loopw [3,7] (fun v i u=>∃(t g cp:Nat),16≤t∧t≤64∧i = .int .i64 t∧v = .slice (some ⟨g,0,none⟩) t cp∧Hid (aV .u32 209 u w.heap.size v (oN (t-16) (dO blk 16)))∧Hid (Below w.heap.size w u)) (fun _ i _=>64-(intOf i).toNat)
   case atStart=>exact⟨16,g1,uq,by omega,by omega,rfl,rfl,afp,aD⟩
   case round=>
    obtain⟨t,g,cp,ht0,ht,rfl,rfl,HO,oJ⟩:=hrel
    by_cases hlt:t<64
    ·
     obtain⟨L,hL⟩:∃L,oN (t-16) (dO blk 16)=L:=⟨_,rfl⟩;have hLn:L.length=t:=by rw[←hL,AQ,gu];omega
     rw[hL]at HO;have hsk:=HO.out.skAt (by omega);have Xk:=hsk.cell (j:=t-15) (by omega);have h2:=hsk.cell (j:=t-2) (by omega);have h16:=hsk.cell (j:=t-16) (by omega);have h7:=hsk.cell (j:=t-7) (by omega);have ais:=hsk.lt (by omega);rw[Nat.zero_add]at Xk h2 h16 h7
     have hnx:oN (t+1-16) (dO blk 16)=L ++ [add32 (add32 (add32 (L.getD (t-16) 0) (Vz (L.getD (t-15) 0))) (L.getD (t-7) 0)) (Vy (L.getD (t-2) 0))]:=by
      rw[show t+1-16=(t-16)+1 by omega,oN,hL,Np,hLn]
     obtain⟨Lu,e15⟩:∃x,L.getD (t-15) 0=x:=⟨_,rfl⟩;obtain⟨x2,e2⟩:∃x,L.getD (t-2) 0=x:=⟨_,rfl⟩;obtain⟨YW,e16⟩:∃x,L.getD (t-16) 0=x:=⟨_,rfl⟩;obtain⟨x7,e7⟩:∃x,L.getD (t-7) 0=x:=⟨_,rfl⟩;rw[e15]at Xk hnx;rw[e2]at h2 hnx;rw[e16]at h16 hnx;rw[e7]at h7 hnx;have IC:=aa hnx;have tC:=aa hLn;have H16:=aa h16;have H7:=aa h7;have i15:((t:Int)-15).toNat=t-15:=by omega
     have i2:((t:Int)-2).toNat=t-2:=by omega
     have i16:((t:Int)-16).toNat=t-16:=by omega
     have i7:((t:Int)-7).toNat=t-7:=by omega
     have j15:(0:Int)≤(t:Int)-15:=by omega
     have j2:(0:Int)≤(t:Int)-2:=by omega
     have j16:(0:Int)≤(t:Int)-16:=by omega
     have j7:(0:Int)≤(t:Int)-7:=by omega
     clear hnx e15 e2 e16 e7 hL hLn hsk h16 h7;go_wp2
     go_quiet (fail)
     have qC:=aa (aI (Below.refl wr.heap.size wr) nq);obtain⟨w2,hw2⟩:∃u,wr.drewN nq=u:=⟨_,rfl⟩;rw[hw2]at qC ⊢;clear hw2 Xk h2
     go_wp2_with fail
     refine(qH Lu 7 7 rfl (by decide) (by decide) _).mono ?_;rintro e w3 ⟨rfl,nk,rfl⟩;have wM:=aa (aI qC.out nk);obtain⟨w3,hw3⟩:∃u,w2.drewN nk=u:=⟨_,rfl⟩;rw[hw3]at wM ⊢;clear hw3 qC;have qC:=wM;clear wM;obtain⟨w2,hw2⟩:∃u,w3=u:=⟨_,rfl⟩;rw[hw2]at qC ⊢;clear hw2
     go_wp2_with fail
     refine(qH Lu 18 18 rfl (by decide) (by decide) _).mono ?_;rintro e w3 ⟨rfl,nk,rfl⟩;have wM:=aa (aI qC.out nk);obtain⟨w3,hw3⟩:∃u,w2.drewN nk=u:=⟨_,rfl⟩;rw[hw3]at wM ⊢;clear hw3 qC;have qC:=wM;clear wM;obtain⟨w2,hw2⟩:∃u,w3=u:=⟨_,rfl⟩;rw[hw2]at qC ⊢;clear hw2
     go_wp2_with fail
     refine(qH x2 17 17 rfl (by decide) (by decide) _).mono ?_;rintro e w3 ⟨rfl,nk,rfl⟩;have wM:=aa (aI qC.out nk);obtain⟨w3,hw3⟩:∃u,w2.drewN nk=u:=⟨_,rfl⟩;rw[hw3]at wM ⊢;clear hw3 qC;have qC:=wM;clear wM;obtain⟨w2,hw2⟩:∃u,w3=u:=⟨_,rfl⟩;rw[hw2]at qC ⊢;clear hw2
     go_wp2_with fail
     refine(qH x2 19 19 rfl (by decide) (by decide) _).mono ?_;rintro e w3 ⟨rfl,nk,rfl⟩;have wM:=aa (aI qC.out nk);obtain⟨w3,hw3⟩:∃u,w2.drewN nk=u:=⟨_,rfl⟩;rw[hw3]at wM ⊢;clear hw3 qC;have qC:=wM;clear wM;obtain⟨w2,hw2⟩:∃u,w3=u:=⟨_,rfl⟩;rw[hw2]at qC ⊢;clear hw2;obtain⟨r7,WK⟩:∃r,jo Lu 7=r:=⟨_,rfl⟩;obtain⟨r18,Jo⟩:∃r,jo Lu 18=r:=⟨_,rfl⟩;obtain⟨r17,Jp⟩:∃r,jo x2 17=r:=⟨_,rfl⟩;obtain⟨r19,Jn⟩:∃r,jo x2 19=r:=⟨_,rfl⟩;rw[WK,Jo,Jp,Jn];obtain⟨s0,hs0⟩:∃r,bits .xor .u32 (bits .xor .u32 r7 r18) (Lu / 8)=r:=⟨_,rfl⟩;obtain⟨s1,hs1⟩:∃r,bits .xor .u32 (bits .xor .u32 r17 r19) (x2 / 1024)=r:=⟨_,rfl⟩;have ES0:Hid (Vz Lu=s0):=aa (by rw[Vz,WK,Jo,hs0]);have ES1:Hid (Vy x2=s1):=aa (by rw[Vy,Jp,Jn,hs1]);clear WK Jo Jp Jn;go_wp2;clear hs0 hs1;obtain⟨V,hV⟩:∃V,IntKind.u32.wrap (IntKind.u32.wrap (IntKind.u32.wrap (YW+s0)+x7)+s1)=V:=⟨_,rfl⟩;have HV:=aa hV
     have HN:Hid (oN (t+1-16) (dO blk 16)=L ++ [V]):=aa (by
      rw[IC.out,ES0.out,ES1.out,←hV]
      rfl)
     have Aq:=aa ((HO.out.keep qC.out));have l5:=aa (ag oJ.out qC.out);have Ap:Hid (w2.cell? ⟨g,t-16,none⟩=some (.int .u32 YW)∧w2.cell? ⟨g,t-7,none⟩=some (.int .u32 x7)):=aa ⟨cell_below H16.out qC.out,cell_below H7.out qC.out⟩;have q16:IntKind.i64.wrap ((t:Int)-16)=(t:Int)-16:=IntWalk.i64_in _ (by omega);have q7:IntKind.i64.wrap ((t:Int)-7)=(t:Int)-7:=IntWalk.i64_in _ (by omega);have k16:(16:Int)≤(t:Int):=by omega
     have k7:(7:Int)≤(t:Int):=by omega
     have l16:(t:Int)-16<(t:Int):=by omega
     have l7:(t:Int)-7<(t:Int):=by omega
     clear hV HO oJ H16 H7 IC ES0 ES1;refine bV (S:=fun w'=>w'.cell? ⟨g,t-16,none⟩=some (.int .u32 YW)∧w'.cell? ⟨g,t-7,none⟩=some (.int .u32 x7)) (E:= [17,18]) (by kernel_rfl) (⟨cell_below Ap.out.1 (Below.refl _ _).drew,cell_below Ap.out.2 (Below.refl _ _).drew⟩) (fun hHeld=>?_);refine b_ 0 ?_;refine b_ 1 ?_;refine b_ 2 ?_;refine b_ 3 ?_;refine b_ 4 ?_;refine b_ 5 ?_;refine b_ 6 ?_;refine b_ 7 ?_;refine b_ 8 ?_;refine b_ 9 ?_;refine b_ 10 ?_;refine b_ 11 ?_;refine b_ 12 ?_;refine b_ 13 ?_;refine b_ 14 ?_;refine b_ 15 ?_;refine dh 16 fun K hK=>?_;go_simp;refine hK.out _ _ ?_ (fun hHeld=>?_)
     ·
      rw[HV.out];exact⟨cell_below Ap.out.1 (af _ _).drew,cell_below Ap.out.2 (af _ _).drew⟩
     clear hK K
     try simp only[qq]
     refine oz 17 fun K hK=>?_
     try rw[HV.out]
     have Pg:=(Aq.out.keep ((af w2 (.cells #[.int .u32 V] 209)).drew)).row tC.out;have hbs:=l5.out.size;refine step_append_lies _ (by rfl) _ _ _ (by rfl) (w.heap.size) 209 i0 _ 1 4 Tryz.underlying176 hi hz0 hz1 hz2 rfl (by omega) (.slice (some ⟨g,0,none⟩) t cp) t (L.map (.int .u32)) (by rfl) Pg ⟨w2.heap.size,0,none⟩ 1 1 [.int .u32 V] (by rfl) (by rfl) (World.news_of_block (cs:=#[.int .u32 V]) (t:=209) (fr:=(0,0)) (heap_alloc_new w2 _)) (by simp[Value.oneCell']) (by omega) (by unfold maxLen;omega) (by omega) (by simp;omega) (w2.heap.size+1) (by simp) ?_;intro g5 cap5 w5 hown5 rM Xb WR;refine hK.out _ _ ?_;clear hK K
     try simp only[qq]
     refine oz 18 fun K hK=>?_;go_simp;refine hK.out _ _ ?_;clear hK K
     try simp only[qq]
     refine gM ?_
     have yY:Hid (aV .u32 209 w5 w.heap.size (.slice (some ⟨g5,0,none⟩) (t+1) cap5) (oN (t+1-16) (dO blk 16))):=aa (by
      rw[HN.out]
      exact aV.app tC.out.symm rfl hown5)
     have l9:Hid (Below w.heap.size w w5):=aa (Below.grown (ag l5.out (af _ _).drew) rM (by have:=l5.out.size;simp;omega) (fun j hj=>(World.ownsRow.lt Pg j hj).1));clear hown5 rM Pg Aq HN Xb WR Ap;go_wp2
     go_roundw
     case rel=>exact⟨t+1,g5,cap5,by omega,by omega,by go_num,rfl,yY,l9⟩
     case measure=>simp[intOf];omega
    ·
     have HOf:Hid (aV .u32 209 wr w.heap.size (.slice (some ⟨g,0,none⟩) t cp) (dY blk)):=aa (by
      have h:=HO.out
      rwa [show t-16=48 by omega,show oN 48 (dO blk 16)=dY blk from rfl]at h)
     clear HO;go_wp2;go_ret;exact⟨_,rfl,HOf.out,oJ.out⟩
theorem Sk.set_ne {K:IntKind} {w:World} {a j:Nat} {A:Option Addr} {l:List Int} {v:Value} (h:Sk K w A l)(hne:∀b o,A=some ⟨b,o,none⟩→b≠a):Sk K (w.setCell ⟨a,j,none⟩ v) A l:=fun i hi=>by
 obtain⟨b,o,e,hc⟩:=h i hi;refine⟨b,o,e, ?_⟩;rw[World.cell?_setCell_other _ _ _ _ (fun e2=>hne b o e (by cases e2;rfl))];exact hc
theorem Ou (s:St)(i:Nat)(hi:i<32):(o_ s).getD i 0=s.list.getD (i / 4) 0 / 2 ^ (24-8*(i%4))%256:=by
 have h:=Kz s (i / 4) (by omega) (i%4) (by omega)
 rwa [show 4*(i / 4)+i%4=i by omega]at h
theorem VB (e:Int):bits .xor .u32 (bits .xor .u32 (jo e 2) (jo e 13)) (jo e 22)=sbA e:=rfl
theorem Wn (a b c:Int):bits .xor .u32 (bits .xor .u32 (bits .and .u32 a b) (bits .and .u32 a c)) (bits .and .u32 b c)=maA a b c:=rfl
theorem ZM (a b c:Int):(sbA a+maA a b c)%4294967296=ZL a b c:=rfl
theorem F3 (b o c:Nat)(l:List Int)(n:Nat)(hn:Hid (l.length=n))(hn0:0<n)(hbig:n≤1000000)(hby:Hid (aF l=true))(w:World)(hs:Hid (Sk .u8 w (some ⟨b,o,none⟩) l)) :
  Calls Tryz.prog 180 #[.slice (some ⟨b,o,none⟩) n c] w (Rt w (.agg (arr .u8 (rA l)))):=by
 obtain⟨i0,hi,hz0,hz1,hz2⟩:=info_parts Kl;obtain⟨W,hW⟩:∃W,w.alloc (.cells z32 41)=W:=⟨_,rfl⟩;have cu:Hid (Below w.heap.size w W):=aa (by rw[←hW];exact af _ _)
 have fH:Hid (bS .u8 41 W w.heap.size (dL 32)):=aa (by
  rw[←hW,jR]
  exact bS.new _ _)
 have l8:Hid (W.heap.size=w.heap.size+1):=aa (by rw[←hW];simp);obtain⟨W1,hW1⟩:∃u,W.alloc (.cells #[.int .u32 1779033703, .int .u32 3144134277, .int .u32 1013904242, .int .u32 2773480762, .int .u32 1359893119, .int .u32 2600822924, .int .u32 528734635, .int .u32 1541459225] 209)=u:=⟨_,rfl⟩;have HB1:Hid (Below W.heap.size W W1):=aa (by rw[←hW1];exact af _ _)
 have HH1:Hid (bS .u32 209 W1 W.heap.size st0.list):=aa (by
  rw[←hW1]
  exact bS.new W st0.list)
 have abE:Hid (W1.heap.size=W.heap.size+1):=aa (by rw[←hW1];simp);have HS:=aa ((hs.out.below cu.out).below HB1.out);have HW:=aa hW;have HW1:=aa hW1;clear hW hW1 hs;go_in
 go_wp2_with fail
 rw[HW.out,HW1.out];refine(I1 _).mono ?_;rintro e w2 ⟨rfl,hw2⟩;have HB2:Hid (Below W1.heap.size W1 w2):=aa (by rw[←hw2];exact af _ _);have HK2:Hid (bS .u32 209 w2 W1.heap.size KL):=aa (by rw[←hw2];exact bS.new _ _);have abD:Hid (w2.heap.size=W1.heap.size+1):=aa (by rw[←hw2];simp);clear hw2 HW HW1
 go_wp2_with fail
 refine(F4 b o c l n hn hn0 hbig _ (aa (HS.out.below HB2.out))).mono ?_;rintro e w3 ⟨vp,rfl,hop,hb3⟩;obtain⟨M,hM⟩:∃M,(pR l).length=64*M:=⟨(pR l).length / 64,by have:=Gg l;omega⟩;have hM2:64*M≤n+200:=by rw[tQ,hn.out,nK]at hM;omega
 obtain⟨gp,abh,e4,hgp,hcap,GN,WI⟩:=hop.cells (by rw[tQ];omega);rw[hM]at e4 hcap;subst e4;obtain⟨P,hP⟩:∃P,pR l=P:=⟨_,rfl⟩;have hPb:aF P=true:=by rw[←hP];exact Bn hby.out
 rw[hP]at WI hM;have HP:Kp (pR l=P):=⟨hP⟩;have HM:=aa hM;have HPB:=aa hPb;have HSP:=aa WI;have HB3:=aa hb3;have hcm:abh≤9223372036854775807:=by simpa [maxLen]using GN
 have HH3:=aa ((HH1.out.below HB2.out).below HB3.out);have HK3:=aa (HK2.out.below HB3.out);have u_:=aa (ag (ag HB1.out HB2.out) HB3.out);obtain⟨bk,hbk⟩:∃g,W1.heap.size=g:=⟨_,rfl⟩;have ad8:W.heap.size<bk:=by have:=abE.out;omega
 have air:bk<gp:=by have:=abD.out;omega
 rw[hbk]at HK3 ⊢;obtain⟨bh,hbh⟩:∃g,w.heap.size+1=g:=⟨_,rfl⟩;rw[l8.out,hbh]at HH3 ad8;rw[hbh];have HBH:Hid (W.heap.size=bh):=aa (l8.out.trans hbh);clear hP hM hPb WI hb3 hop GN hbk hbh HB1 HH1 HB2 HK2 HB3 HS;go_wp2
 go_loopw [6] (fun i u=>∃(k:Nat),k≤M∧i = .int .i64 (64*(k:Int))∧Hid (bS .u32 209 u bh (mW P k).list)∧Hid (bS .u32 209 u bk KL)∧Hid (Sk .u8 u (some ⟨gp,0,none⟩) P)∧Hid (Below W.heap.size W u)) (fun i _=>64*M-(intOf i).toNat)
 case atStart=>exact⟨0,by omega,by simp,HH3,HK3,HSP,u_⟩
 case round=>
  obtain⟨k,hk,rfl,HH,HK,HSp,aD⟩:=hrel
  by_cases hkM:k<M
  ·
   obtain⟨⟨xa,xb,xc,xd,xe,xf,xg,xh⟩,hS⟩:∃T,mW P k=T:=⟨_,rfl⟩;rw[hS]at HH;have Fp:Kp (mW P k=⟨xa,xb,xc,xd,xe,xf,xg,xh⟩):=⟨hS⟩;have Ux:Hid ((gZ P k).length=64):=aa (zw (by have:=HM.out;omega));have II:Hid (aF (gZ P k)=true):=aa (vG HPB.out k)
   have HSb:Hid (Sk .u8 wr (some ⟨gp,64*k,none⟩) (gZ P k)):=aa (by
    have h:=(HSp.out.drop (n:=64*k)).take (n:=64)
    rwa [Nat.zero_add]at h)
   have c1:(64*(k:Int)).toNat=64*k:=by omega
   have c2:(64*(k:Int)+64).toNat=64*k+64:=by omega
   clear hS
   go_wp2_with fail
   refine(IX gp (64*k) (abh-64*k) (gZ P k) Ux II _ HSb (by omega)).mono ?_;rintro e w4 ⟨vw,rfl,how,hb4⟩;obtain⟨gw,ai0,rfl,hgw,-,-,WH⟩:=how.cells (by rw[kG];decide);rw[kG];obtain⟨ws,hws⟩:∃l,dY (gZ P k)=l:=⟨_,rfl⟩;have Lf:Hid (ws.length=64):=aa (by rw[←hws,kG]);have HWS:Kp (dY (gZ P k)=ws):=⟨hws⟩;rw[hws]at WH;have Ie:=aa WH;have HH4:=aa (HH.out.below hb4);have HK4:=aa (HK.out.below hb4);have abA:=aa (HSp.out.below hb4);have l5:=aa (ag aD.out hb4);have hbz:bh<w4.heap.size:=HH4.out.lt;clear hws WH how hb4 HH HK HSp aD HSb Ux II;have hown:(w4.alloc (.cells #[] 209)).ownsRow w4.heap.size 209 1 (.slice (some ⟨w4.heap.size,0,none⟩) 0 0) 0 []:=o7 (K:= .u32) w4
   go_wp2_with (at_builtin;refine wpList_append_own _ rfl _ _ 176 rfl w4.heap.size 209 i0 (.int .u32 0) 1 4 Tryz.underlying176 hi hz0 hz1 hz2 rfl (by decide) _ _ _ rfl hown ⟨bh,0,none⟩ 8 8 ((St.mk xa xb xc xd xe xf xg xh).list.map (.int .u32)) rfl rfl ((HH4.out.old (.cells #[] 209)).sk.news) (ints_oneCell .u32 _) (by decide) (by decide) (by simp) ?_;intro v5 w5 hown5 rM _)
   have yY:Hid (aV .u32 209 w5 w4.heap.size v5 (St.mk xa xb xc xd xe xf xg xh).list):=aa (aV.app (xs:= []) (ys:=(St.mk xa xb xc xd xe xf xg xh).list) (m:=8) rfl rfl hown5);have M5:Hid (Below w4.heap.size w4 w5):=aa ((af w4 (.cells #[] 209)).grown rM (by simp) (fun j hj=>by cases hj;exact Nat.le_refl _));have HH5:=aa (HH4.out.keepB hbz M5.out);have MV:=aa (HK4.out.below M5.out);have abz:=aa (abA.out.below M5.out);have abG:=aa (Ie.out.below M5.out);have l9:=aa (ag l5.out M5.out);obtain⟨g5,cap5,e5,hg5,-,-,Eu⟩:=yY.out.cells (show 0<8 by decide);have e6:v5 = .slice (some ⟨g5,0,none⟩) 8 cap5:=e5;have ae2:=aa Eu;have ad2:bh<g5:=by omega
   clear hown hown5 rM yY HH4 HK4 abA l5 M5 Ie e5 Eu;subst e6
   go_loopw [8,9] (fun v i u=>∃(t g cp:Nat) (ya yb yc yd ye yf yg yh:Int),t≤64∧bh<g∧i = .int .i64 t∧v = .slice (some ⟨g,0,none⟩) 8 cp∧Hid (zB ws ⟨xa,xb,xc,xd,xe,xf,xg,xh⟩ t=⟨ya,yb,yc,yd,ye,yf,yg,yh⟩)∧Hid (Sk .u32 u (some ⟨g,0,none⟩) (St.mk ya yb yc yd ye yf yg yh).list)∧Hid (Below w5.heap.size w5 u)) (fun _ i _=>64-(intOf i).toNat)
   case atStart=>exact⟨0,g5,cap5,xa,xb,xc,xd,xe,xf,xg,xh,by omega,ad2,rfl,rfl,aa rfl,ae2,aa (Below.refl _ _)⟩
   case round=>
    obtain⟨t,g,cp,ya,yb,yc,yd,ye,yf,yg,yh,ht,hgh,rfl,rfl,HR,Rc,oJ⟩:=hrel
    by_cases hlt:t<64
    ·
     have hk0:=(MV.out.below oJ.out).cell (j:=t) (show t<64 by omega);have hk1:=(abG.out.below oJ.out).cell (j:=t) (by have:=Lf.out;omega);rw[Nat.zero_add]at hk1;have hnx:zB ws ⟨xa,xb,xc,xd,xe,xf,xg,xh⟩ (t+1)=ZO ⟨ya,yb,yc,yd,ye,yf,yg,yh⟩ (KL.getD t 0) (ws.getD t 0):=by rw[zB,HR.out]
     obtain⟨kc,ekc⟩:∃x,KL.getD t 0=x:=⟨_,rfl⟩;obtain⟨wc,ewc⟩:∃x,ws.getD t 0=x:=⟨_,rfl⟩;rw[ekc]at hk0 hnx;rw[ewc]at hk1 hnx;have IC:=aa hnx;have Ri:Hid (wr.cell? ⟨g,0+0,none⟩=some (.int .u32 ya)∧wr.cell? ⟨g,0+1,none⟩=some (.int .u32 yb)∧wr.cell? ⟨g,0+2,none⟩=some (.int .u32 yc)∧wr.cell? ⟨g,0+3,none⟩=some (.int .u32 yd)∧wr.cell? ⟨g,0+4,none⟩=some (.int .u32 ye)∧wr.cell? ⟨g,0+5,none⟩=some (.int .u32 yf)∧wr.cell? ⟨g,0+6,none⟩=some (.int .u32 yg)∧wr.cell? ⟨g,0+7,none⟩=some (.int .u32 yh)):=aa ⟨Rc.out.cell (j:=0) (show 0<8 by decide),Rc.out.cell (j:=1) (show 1<8 by decide),Rc.out.cell (j:=2) (show 2<8 by decide),Rc.out.cell (j:=3) (show 3<8 by decide),Rc.out.cell (j:=4) (show 4<8 by decide),Rc.out.cell (j:=5) (show 5<8 by decide),Rc.out.cell (j:=6) (show 6<8 by decide),Rc.out.cell (j:=7) (show 7<8 by decide)⟩;obtain⟨va,vb,vc,vd,ve,vf,vg,vh⟩:=Ri.out;have q0:IntKind.i64.wrap (t:Int)=(t:Int):=IntWalk.i64_in _ (by omega);have p64:(t:Int)<64:=by omega
     clear hnx ekc ewc Rc Ri
     go_wp2_with fail
     go_quiet ((go_at_call 214;exact Kr (Bb _ _ (by decide) (by decide) _)))
     rw[U5,NF,UD];obtain⟨X,hX⟩:∃X,VC ye yf yg yh kc wc=X:=⟨_,rfl⟩;rw[hX];have HX:=aa hX;have Ca:=aa (aI oJ.out nq);obtain⟨zN⟩:Kp ((wr.drewN nq).cell? ⟨g,0+0,none⟩=some (.int .u32 ya)∧(wr.drewN nq).cell? ⟨g,0+1,none⟩=some (.int .u32 yb)∧(wr.drewN nq).cell? ⟨g,0+2,none⟩=some (.int .u32 yc)∧(wr.drewN nq).cell? ⟨g,0+3,none⟩=some (.int .u32 yd)∧(wr.drewN nq).cell? ⟨g,0+4,none⟩=some (.int .u32 ye)∧(wr.drewN nq).cell? ⟨g,0+5,none⟩=some (.int .u32 yf)∧(wr.drewN nq).cell? ⟨g,0+6,none⟩=some (.int .u32 yg)∧(wr.drewN nq).cell? ⟨g,0+7,none⟩=some (.int .u32 yh)):=⟨⟨by simpa using va,by simpa using vb,by simpa using vc,by simpa using vd,by simpa using ve,by simpa using vf,by simpa using vg,by simpa using vh⟩⟩;obtain⟨w6,hw6⟩:∃u,wr.drewN nq=u:=⟨_,rfl⟩;rw[hw6]at Ca zN ⊢;clear hX hw6 hk0 hk1 oJ va vb vc vd ve vf vg vh;obtain⟨va,vb,vc,vd,ve,vf,vg,vh⟩:=zN
     go_wp2_with fail
     go_quiet ((go_at_call 214;exact Kr (Bb _ _ (by decide) (by decide) _)))
     rw[VB,Wn,ZM];obtain⟨Y,hY⟩:∃Y,ZL ya yb yc=Y:=⟨_,rfl⟩;rw[hY]
     have HR2:Hid (zB ws ⟨xa,xb,xc,xd,xe,xf,xg,xh⟩ (t+1)=⟨IntKind.u32.wrap (X+Y),ya,yb,yc,IntKind.u32.wrap (yd+X),ye,yf,yg⟩):=aa (by
      rw[IC.out,Oa,HX.out,hY,jI,jI])
     have M3:=aa (aI Ca.out nq);have zM:Kp ((w6.drewN nq).cell? ⟨g,0+0,none⟩=some (.int .u32 ya)∧(w6.drewN nq).cell? ⟨g,0+1,none⟩=some (.int .u32 yb)∧(w6.drewN nq).cell? ⟨g,0+2,none⟩=some (.int .u32 yc)∧(w6.drewN nq).cell? ⟨g,0+3,none⟩=some (.int .u32 yd)∧(w6.drewN nq).cell? ⟨g,0+4,none⟩=some (.int .u32 ye)∧(w6.drewN nq).cell? ⟨g,0+5,none⟩=some (.int .u32 yf)∧(w6.drewN nq).cell? ⟨g,0+6,none⟩=some (.int .u32 yg)):=⟨⟨by simpa using va,by simpa using vb,by simpa using vc,by simpa using vd,by simpa using ve,by simpa using vf,by simpa using vg⟩⟩;obtain⟨w7,hw7⟩:∃u,w6.drewN nq=u:=⟨_,rfl⟩;rw[hw7]at M3 zM ⊢;clear hY hw7 Ca va vb vc vd ve vf vg vh IC HX;obtain⟨X2,hX2⟩:∃z,IntKind.u32.wrap (X+Y)=z:=⟨_,rfl⟩;obtain⟨Y2,hY2⟩:∃z,IntKind.u32.wrap (yd+X)=z:=⟨_,rfl⟩;rw[hX2,hY2]at HR2;have Cn:=aa hX2;have QA:=aa hY2;clear hX2 hY2
     go_wp2_with fail
     refine bV (S:=fun w'=>w'.cell? ⟨g,0+0,none⟩=some (.int .u32 ya)∧w'.cell? ⟨g,0+1,none⟩=some (.int .u32 yb)∧w'.cell? ⟨g,0+2,none⟩=some (.int .u32 yc)∧w'.cell? ⟨g,0+3,none⟩=some (.int .u32 yd)∧w'.cell? ⟨g,0+4,none⟩=some (.int .u32 ye)∧w'.cell? ⟨g,0+5,none⟩=some (.int .u32 yf)∧w'.cell? ⟨g,0+6,none⟩=some (.int .u32 yg)) (E:= []) (by kernel_rfl) (⟨cell_below (zM.out.1) (Below.refl _ _).drew,cell_below (zM.out.2.1) (Below.refl _ _).drew,cell_below (zM.out.2.2.1) (Below.refl _ _).drew,cell_below (zM.out.2.2.2.1) (Below.refl _ _).drew,cell_below (zM.out.2.2.2.2.1) (Below.refl _ _).drew,cell_below (zM.out.2.2.2.2.2.1) (Below.refl _ _).drew,cell_below (zM.out.2.2.2.2.2.2) (Below.refl _ _).drew⟩) (fun hHeld=>?_);refine b_ 0 ?_;refine b_ 1 ?_;refine b_ 2 ?_;refine b_ 3 ?_;refine b_ 4 ?_;refine b_ 5 ?_;refine b_ 6 ?_;refine b_ 7 ?_;refine b_ 8 ?_;refine b_ 9 ?_;refine b_ 10 ?_;refine b_ 11 ?_;refine b_ 12 ?_;refine b_ 13 ?_;refine b_ 14 ?_;refine b_ 15 ?_;refine b_ 16 ?_;refine b_ 17 ?_;refine b_ 18 ?_;refine b_ 19 ?_;refine b_ 20 ?_;refine b_ 21 ?_;refine b_ 22 ?_;refine b_ 23 ?_;refine b_ 24 ?_;refine b_ 25 ?_;refine dh 26 fun K hK=>?_;go_simp;refine hK.out _ _ ?_ (fun hHeld=>?_)
     ·
      rw[Cn.out,QA.out];exact⟨cell_below (zM.out.1) (af _ _).drew,cell_below (zM.out.2.1) (af _ _).drew,cell_below (zM.out.2.2.1) (af _ _).drew,cell_below (zM.out.2.2.2.1) (af _ _).drew,cell_below (zM.out.2.2.2.2.1) (af _ _).drew,cell_below (zM.out.2.2.2.2.2.1) (af _ _).drew,cell_below (zM.out.2.2.2.2.2.2) (af _ _).drew⟩
     clear hK K
     try simp only[qq]
     refine b_ 27 ?_;refine gM ?_;rw[Cn.out,QA.out];have ae3:Hid (Sk .u32 (w7.alloc (.cells #[.int .u32 X2, .int .u32 ya, .int .u32 yb, .int .u32 yc, .int .u32 Y2, .int .u32 ye, .int .u32 yf, .int .u32 yg] 209)).drew (some ⟨w7.heap.size,0,none⟩) (St.mk X2 ya yb yc Y2 ye yf yg).list):=aa ((bS.new w7 (St.mk X2 ya yb yc Y2 ye yf yg).list).sk.below (Below.refl _ _).drew);have afW:Hid (Below w5.heap.size w5 (w7.alloc (.cells #[.int .u32 X2, .int .u32 ya, .int .u32 yb, .int .u32 yc, .int .u32 Y2, .int .u32 ye, .int .u32 yf, .int .u32 yg] 209)).drew):=aa (ag M3.out (af _ _).drew);have hg7:bh<w7.heap.size:=by have:=M3.out.size;have:=HH5.out.lt;omega
     clear zM Cn QA M3 hHeld
     go_wp2_with fail
     go_roundw
     case rel=>exact⟨t+1,w7.heap.size,8,X2,ya,yb,yc,Y2,ye,yf,yg,by omega,hg7,by go_num,rfl,HR2,ae3,afW⟩
     case measure=>simp[intOf];omega
    ·
     have jU:Kp (zB (dY (gZ P k)) ⟨xa,xb,xc,xd,xe,xf,xg,xh⟩ 64=⟨ya,yb,yc,yd,ye,yf,yg,yh⟩):=⟨by
      have h:=HR.out
      rwa [show t=64 by omega,←HWS.out]at h⟩
     have HT:Kp (mW P (k+1)=TQ ⟨xa,xb,xc,xd,xe,xf,xg,xh⟩ ⟨ya,yb,yc,yd,ye,yf,yg,yh⟩):=⟨by rw[mW,Fp.out,Gn,jU.out]⟩
     have HH6:Hid (bS .u32 209 wr bh (uy (St.mk xa xb xc xd xe xf xg xh).list (St.mk ya yb yc yd ye yf yg yh).list 0)):=aa (by
      rw[DI rfl]
      exact HH5.out.below oJ.out)
     have Vh:=aa (MV.out.below oJ.out);have aeX:=aa (abz.out.below oJ.out);have oM:=aa (ag l9.out oJ.out);clear HR oJ HH5 MV abz l9 abG HWS Lf jU Fp
     go_wp2_with fail
     go_loopw [12] (fun i u=>∃m:Nat,m≤8∧i = .int .i64 m∧Hid (bS .u32 209 u bh (uy (St.mk xa xb xc xd xe xf xg xh).list (St.mk ya yb yc yd ye yf yg yh).list m))∧Hid (bS .u32 209 u bk KL)∧Hid (Sk .u8 u (some ⟨gp,0,none⟩) P)∧Hid (Sk .u32 u (some ⟨g,0,none⟩) (St.mk ya yb yc yd ye yf yg yh).list)∧Hid (Below W.heap.size W u)) (fun i _=>8-(intOf i).toNat)
     case atStart=>exact⟨0,by omega,rfl,HH6,Vh,aeX,Rc,oM⟩
     case round=>
      obtain⟨m,hm,rfl,Zl,HKm,X9,Ub,wL⟩:=hrel
      by_cases hlm:m<8
      ·
       have hc:=Zl.out.cell (j:=m) (by rw[uw];exact hlm);have hf:=Zl.out.free m;rw[H8 hlm]at hc;have hv:=Ub.out.cell (j:=m) (show m<8 from hlm);rw[Nat.zero_add]at hv;obtain⟨s0,e0⟩:∃x,(St.mk xa xb xc xd xe xf xg xh).list.getD m 0=x:=⟨_,rfl⟩;obtain⟨v0,e1⟩:∃x,(St.mk ya yb yc yd ye yf yg yh).list.getD m 0=x:=⟨_,rfl⟩;have hst:=H6 (s:=(St.mk xa xb xc xd xe xf xg xh).list) (v:=(St.mk ya yb yc yd ye yf yg yh).list) hlm;rw[e0,e1,add32,jI]at hst;rw[e0]at hc;rw[e1]at hv;obtain⟨V,hV⟩:∃V,(s0+v0)%4294967296=V:=⟨_,rfl⟩;have HV:=aa hV;rw[hV]at hst
       have QU:Hid (bS .u32 209 (wr.setCell ⟨bh,m,none⟩ (.int .u32 V)).drew bh (uy (St.mk xa xb xc xd xe xf xg xh).list (St.mk ya yb yc yd ye yf yg yh).list (m+1))):=aa (by
        rw[←hst]
        exact(Zl.out.set).below (Below.refl _ _).drew)
       have HK7:Hid (bS .u32 209 (wr.setCell ⟨bh,m,none⟩ (.int .u32 V)).drew bk KL):=aa ((HKm.out.set_ne (by omega)).below (Below.refl _ _).drew);have aeW:Hid (Sk .u8 (wr.setCell ⟨bh,m,none⟩ (.int .u32 V)).drew (some ⟨gp,0,none⟩) P):=aa ((X9.out.set_ne (fun b o e=>by cases e;omega)).below (Below.refl _ _).drew);have ae1:Hid (Sk .u32 (wr.setCell ⟨bh,m,none⟩ (.int .u32 V)).drew (some ⟨g,0,none⟩) (St.mk ya yb yc yd ye yf yg yh).list):=aa ((Ub.out.set_ne (fun b o e=>by cases e;omega)).below (Below.refl _ _).drew);have vK:Hid (Below W.heap.size W (wr.setCell ⟨bh,m,none⟩ (.int .u32 V)).drew):=aa (wL.out.setCell (by have:=HBH.out;simp;omega) _).drew;clear hst e0 e1 Zl HKm X9 Ub wL hV;go_wp2
       go_region
       rw[HV.out];clear hc hf hv;go_wp2
       go_roundw
       case rel=>exact⟨m+1,by omega,by go_num,QU,HK7,aeW,ae1,vK⟩
       case measure=>simp[intOf];omega
      ·
       have Lj:Hid (bS .u32 209 wr bh (mW P (k+1)).list):=aa (by
        have h:=Zl.out
        rwa [show m=8 by omega,H9,←HT.out]at h)
       clear Zl Ub HT
       go_wp2_with fail
       go_roundw
       case rel=>exact⟨k+1,by omega,by first | rfl | (congr 1;omega),Lj,HKm,X9,wL⟩
       case measure=>simp[intOf];omega
  ·
   obtain⟨T,hT⟩:∃T,mW P k=T:=⟨_,rfl⟩
   have Yd:Kp (rA l=o_ T):=⟨by
    rw[rA,HP.out,HM.out,show 64*M / 64=k by omega,hT]⟩
   rw[hT]at HH;have hout:=o8 T;have hbr:=aD.out.size;have HHl:bh<wr.heap.size:=HH.out.lt
   have XP:Hid (bS .u8 41 (wr.alloc (.cells z32 41)) wr.heap.size (pz 32 ((o_ T).take 0))):=aa (by
    rw[jR]
    exact bS.new _ _)
   have sK:Hid (Below W.heap.size W (wr.alloc (.cells z32 41))):=aa (aD.out.alloc aD.out.size _);have Lj:=aa (HH.out.old (.cells z32 41));obtain⟨WN,UR⟩:∃u,wr.alloc (.cells z32 41)=u:=⟨_,rfl⟩;obtain⟨B5,UY⟩:∃x,wr.heap.size=x:=⟨_,rfl⟩;have Nf:Hid (B5<WN.heap.size):=aa (by rw[←UR,←UY];simp);rw[UR]at XP sK Lj;rw[UY]at XP hbr HHl;have HWN:=aa UR;have l9:=aa UY;have aip:¬(64*(k:Int)<64*(M:Int)):=by omega
   clear hT HH HSp HK aD UR UY hout
   go_wp2_with fail
   rw[HWN.out,l9.out]
   go_loopw [14] (fun i u=>∃m:Nat,m≤32∧i = .int .i64 m∧Hid (bS .u8 41 u B5 (pz 32 ((o_ T).take m)))∧Hid (Below B5 WN u)) (fun i _=>32-(intOf i).toNat)
   case atStart=>exact⟨0,by omega,rfl,XP,aa (Below.refl _ _)⟩
   case round=>
    obtain⟨m,hm,rfl,wL,Ur⟩:=hrel
    by_cases hlm:m<32
    ·
     have hol:(o_ T).length=32:=o8 _;have hc:=wL.out.cell (j:=m) (by rw[I8 (by rw[List.length_take,hol];omega)];omega);have hf:=wL.out.free m;have hst:=D_ (N:=32) (k:=m) (l:=o_ T) (by rw[hol];omega) (by omega);have hh:=(Lj.out.keepB HHl Ur.out).cell (j:=m / 4) (show m / 4<8 by omega);rw[Ou _ m hlm]at hst;obtain⟨v0,e1⟩:∃x,T.list.getD (m / 4) 0=x:=⟨_,rfl⟩;rw[e1]at hst hh;obtain⟨q,hq⟩:∃q,v0 / 2 ^ (24-8*(m%4))=q:=⟨_,rfl⟩;rw[hq]at hst;have j0:(0:Int)≤24-8*((m:Int)%4):=by omega
     have j1:(24-8*((m:Int)%4)).toNat=24-8*(m%4):=by omega
     have j2:((m:Int) / 4).toNat=m / 4:=by omega
     have j3:(0:Int)≤(m:Int) / 4:=by omega
     have j4:(m:Int) / 4<8:=by omega
     have HQ:=aa hq;obtain⟨WV,Ff⟩:∃u,wr.setCell ⟨B5,m,none⟩ (.int .u8 (q%256))=u:=⟨_,rfl⟩
     have HB2:Hid (bS .u8 41 WV B5 (pz 32 ((o_ T).take (m+1)))):=aa (by
      rw[←Ff,←hst]
      exact wL.out.set)
     have YQ:Hid (Below B5 WN WV):=aa (by rw[←Ff];exact Ur.out.setCell (Nat.le_refl _) _);have T_:=aa Ff;clear hst wL Ur hol e1 Ff;go_wp2
     try go_region
     try (rw[T_.out])
     clear hc hf hh;go_wp2
     go_roundw
     case rel=>exact⟨m+1,by omega,by go_num,HB2,YQ⟩
     case measure=>simp[intOf];omega
    ·
     have M4:Hid (bS .u8 41 wr B5 (rA l)):=aa (by
      have h:=wL.out
      rwa [show m=(o_ T).length by rw[o8];omega,List.take_length,Ea (o8 _),←Yd.out]at h)
     have u_:=aa (sK.out.trans (Ur.out.mono hbr));have Ve:Hid (bS .u8 41 wr w.heap.size (dL 32)):=aa (fH.out.keepB (by have:=l8.out;omega) u_.out);have gU:Hid (Below w.heap.size w (wr.setRow w.heap.size (arr .u8 (rA l)))):=aa (aj (ag cu.out u_.out) (Nat.le_refl _));have HRR:Hid (bS .u8 41 (wr.setRow w.heap.size (arr .u8 (rA l))) w.heap.size (rA l)):=aa Ve.out.setRow;clear wL Ur
     go_wp2_with (first
      | ((with_reducible show wpList _ _ _ (⟨some 181,_,_,_,_,_⟩::_) _ _);refine wpList_load_row rfl 41 _ rfl B5 rfl _ _ _ _ M4.out Tryz.underlying41 rfl (aH (iJ l)) ?_)
      | ((with_reducible show wpList _ _ _ (⟨none,_,_,_,_,_⟩::_) _ _);refine wpList_store_row rfl 41 _ _ rfl w.heap.size (arr .u8 (rA l)) rfl rfl _ _ Ve.out (aH (iJ l)) (fu (l:=dL 32) rfl (iJ l)) (dG _) ?_))
     exact bodyPost_ret (v:= .agg (arr .u8 (rA l))) (results_cell_row (p:=2) (ty:=41) rfl _ _ w.heap.size _ _ _ _ rfl HRR.out Tryz.underlying41 rfl (aH (iJ l))) rfl ⟨rfl,gU.out⟩
theorem LV (h:List Int)(hh:Hid (h.length=32))(w:World) :
  Calls Tryz.prog 181 #[.slice none 0 0, .agg (arr .u8 h)] w (BU .u8 5 h w):=by
 obtain⟨i0,hi,hz0,hz1,hz2⟩:=info_parts eB;obtain⟨W,hW⟩:∃W,w.alloc (.cells (arr .u8 h) 41)=W:=⟨_,rfl⟩;have cu:Hid (Below w.heap.size w W):=aa (by rw[←hW];exact af _ _);have fH:Hid (bS .u8 41 W w.heap.size h):=aa (by rw[←hW];exact bS.new _ _);have l8:Hid (W.heap.size=w.heap.size+1):=aa (by rw[←hW];simp);have HW:=aa hW;clear hW;go_in;have hown:(W.alloc (.cells #[] 5)).ownsRow W.heap.size 5 1 (.slice (some ⟨W.heap.size,0,none⟩) 0 0) 0 []:=o7 (K:= .u8) W
 go_upto_region 1 with(fail)
 rw[HW.out]
 go_wp2_with (at_builtin;refine wpList_append_own_none rfl _ _ 114 rfl W.heap.size 5 i0 1 Tryz.underlying114 hi _ _ _ rfl hown rfl ?_)
 have BZ:Hid (aV .u8 5 (W.alloc (.cells #[] 5)) W.heap.size (.slice (some ⟨W.heap.size,0,none⟩) 0 0) []):=aa (o7 (K:= .u8) W);have HB1:Hid (Below W.heap.size W (W.alloc (.cells #[] 5))):=aa (af _ _);clear hown
 go_loopw [5,6] (fun v i u=>∃k:Nat,k≤32∧i = .int .i64 k∧Hid (aV .u8 5 u W.heap.size v (h.take k))∧Hid (Below W.heap.size W u)) (fun _ i _=>32-(intOf i).toNat)
 case atStart=>exact⟨0,by omega,rfl,aa (by rw[List.take_zero];exact BZ.out),HB1⟩
 case round=>
  obtain⟨k,hk,rfl,HO,aD⟩:=hrel
  by_cases hlt:k<32
  ·
   have hc:=(fH.out.keepB (by have:=l8.out;omega) aD.out).cell (j:=k) (by have:=hh.out;omega);have zO:Hid (h.take (k+1)=h.take k ++ [h.getD k 0]):=aa (take_one (by have:=hh.out;omega));obtain⟨x,hx⟩:∃x,h.getD k 0=x:=⟨_,rfl⟩;rw[hx]at hc zO;have tC:Hid ((h.take k).length=k):=aa (by rw[List.length_take,hh.out];omega);have hown:=HO.out.row tC.out;have hbs:=aD.out.size;clear hx
   go_wp2_with (at_builtin;refine wpList_append_own _ rfl _ _ 114 rfl W.heap.size 5 i0 (.int .u8 0) 1 1 Tryz.underlying114 hi hz0 hz1 hz2 rfl (by decide) _ _ _ rfl (hown.alloc _) ⟨wr.heap.size,0,none⟩ 1 1 [.int .u8 x] rfl rfl (cell_one_new _ _ _) (ints_oneCell .u8 [x]) (by unfold maxLen;omega) (by omega) (by simp;omega) ?_;intro v2 w2 hown2 hgrow2 _)
   have om:Hid (aV .u8 5 w2 W.heap.size v2 (h.take (k+1))):=aa (by
    rw[zO.out]
    exact aV.app tC.out.symm rfl hown2)
   have sj:Hid (Below W.heap.size W w2):=aa (HO.out.below aD.out hbs hgrow2);clear hown hown2 hgrow2 HO hc
   go_roundw
   case rel=>exact⟨k+1,by omega,by go_num,om,sj⟩
   case measure=>simp[intOf];omega
  ·
   have om:Hid (aV .u8 5 wr W.heap.size u5 (h)):=aa (by
    have e:=HO.out
    rwa [List.take_of_length_le (by have:=hh.out;omega)]at e)
   have hbf:=ag cu.out aD.out;have hle:=cu.out.size;clear HO;go_wp2;go_ret;exact⟨_,rfl,om.out.mono hle,hbf⟩
theorem LW (b o c:Nat)(l:List Int)(n:Nat)(hn:Hid (l.length=n))(hn0:0<n)(hbig:n≤1000000)(h:List Int)(hh:Hid (h.length=32))(w:World)(hs:Hid (Sk .u8 w (some ⟨b,o,none⟩) l)) :
  Calls Tryz.prog 181 #[.slice (some ⟨b,o,none⟩) n c, .agg (arr .u8 h)] w (BU .u8 5 (l++h) w):=by
 obtain⟨i0,hi,hz0,hz1,hz2⟩:=info_parts eB;obtain⟨W,hW⟩:∃W,w.alloc (.cells (arr .u8 h) 41)=W:=⟨_,rfl⟩;have cu:Hid (Below w.heap.size w W):=aa (by rw[←hW];exact af _ _);have fH:Hid (bS .u8 41 W w.heap.size h):=aa (by rw[←hW];exact bS.new _ _);have l8:Hid (W.heap.size=w.heap.size+1):=aa (by rw[←hW];simp);have HW:=aa hW;clear hW;have HS:=aa ((hs.out.below cu.out).below (af W (.cells #[] 5)));clear hs;go_in;have hown:(W.alloc (.cells #[] 5)).ownsRow W.heap.size 5 1 (.slice (some ⟨W.heap.size,0,none⟩) 0 0) 0 []:=o7 (K:= .u8) W
 go_upto_region 1 with(fail)
 rw[HW.out]
 go_wp2_with (at_builtin;refine wpList_append_own _ rfl _ _ 114 rfl W.heap.size 5 i0 (.int .u8 0) 1 1 Tryz.underlying114 hi hz0 hz1 hz2 rfl (by decide) _ _ _ rfl hown ⟨b,o,none⟩ n c (l.map (.int .u8)) rfl (by simp[hn.out]) (HS.out.news) (ints_oneCell .u8 _) (by unfold maxLen;omega) (by omega) (by simp) ?_;intro v1 w1 hown1 hgrow1 _)
 have BZ:Hid (aV .u8 5 w1 W.heap.size v1 l):=aa (aV.app (xs:= []) (ys:=l) (m:=n) rfl hn.out.symm hown1);have HB1:Hid (Below W.heap.size W w1):=aa ((af W (.cells #[] 5)).grown hgrow1 (by simp) (fun j hj=>by cases hj;exact Nat.le_refl _));clear hown1 hgrow1;clear hown
 go_loopw [5,6] (fun v i u=>∃k:Nat,k≤32∧i = .int .i64 k∧Hid (aV .u8 5 u W.heap.size v (l++h.take k))∧Hid (Below W.heap.size W u)) (fun _ i _=>32-(intOf i).toNat)
 case atStart=>exact⟨0,by omega,rfl,aa (by rw[List.take_zero,List.append_nil];exact BZ.out),HB1⟩
 case round=>
  obtain⟨k,hk,rfl,HO,aD⟩:=hrel
  by_cases hlt:k<32
  ·
   have hc:=(fH.out.keepB (by have:=l8.out;omega) aD.out).cell (j:=k) (by have:=hh.out;omega);have zO:Hid (h.take (k+1)=h.take k ++ [h.getD k 0]):=aa (take_one (by have:=hh.out;omega));obtain⟨x,hx⟩:∃x,h.getD k 0=x:=⟨_,rfl⟩;rw[hx]at hc zO;have tC:Hid ((l++h.take k).length=n+k):=aa (by rw[List.length_append,List.length_take,hh.out,hn.out];omega);have hown:=HO.out.row tC.out;have hbs:=aD.out.size;clear hx
   go_wp2_with (at_builtin;refine wpList_append_own _ rfl _ _ 114 rfl W.heap.size 5 i0 (.int .u8 0) 1 1 Tryz.underlying114 hi hz0 hz1 hz2 rfl (by decide) _ _ _ rfl (hown.alloc _) ⟨wr.heap.size,0,none⟩ 1 1 [.int .u8 x] rfl rfl (cell_one_new _ _ _) (ints_oneCell .u8 [x]) (by unfold maxLen;omega) (by omega) (by simp;omega) ?_;intro v2 w2 hown2 hgrow2 _)
   have om:Hid (aV .u8 5 w2 W.heap.size v2 (l++h.take (k+1))):=aa (by
    rw[zO.out,←List.append_assoc]
    exact aV.app tC.out.symm rfl hown2)
   have sj:Hid (Below W.heap.size W w2):=aa (HO.out.below aD.out hbs hgrow2);clear hown hown2 hgrow2 HO hc
   go_roundw
   case rel=>exact⟨k+1,by omega,by go_num,om,sj⟩
   case measure=>simp[intOf];omega
  ·
   have om:Hid (aV .u8 5 wr W.heap.size u5 (l++h)):=aa (by
    have e:=HO.out
    rwa [List.take_of_length_le (by have:=hh.out;omega)]at e)
   have hbf:=ag cu.out aD.out;have hle:=cu.out.size;clear HO;go_wp2;go_ret;exact⟨_,rfl,om.out.mono hle,hbf⟩
theorem ig {P:Program} {S:World→Prop} {o:Oper} {a:Act} (ty:TypeId)(x:Operand)(ho:o.op = .load ty x)
  (g:Nat) (hx:a.eval x = .pointer (some ⟨g,0,none⟩)) (t:TypeId) (cs:Array Value) (fr:Nat × Nat) (d:TypeDesc) (hg:∀w,S w→w.heap[g]? = some (.cells cs t fr))
  (hu:P.underlying ty=some d) (hd:(match d with | .struct _ | .array _ _=>true | _=>false)=true) (hi:(P.info? ty).map (·.size)=some cs.size) :
  ∀w,S w→(execOp a.eval o).run P w = .ok (.value (.agg cs)) w:=fun w hw=>by
 unfold execOp
 simp only[ho,hx,Instr.loadAt,Instr.sureAddr,Sem.run_bind,Sem.run_pure,Result.andThen_ok,run_loadVar_row w g t ty cs fr d (hg w hw) hu hd hi]
theorem mY (s:ByteArray)(hs1:1≤s.size)(hs2:s.size≤100)(b o c:Nat)(l:List Int)(n:Nat)(hn:Hid (l.length=n))(hn0:0<n)(hbig:n≤900000)(hby:Hid (aF l=true))(w:World)(hs:Hid (Sk .u8 w (some ⟨b,o,none⟩) l)) :
  Calls Tryz.prog 144 #[.string s, .slice (some ⟨b,o,none⟩) n c] w (Rt w (.agg (arr .u8 (tagged (bq s) l)))):=by
 obtain⟨i0,hi,hz0,hz1,hz2⟩:=info_parts eB;obtain⟨W,hW⟩:∃W,w.alloc (.cells z32 41)=W:=⟨_,rfl⟩;have cu:Hid (Below w.heap.size w W):=aa (by rw[←hW];exact af _ _)
 have fH:Hid (bS .u8 41 W w.heap.size (dL 32)):=aa (by
  rw[←hW,jR]
  exact bS.new _ _)
 have l8:Hid (W.heap.size=w.heap.size+1):=aa (by rw[←hW];simp);have HS:=aa (hs.out.below cu.out);have HW:=aa hW;have hcv:=fun w=>run_bytes_of_string (P:=Tryz.prog) w 9 114 5 s Tryz.underlying9 Tryz.underlying114 Tryz.underlying5;clear hW hs;go_in
 go_wp2_with fail
 rw[HW.out];clear hcv HW;obtain⟨Wc,hWc⟩:∃u,(W.alloc (.cells (bytesRow s (grownCap W s.size 0 5)) 5 ((bytesRow s (grownCap W s.size 0 5)).size,(bytesRow s (grownCap W s.size 0 5)).size+1))).drew=u:=⟨_,rfl⟩;have uC:Hid (Below W.heap.size W Wc):=aa (by rw[←hWc];exact(af _ _).drew)
 have HSc:Hid (Sk .u8 Wc (some ⟨w.heap.size+1,0,none⟩) (bq s)):=aa (by
  rw[←hWc,←l8.out]
  exact nN (heap_alloc_new W _))
 obtain⟨gc,hgc⟩:∃g,grownCap W s.size 0 5=g:=⟨_,rfl⟩;rw[hWc,hgc];clear hWc hgc;refine(F3 (w.heap.size+1) 0 gc (bq s) s.size (aa (bP s)) (by omega) (by omega) (aa (jN s)) _ HSc).mono ?_;rintro e w1 ⟨rfl,hb1⟩;have HB1:=aa (ag uC.out hb1);clear hb1 HSc uC;obtain⟨t,ht⟩:∃t,rA (bq s)=t:=⟨_,rfl⟩;have htl:t.length=32:=by rw[←ht];exact iJ _
 have htb:aF t=true:=by rw[←ht];exact jJ _
 have HT:Kp (rA (bq s)=t):=⟨ht⟩;have Ao:=aa htl;have HTB:=aa htb;rw[ht];clear ht htl htb
 go_upto_region 2 with((with_reducible show wpList _ _ _ (⟨none,_,_,_,_,_⟩::_) _ _);refine wpList_store_row rfl 41 _ _ rfl w1.heap.size (arr .u8 t) rfl rfl _ _ (heap_alloc_new _ _) (aH Ao.out) (fu (l:=dL 32) rfl Ao.out) (dG _) ?_)
 rw[World.setRow_alloc_new]
 simp only[Act.put]
 have HB2:=aa (ag HB1.out (af w1 (.cells (arr .u8 t) 41)));have HT2:Hid (bS .u8 41 (w1.alloc (.cells (arr .u8 t) 41)) w1.heap.size t):=aa (bS.new _ _);obtain⟨W2,hW2⟩:∃u,w1.alloc (.cells (arr .u8 t) 41)=u:=⟨_,rfl⟩;have HSN:Hid (w1.heap.size<W2.heap.size):=aa (by rw[←hW2];simp);rw[hW2]at HB2 HT2 ⊢;clear hW2 HB1;obtain⟨gt,hgt⟩:∃g,w1.heap.size=g:=⟨_,rfl⟩;rw[hgt]at HT2 HSN ⊢;clear hgt;have qC:=aa ((Below.refl W2.heap.size W2).drew);have CL:=aa (HT2.out.below qC.out);have HB3:=aa (ag HB2.out qC.out);obtain⟨Wd,hWd⟩:∃u,W2.drew=u:=⟨_,rfl⟩;refine bV (S:=fun w'=>w'.heap[gt]? = some (.cells (arr .u8 t) 41 (0,0))) (E:= [5,6,7]) (by kernel_rfl) (CL.out) (fun hHeld=>?_);refine Cf 0 (.agg (arr .u8 t)) rfl (ig 41 _ rfl gt rfl _ _ _ _ (fun _ h=>h) Tryz.underlying41 rfl (aH Ao.out)) ?_;refine Cf 2 (.agg (arr .u8 t)) rfl (ig 41 _ rfl gt rfl _ _ _ _ (fun _ h=>h) Tryz.underlying41 rfl (aH Ao.out)) ?_;refine b_ 4 ?_;refine dh 1 fun K hK=>?_;go_simp
 try rw[hWd]
 rw[hWd]at qC CL HB3;refine(LV t Ao _).mono ?_;rintro e w3 ⟨v3,rfl,ho3,hb3⟩;refine hK.out _ _ ?_ (fun hHeld=>?_)
 · exact CL.out.below hb3
 clear hK K
 try simp only[qq]
 refine dh 3 fun K hK=>?_;go_simp;obtain⟨g3,pU,e3,hg3,-,-,Td⟩:=ho3.cells (by have:=Ao.out;omega);rw[Ao.out]at e3;subst e3;have Ud:=aa Td;refine(LW g3 0 pU t 32 Ao (by decide) (by decide) t Ao _ Ud).mono ?_;rintro e w4 ⟨v4,rfl,Cz,hb4⟩;have l5:=aa (ag hb3 hb4);have ad4:=l5.out.size;have hrow4:=Cz.row (n:=64) (by rw[List.length_append,Ao.out]);refine hK.out _ _ ?_ (fun hHeld=>?_)
 · exact(CL.out.below hb3).below hb4
 clear hK K
 try simp only[qq]
 refine oz 5 fun K hK=>?_;have Ap:=aa ((HS.out.below HB3.out).below l5.out);refine step_append_lies _ (by rfl) _ _ _ (by rfl) (w3.heap.size) 5 i0 _ 1 1 Tryz.underlying114 hi hz0 hz1 hz2 rfl (by omega) v4 64 ((t++t).map (.int .u8)) (by rfl) (hrow4) ⟨b,o,none⟩ n c (l.map (.int .u8)) (by rfl) (by simp[hn.out]) (Ap.out.news) (ints_oneCell .u8 _) (by omega) (by unfold maxLen;omega) (by omega) (by have:=hb4.size;omega) (w4.heap.size) (rfl) ?_;intro g5 cap5 w5 hown5 rM Xb WR;have l9:=aa (Below.grown l5.out rM (by omega) (fun j hj=>by have:=(World.ownsRow.lt hrow4 j hj).1;have:=hb3.size;omega));have yY:Hid (aV .u8 5 w5 w3.heap.size (.slice (some ⟨g5,0,none⟩) (64+n) cap5) (t++t++l)):=aa (aV.app (by rw[List.length_append,Ao.out]) hn.out.symm hown5);refine hK.out _ _ ?_;clear hK K
 try simp only[qq]
 refine oz 6 fun K hK=>?_;go_simp;have Eu:=yY.out.skAt (by simp[hn.out];omega);refine(F3 g5 0 cap5 (t++t++l) (64+n) (aa (by simp[hn.out,Ao.out];omega)) (by omega) (by omega) (aa (by rw[dS,dS,HTB.out,hby.out];rfl)) _ (aa Eu)).mono ?_;rintro e w6 ⟨rfl,hb6⟩;have oM:=aa (l9.out.trans (hb6.mono l9.out.size));refine hK.out _ _ ?_;clear hK K
 try simp only[qq]
 refine oz 7 fun K hK=>?_;rw[show(if Region.wanted _ _=true then _ else _:Prop)=_ from if_pos rfl];refine wp_store_row 41 _ _ rfl w.heap.size (arr .u8 (rA (t++t++l))) rfl rfl 41 _ (((fH.out.below HB3.out)).below oM.out) (aH (iJ _)) (fu rfl (iJ _)) (dG _) ?_;refine hK.out _ _ ?_;clear hK K
 try simp only[qq]
 refine gM ?_;have HRR:Hid (bS .u8 41 (w6.setRow w.heap.size (arr .u8 (rA (t++t++l)))) w.heap.size (rA (t++t++l))):=aa ((fH.out.below HB3.out).below oM.out).setRow;have gU:Hid (Below w.heap.size w (w6.setRow w.heap.size (arr .u8 (rA (t++t++l))))):=aa (aj (ag cu.out (ag HB3.out oM.out)) (Nat.le_refl _));have HTG:Kp (tagged (bq s) l=rA (t++t++l)):=⟨by rw[tagged,HT.out]⟩;obtain⟨R,hR⟩:∃R,rA (t++t++l)=R:=⟨_,rfl⟩;have hRl:R.length=32:=by rw[←hR];exact iJ _
 rw[hR]at HRR gU HTG ⊢;obtain⟨w8,hw8⟩:∃u,w6.setRow w.heap.size (arr .u8 R)=u:=⟨_,rfl⟩;rw[hw8]at HRR gU ⊢;have HI:Kp ((Tryz.prog.info? 41).map (·.size)=some (arr .u8 R).size):=⟨aH hRl⟩;clear hR hRl hw8;go_wp2;exact bodyPost_ret (v:= .agg (arr .u8 R)) (results_cell_row (p:=4) (ty:=41) rfl _ _ w.heap.size _ _ _ _ rfl HRR.out Tryz.underlying41 rfl HI.out) rfl ⟨by rw[HTG.out],gU.out⟩
def yL (m:Int)(h:List Int):Nat→Int
 | 0=>0
 | k+1=>(yL m h k*256+h.getD k 0)%m
def Je (m:Int)(h:List Int):Int:=yL m h 16
theorem Ab {m:Int} {h:List Int} (hm:1≤m)(k:Nat):0≤yL m h k∧yL m h k<m:=by
 cases k with
 | zero=>exact⟨Int.le_refl _,by simp[yL];omega⟩
 | succ k=>exact⟨Int.emod_nonneg _ (by omega),Int.emod_lt_of_pos _ (by omega)⟩
theorem PV {acc m a:Int} {j:Nat} (h:acc*2 ^ j%m=a):acc*2 ^ (j+1)%m=(a+a)%m:=by
 rw[←h,Int.pow_succ,←Int.mul_assoc,Int.mul_comm _ 2,Int.add_emod_emod,Int.emod_add_emod]
 congr 1
 omega
theorem OC {acc m a c:Int} (h:acc*2 ^ 8%m=a):(a+c%m)%m=(acc*256+c)%m:=by
 rw[←h,Int.add_emod_emod,Int.emod_add_emod]
 rfl
theorem Mf {acc m c:Int} :(acc*(256%m)%m+c)%m=(acc*256+c)%m:=by
 have e:acc*(256%m)%m=acc*256%m:=by
  rw[Int.mul_emod acc (256%m),Int.emod_emod_of_dvd _ (Int.dvd_refl m),←Int.mul_emod]
 rw[e,Int.emod_add_emod]
theorem Jf (h:List Int)(hh:Hid (h.length=32))(hb:Hid (aF h=true))(m:Int)(h1:1≤m)(h2:m<2305843009213693952)(w:World) :
  Calls Tryz.prog 264 #[.agg (arr .u8 h), .int .i64 m] w (Rt w (.tuple #[.int .i64 (Je m h), .int .i64 0])):=by
 obtain⟨W,hW⟩:∃W,w.alloc (.cells (arr .u8 h) 41)=W:=⟨_,rfl⟩;have cu:Hid (Below w.heap.size w W):=aa (by rw[←hW];exact af _ _);have fH:Hid (bS .u8 41 W w.heap.size h):=aa (by rw[←hW];exact bS.new _ _);have HW:=aa hW;clear hW;have hm0:((m:Int) == 0)=false:=by simp;omega
 have hm1:¬m<1:=by omega
 have hm2:¬2305843009213693952≤m:=by omega
 go_in;go_wp2;rw[HW.out]
 go_loopw [6,17] (fun p i u=>∃(k:Nat) (acc:Int),k≤16∧i = .int .i64 k∧p = .int .i64 acc∧Hid (yL m h k=acc)∧Hid (Below W.heap.size W u)) (fun _ i _=>16-(intOf i).toNat)
 case atStart=>exact⟨0,0,by omega,rfl,rfl,aa rfl,aa (Below.refl _ _)⟩
 case round=>
  obtain⟨k,acc,hk,rfl,rfl,HN,aD⟩:=hrel;have ha:=Ab (m:=m) (h:=h) h1 k;rw[HN.out]at ha;obtain⟨a0,a1⟩:=ha
  by_cases hlt:k<16
  ·
   have hc:=(fH.out.below aD.out).cell (j:=k) (by have:=hh.out;omega);obtain⟨c0,c1⟩:=jH hb.out k;have hnx:yL m h (k+1)=(acc*256+h.getD k 0)%m:=by rw[yL,HN.out]
   obtain⟨c,hcc⟩:∃c,h.getD k 0=c:=⟨_,rfl⟩;rw[hcc]at hc c0 c1 hnx;have IC:=aa hnx;clear hcc hnx;have dk:decide ((k:Int)<16)=true:=by simp;omega
   go_wp2
   go_loopw [6,21] (fun p i u=>∃(j:Nat) (a:Int),j≤8∧i = .int .i64 j∧p = .int .i64 a∧Hid (acc*2 ^ j%m=a)∧0≤a∧a<m∧Hid (Below W.heap.size W u)) (fun _ i _=>8-(intOf i).toNat)
   case atStart=>exact⟨0,acc,by omega,rfl,rfl,aa (by rw[Int.pow_zero,Int.mul_one];exact Int.emod_eq_of_lt a0 a1),a0,a1,aD⟩
   case round=>
    obtain⟨j,a,hj,rfl,rfl,HA,b0,b1,oJ⟩:=hrel
    by_cases hlj:j<8
    ·
     have HA2:=aa (PV HA.out);have e0:0≤(a+a)%m:=Int.emod_nonneg _ (by omega);have e1:(a+a)%m<m:=Int.emod_lt_of_pos _ (by omega);obtain⟨q,hq⟩:∃q,(a+a)%m=q:=⟨_,rfl⟩;rw[hq]at e0 e1 HA2;have HQ:=aa hq;clear hq HA
     go_wp2_with fail
     refine(Qt a a m h2 b0 b1 b0 b1 _).mono ?_;rintro e w' ⟨rfl,rfl⟩;rw[HQ.out];go_wp2
     go_roundw
     case rel=>exact⟨j+1,q,by omega,by go_num,rfl,HA2,e0,e1,oJ⟩
     case measure=>simp[intOf];omega
    ·
     have HA8:Hid (acc*2 ^ 8%m=a):=aa (by have h:=HA.out;rwa [show j=8 by omega]at h);have HE:Hid ((a+c%m)%m=(acc*256+c)%m):=aa (OC HA8.out);have f0:0≤c%m:=Int.emod_nonneg _ (by omega);have f1:c%m<m:=Int.emod_lt_of_pos _ (by omega);obtain⟨cm,hcm⟩:∃x,c%m=x:=⟨_,rfl⟩;rw[hcm]at f0 f1 HE;obtain⟨q,hq⟩:∃q,(a+cm)%m=q:=⟨_,rfl⟩;have QK:Hid (yL m h (k+1)=q):=aa (by rw[IC.out,←HE.out,hq]);have HQ:=aa hq;clear hq HA HA8 HE IC HN
     go_wp2_with fail
     refine(Qt a cm m h2 b0 b1 f0 f1 _).mono ?_;rintro e w' ⟨rfl,rfl⟩;rw[HQ.out];go_wp2
     go_roundw
     case rel=>exact⟨k+1,q,by omega,by go_num,rfl,QK,oJ⟩
     case measure=>simp[intOf];omega
  ·
   have HF:Hid (Je m h=acc):=aa (by have e:=HN.out;rwa [show k=16 by omega]at e);have hbf:=ag cu.out aD.out;clear HN;go_wp2;go_ret2;exact⟨by rw[HF.out];rfl,hbf⟩
theorem F5 (h:List Int)(hh:Hid (h.length=32))(hb:Hid (aF h=true))(m:Int)(h1:1≤m)(h2:m<2305843009213693952)(w:World) :
  Calls Tryz.prog 251 #[.agg (arr .u8 h), .int .i64 m] w (Rt w (.int .i64 (Je m h))):=by
 obtain⟨W,hW⟩:∃W,w.alloc (.cells (arr .u8 h) 41)=W:=⟨_,rfl⟩;have cu:Hid (Below w.heap.size w W):=aa (by rw[←hW];exact af _ _);have fH:Hid (bS .u8 41 W w.heap.size h):=aa (by rw[←hW];exact bS.new _ _);have HW:=aa hW;clear hW;have hm0:((m:Int) == 0)=false:=by simp;omega
 go_in;go_wp2;rw[HW.out]
 go_loopw [5,6] (fun p i u=>∃(k:Nat) (acc:Int),k≤16∧i = .int .i64 k∧p = .int .i64 acc∧Hid (yL m h k=acc)∧Hid (Below W.heap.size W u)) (fun _ i _=>16-(intOf i).toNat)
 case atStart=>exact⟨0,0,by omega,rfl,rfl,aa rfl,aa (Below.refl _ _)⟩
 case round=>
  obtain⟨k,acc,hk,rfl,rfl,HN,aD⟩:=hrel;have ha:=Ab (m:=m) (h:=h) h1 k;rw[HN.out]at ha;obtain⟨a0,a1⟩:=ha
  by_cases hlt:k<16
  ·
   have hc:=(fH.out.below aD.out).cell (j:=k) (by have:=hh.out;omega);obtain⟨c0,c1⟩:=jH hb.out k;have hnx:yL m h (k+1)=(acc*256+h.getD k 0)%m:=by rw[yL,HN.out]
   obtain⟨c,hcc⟩:∃c,h.getD k 0=c:=⟨_,rfl⟩;rw[hcc]at hc c0 c1 hnx;have IC:=aa hnx;have f0:0≤256%m:=Int.emod_nonneg _ (by omega);have f1:256%m<m:=Int.emod_lt_of_pos _ (by omega);have hst:=Mf (acc:=acc) (m:=m) (c:=c);have ht:Int.tmod 256 m=256%m:=Int.tmod_eq_emod_of_nonneg (by decide);have hw0:IntKind.i64.wrap (256%m)=256%m:=IntWalk.i64_in _ (by omega);obtain⟨d,hd⟩:∃d,256%m=d:=⟨_,rfl⟩;rw[hd]at f0 f1 hst ht hw0;have g0:0≤acc*d%m:=Int.emod_nonneg _ (by omega);have g1:acc*d%m<m:=Int.emod_lt_of_pos _ (by omega);obtain⟨p,hp⟩:∃p,acc*d%m=p:=⟨_,rfl⟩;rw[hp]at g0 g1 hst;obtain⟨q,hq⟩:∃q,(p+c)%m=q:=⟨_,rfl⟩;have HP:=aa hp;have HQ:=aa hq;have hw1:IntKind.i64.wrap (p+c)=p+c:=IntWalk.i64_in _ (by omega);have QK:Hid (yL m h (k+1)=q):=aa (by rw[IC.out,←hst,hq]);clear hst hp hq IC HN hd;go_wp2
   go_quiet ((first | (go_at_call 45;exact D9 (gV acc d m p HP h2 a0 a1 f0 f1 _)) | (go_at_call 55;exact D9 (pY (p+c) m q HQ h1 h2 (by omega) (by omega) _))))
   have HB2:=aa (aI aD.out nq);clear hc;go_wp2
   go_roundw
   case rel=>exact⟨k+1,q,by omega,by go_num,rfl,QK,HB2⟩
   case measure=>simp[intOf];omega
  ·
   have HF:Hid (Je m h=acc):=aa (by have e:=HN.out;rwa [show k=16 by omega]at e);have hbf:=ag cu.out aD.out;clear HN;go_wp2;go_ret;exact⟨by rw[HF.out];rfl,hbf⟩
end Go.Proofs.YtchcllcbknfikaaGreatDoor