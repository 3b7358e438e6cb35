/- Contracts and lemmas: TmC, TmD, TmE, TmF, TmK, TlX, TlY, TlZa, TlZb, TlZc, TlV, TmQ. -/
import Derived.Laws.BytesArg
import Derived.Test.YtchcllcbknfikaaGreatDoorTc10
set_option linter.unusedVariables false
set_option linter.unusedSimpArgs false
set_option maxRecDepth 100000
set_option maxHeartbeats 25600000
namespace Go.Proofs.YtchcllcbknfikaaGreatDoor
open Go.RowKit sH
def DD (lw B:Nat)(v:Value)(Li:Option Nat)(b:Nat):Prop:=(lw≤b∧b≤B)∨v.ownBlock=some b∨Li=some b
structure Io (lw ix B:Nat) (v:Value) (Li:Option Nat) (os os':List aG) (k:Nat) (u:World):Prop where
 sam:∀j,j<k→qR (bz os j) (bz os' j)
 ne:∀j,j<k→j≠ix→qA (DD lw B v Li) u (fun x=>dM x (bz os' j))
 eq:ix<k→yU B (DD lw B v Li) u (bz os' ix)∧(Value.slice (bz os' ix).L (bz os' ix).np (bz os' ix).cp).ownBlock=Li
 no:k≤ix→Li=none
 fr:∀b,Li=some b→B<b∧b<u.heap.size∧v.ownBlock≠some b
theorem Io.nil (lw ix B:Nat)(v:Value)(os:List aG)(u:World):Io lw ix B v none os [] 0 u:=
 ⟨fun j h=>absurd h (by omega),fun j h=>absurd h (by omega),fun h=>absurd h (by omega),fun _=>rfl,fun b h=>by cases h⟩
theorem Io.push {lw ix B S:Nat} {v v':Value} {Li:Option Nat} {os os':List aG} {k:Nat} {u u7 u':World} {o':aG} (h:Io lw ix B v Li os os' k u)(hl:os'.length=k)(hS:u.heap.size=S)(hB:B<S)(hlw:lw≤B)(hv:∀b,v.ownBlock=some b→B<b∧b<S)
  (WB:S≤u7.heap.size) (hz:u7.heap.size≤u'.heap.size) (hu:∀b,b<S→(b<lw∨B<b)→v.ownBlock≠some b→u'.heap[b]? = u.heap[b]?) (hu7:∀b,(b<lw∨S≤b)→b<u7.heap.size→u'.heap[b]? = u7.heap[b]?)
  (hv':∀b,v'.ownBlock=some b→v.ownBlock=some b∨u7.heap.size≤b) (hs:qR (bz os k) o') (hq:yU B (fun b=>(lw≤b∧b<S)∨(Value.slice o'.L o'.np o'.cp).ownBlock=some b) u7 o') (hlo:∀b,(Value.slice o'.L o'.np o'.cp).ownBlock=some b→S≤b∧b<u7.heap.size) :
  Io lw ix B v' (if k=ix then(Value.slice o'.L o'.np o'.cp).ownBlock else Li) os (os' ++ [o']) (k+1) u':=by
 have hD7:∀b,b<u7.heap.size→DD lw B v' (if k=ix then(Value.slice o'.L o'.np o'.cp).ownBlock else Li) b→(lw≤b∧b<S)∨(Value.slice o'.L o'.np o'.cp).ownBlock=some b:=fun b hb hd=>by
  rcases hd with e | e | e
  · exact .inl (by omega)
  ·
   rcases hv' b e with e | e
   · exact .inl (by have:=hv b e;omega)
   · omega
  ·
   by_cases hk:k=ix
   · rw[if_pos hk]at e;exact .inr e
   · rw[if_neg hk]at e;exact .inl (by have:=h.fr b e;omega)
 have hq':yU B (DD lw B v' (if k=ix then(Value.slice o'.L o'.np o'.cp).ownBlock else Li)) u' o':=hq.step hz (fun b hb hn=>hu7 b (by by_cases e:S≤b;exact .inr e;by_cases e2:lw≤b;exact absurd (Or.inl ⟨e2,by omega⟩) hn;exact .inl (by omega)) hb) hD7 (fun b e=>hu7 b (.inr (hlo b e).1) (hlo b e).2)
 have hDa:∀b,b<u.heap.size→DD lw B v' (if k=ix then(Value.slice o'.L o'.np o'.cp).ownBlock else Li) b→DD lw B v Li b:=fun b hb hd=>by
  rcases hd with e | e | e
  · exact .inl e
  ·
   rcases hv' b e with e | e
   · exact .inr (.inl e)
   · omega
  ·
   by_cases hk:k=ix
   · rw[if_pos hk]at e;have:=(hlo b e).1;omega
   · rw[if_neg hk]at e;exact .inr (.inr e)
 have hch:∀b,b<u.heap.size→¬DD lw B v Li b→u'.heap[b]? = u.heap[b]? :=fun b hb hn=>hu b (by omega) (by by_cases e:b<lw;exact .inl e;by_cases e2:b≤B;exact absurd (Or.inl ⟨by omega,e2⟩) hn;exact .inr (by omega)) (fun e=>hn (.inr (.inl e)));have hzu:u.heap.size≤u'.heap.size:=by omega
 refine⟨fun j hj=>?_,fun j hj hne=>?_,fun hi=>?_,fun hi=>?_,fun b e=>?_⟩
 ·
  by_cases e:j=k
  · subst e;rw[yF hl];exact hs
  · rw[yG (by omega)];exact h.sam j (by omega)
 ·
  by_cases e:j=k
  ·
   subst e;rw[yF hl];refine hq'.dep (fun _ _ q=>q) (fun b eb hd=>?_);have hb:=hlo b eb;rcases hd with e | e | e
   · omega
   ·
    rcases hv' b e with e | e
    · have:=hv b e;omega
    · omega
   · rw[if_neg hne]at e;have:=(h.fr b e).2.1;omega
  ·
   rw[yG (by omega)];exact(h.ne j (by omega) hne).step hzu hch hDa
 ·
  by_cases e:k=ix
  ·
   subst e;rw[yF hl,if_pos rfl];rw[if_pos rfl]at hq';exact⟨hq',rfl⟩
  ·
   rw[yG (by omega),if_neg e];rw[if_neg e]at hDa;obtain⟨h1,h2⟩:=h.eq (by omega);refine⟨h1.step hzu hch hDa (fun b eb=>?_),h2⟩;rw[h2]at eb;have h3:=h.fr b eb;exact hu b (by omega) (.inr (by omega)) h3.2.2
 · rw[if_neg (by omega)];exact h.no (by omega)
 ·
  by_cases hk:k=ix
  ·
   rw[if_pos hk]at e;have hb:=hlo b e;refine⟨by omega,by omega,fun e2=>?_⟩;rcases hv' b e2 with e | e
   · have:=hv b e;omega
   · omega
  ·
   rw[if_neg hk]at e;have hb:=h.fr b e;refine⟨hb.1,by omega,fun e2=>?_⟩;rcases hv' b e2 with e | e
   · exact hb.2.2 e
   · omega
theorem Io.shut {lw ix B:Nat} {v:Value} {Li:Option Nat} {os os':List aG} {k:Nat} {u u':World} (h:Io lw ix B v Li os os' k u)(hz:u.heap.size≤u'.heap.size)(hu:∀b,b<u.heap.size→(b<lw∨B<b)→u'.heap[b]? = u.heap[b]?):Io lw ix B v Li os os' k u':=by
 have hch:∀b,b<u.heap.size→¬DD lw B v Li b→u'.heap[b]? = u.heap[b]? :=fun b hb hn=>hu b hb (by by_cases e:b<lw;exact .inl e;by_cases e2:b≤B;exact absurd (Or.inl ⟨by omega,e2⟩) hn;exact .inr (by omega));refine⟨h.sam,fun j hj hne=>(h.ne j hj hne).step hz hch (fun _ _ q=>q),fun hi=>?_,h.no,fun b e=>⟨(h.fr b e).1,Nat.lt_of_lt_of_le (h.fr b e).2.1 hz,(h.fr b e).2.2⟩⟩;obtain⟨h1,h2⟩:=h.eq hi;refine⟨h1.step hz hch (fun _ _ q=>q) (fun b eb=>?_),h2⟩;rw[h2]at eb;have h3:=h.fr b eb;exact hu b h3.2.1 (.inr h3.1)
def DN (lw B N:Nat)(v:Value)(Li:Option Nat)(b:Nat):Prop:=(lw≤b∧b≤B)∨N≤b∨v.ownBlock=some b∨Li=some b
structure Ng (lw ix lo:Nat) (os:List aG) (n:Nat) (hs:List (List Int)) (m:Nat) (O:Option Addr) (c:Nat) (K:Option Addr) (d:Nat) (os':List aG) (B N:Nat) (Li:Option Nat) (u:World):Prop where
 l:os'.length=n
 nc:n≤c
 md:m≤d
 lwo:lw≤lo
 lB:lo≤B
 BN:B<N
 Nu:N≤u.heap.size
 ro:u.ownsRow (B+1) 104 9 (.slice O n c) n (os'.flatMap nV)
 rk:u.ownsRow lo 41 32 (.slice K m d) m (hs.flatMap nA)
 bo:∀b,(Value.slice O n c).ownBlock=some b→B<b∧b<N
 bk:∀b,(Value.slice K m d).ownBlock=some b→lo≤b∧b<B
 sam:∀j,j<n→qR (bz os j) (bz os' j)
 ne:∀j,j<n→j≠ix→qA (DN lw B N (.slice O n c) Li) u (fun x=>dM x (bz os' j))
 eq:ix<n→yU B (DN lw B N (.slice O n c) Li) u (bz os' ix)∧(Value.slice (bz os' ix).L (bz os' ix).np (bz os' ix).cp).ownBlock=Li
 no:n≤ix→Li=none
 fr:∀b,Li=some b→B<b∧b<N∧(Value.slice O n c).ownBlock≠some b
theorem o6 {u u':World} {base s n:Nat} {T:TypeId} {v:Value} {cs:List Value} (h:u.ownsRow base T s v n cs)(he:∀b,v.ownBlock=some b→u'.heap[b]? = u.heap[b]?):u'.ownsRow base T s v n cs:=by
 refine⟨h.1,h.2.imp id ?_⟩;rintro ⟨g,cap,cur,rfl,hg,hh,rest⟩;exact⟨g,cap,cur,rfl,hg,(he g rfl).trans hh,rest⟩
theorem Ng.keep {lw ix lo n m c d B N:Nat} {os os':List aG} {hs:List (List Int)} {O K:Option Addr} {Li:Option Nat} {u u':World} (h:Ng lw ix lo os n hs m O c K d os' B N Li u)(hz:u.heap.size≤u'.heap.size)(hu:∀b,(b<lw∨B<b)→b<N→u'.heap[b]? = u.heap[b]?)(hk:∀b,lo≤b→b<B→u'.heap[b]? = u.heap[b]?):Ng lw ix lo os n hs m O c K d os' B N Li u':=by
 have hch:∀b,b<u.heap.size→¬DN lw B N (.slice O n c) Li b→u'.heap[b]? = u.heap[b]? :=fun b hb hn=>hu b (by by_cases e:b<lw;exact .inl e;by_cases e2:b≤B;exact absurd (Or.inl ⟨by omega,e2⟩) hn;exact .inr (by omega)) (by by_cases e:N≤b;exact absurd (Or.inr (Or.inl e)) hn;omega);refine⟨h.l,h.nc,h.md,h.lwo,h.lB,h.BN,Nat.le_trans h.Nu hz,o6 h.ro (fun b e=>hu b (.inr (h.bo b e).1) (h.bo b e).2),o6 h.rk (fun b e=>hk b (h.bk b e).1 (h.bk b e).2),h.bo,h.bk,h.sam,fun j hj hne=>(h.ne j hj hne).step hz hch (fun _ _ q=>q),fun hi=>?_,h.no,h.fr⟩;obtain⟨h1,h2⟩:=h.eq hi;refine⟨h1.step hz hch (fun _ _ q=>q) (fun b eb=>?_),h2⟩;rw[h2]at eb;have h3:=h.fr b eb;exact hu b (.inr h3.1) h3.2.1
theorem Ng.below {lw ix lo n m c d B N:Nat} {os os':List aG} {hs:List (List Int)} {O K:Option Addr} {Li:Option Nat} {u u':World} (h:Ng lw ix lo os n hs m O c K d os' B N Li u)(hb:Below u.heap.size u u'):Ng lw ix lo os n hs m O c K d os' B N Li u':=
 h.keep hb.size (fun b _ h2=>hb.block b (Nat.lt_of_lt_of_le h2 h.Nu)) (fun b _ h2=>hb.block b (by have:=h.Nu;have:=h.BN;omega))
def Vp (lw ix:Nat)(os:List aG)(n:Nat)(hs:List (List Int))(m:Nat)(w:World)(e:Ending)(w':World):Prop:=∃(O:Option Addr) (c:Nat) (K:Option Addr) (d:Nat) (os':List aG) (B:Nat) (Li:Option Nat),e = .returned (iA O n c K m d)∧Ng lw ix w.heap.size os n hs m O c K d os' B w'.heap.size Li w'∧Below w.heap.size w w'
theorem P5 {lw ix lo n m c d B:Nat} {os os':List aG} {hs:List (List Int)} {O K:Option Addr} {Li:Option Nat} {u:World} (hl:os'.length=n)(hnc:n≤c)(hmd:m≤d)(hlw:lw≤lo)(hlB:lo≤B)(hBu:B<u.heap.size)(hro:u.ownsRow (B+1) 104 9 (.slice O n c) n (os'.flatMap nV))(hrk:u.ownsRow lo 41 32 (.slice K m d) m (hs.flatMap nA))(hkB:∀b,(Value.slice K m d).ownBlock=some b→b<B)(h:Io lw ix B (.slice O n c) Li os os' n u):Ng lw ix lo os n hs m O c K d os' B u.heap.size Li u:=by
 have hD:∀b,b<u.heap.size→DN lw B u.heap.size (.slice O n c) Li b→DD lw B (.slice O n c) Li b:=fun b hb hd=>by
  rcases hd with e | e | e | e
  · exact .inl e
  · omega
  · exact .inr (.inl e)
  · exact .inr (.inr e)
 refine⟨hl,hnc,hmd,hlw,hlB,hBu,Nat.le_refl _,hro,hrk,fun b e=>?_,fun b e=>⟨(World.ownsRow.lt hrk b e).1,hkB b e⟩,h.sam,fun j hj hne=>(h.ne j hj hne).shrink hD,fun hi=>?_,h.no,h.fr⟩
 ·
  have:=World.ownsRow.lt hro b e;exact⟨by omega,this.2⟩
 ·
  obtain⟨h1,h2⟩:=h.eq hi;exact⟨h1.step (Nat.le_refl _) (fun _ _ _=>rfl) hD (fun _ _=>rfl),h2⟩
theorem JM (ix:Nat)(O:Option Addr)(os:List aG)(n c:Nat)(K:Option Addr)(hs:List (List Int))(m d:Nat)(hn:Hid (os.length=n))(hm:Hid (hs.length=m))(hb1:n≤1000000)(hb2:m≤1000000)(hS:∀k,k<n→fE (bz os k))(w:World)(hO:Hid (Os w O os))(hK:Hid (Hs w K hs)) :
  Calls Tryz.prog 75 #[iA O n c K m d] w (Vp 0 ix os n hs m w):=by
 obtain⟨w0,HW,ai,kC⟩:=st2 (jC O n c K m d) sG (.cells #[.slice none 0 0, .slice none 0 0] 52) sZ w;have E_:=fo (fun u=>Os u O os) ai hO (·.below);have KN:=fo (fun u=>Hs u K hs) ai hK (·.below);have nZ:=Cj (w0:=w0) (o:= .cells #[.slice none 0 0, .slice none 0 0] 52) (w.heap.size+1) (by rw[←HW.out];exact heap_alloc2_new _ _ _);have ah:=bI w0;clear hO hK;have lV:Hid (w0.heap.size=w.heap.size+2):=aa (by rw[←HW.out];simp);obtain⟨i1,hi1,hy0,hy1,hy2⟩:=info_parts Eg;obtain⟨i2,hi2,hx0,hx1,hx2⟩:=info_parts Kv;go_in
 go_wp2_with fail
 rw[HW.out];have zc:=kC.out _ ah
 go_wp2_with fail
 refine(JL K hs m d hm hb2 _ (KN.out _ ah)).mono ?_;rintro e w1 ⟨K1,d1,rfl,hk1,hb0⟩;have ax:=bJ ah hb0;clear zc hb0;have zc:=kC.out _ ax
 go_upto_region 2 with(fail)
 have HB1:=ax;have Um:=aa (mE hk1);have HK1:=aa hk1;obtain⟨B,hB⟩:∃x,w1.heap.size=x:=⟨_,rfl⟩;obtain⟨W,hW⟩:∃x,w1.alloc (.cells #[.slice none 0 0, .slice K1 m d1] 52)=x:=⟨_,rfl⟩;have zy:Hid (W.heap.size=B+1∧w0.heap.size≤B):=aa ⟨by rw[←hW,←hB];simp,by rw[←hB];exact HB1.out.size⟩;have hbk:W.heap[B]? = some (.cells #[.slice none 0 0, .slice K1 m d1] 52):=by rw[←hW,←hB];exact heap_alloc_new _ _
 have qW:Hid (Own W ⟨B,0,none⟩ (.slice none 0 0)):=aa ⟨au hbk 0,ay hbk 0⟩;have XU:Hid (Own W ⟨B,1,none⟩ (.slice K1 m d1)):=aa ⟨au hbk 1,ay hbk 1⟩;have cu:Hid (Below w0.heap.size w0 W):=aa (ag HB1.out (by rw[←hW];exact af _ _));have HKW:Hid (Below w1.heap.size w1 W):=aa (by rw[←hW];exact af _ _);have J3:=aa hB;rw[hW,hB];clear hW hB hbk hk1;clear zc;have zc:=kC.out _ cu;go_wp2;clear zc
 go_loopw [16] (fun i u=>∃(k:Nat) (v:Value) (os':List aG) (Li:Option Nat),k≤n∧i = .int .i64 k∧Hid (os'.length=k)∧Hid (Own u ⟨B,0,none⟩ v)∧Hid (Own u ⟨B,1,none⟩ (.slice K1 m d1))∧Hid (u.ownsRow (B+1) 104 9 v k (os'.flatMap nV))∧Hid (Io 0 ix B v Li os os' k u)∧Hid (Below B W u)) (fun i _=>n-(intOf i).toNat)
 case atStart=>exact⟨0,_, [],none,by omega,rfl,aa rfl,qW,XU,aa (World.ownsRow_nil _ _ _ _),aa (Io.nil _ _ _ _ _ _),aa (Below.refl _ _)⟩
 case round=>
  obtain⟨k,v,os',Li,hk,rfl,si,HV,qV,HO,HG,aD⟩:=hrel;obtain⟨wo,rfl⟩:∃wo:World,wo=wr:=⟨_,rfl⟩;have jw:Hid (Below w0.heap.size w0 wo):=aa (cu.out.trans (aD.out.mono zy.out.2));have hBW:=aD.out.size;have hsb:=zy.out
  by_cases hlt:k<n
  ·
   have hkl:k<os.length:=by rw[hn.out];exact hlt
   obtain⟨b,f,hA,h9,hok⟩:=(E_.out _ jw).out k hkl;subst hA;have hSo:=hS k hlt;obtain⟨o,ho⟩:∃o,os.getD k dN=o:=⟨_,rfl⟩;have oI:Hid (bz os k=o):=aa ho;rw[ho]at h9 hok;rw[oI.out]at hSo;obtain⟨j0,j1,j2,j3,j4,j5,j6,j7,j8⟩:=h9;obtain⟨ok1,Me,⟨Md,UG⟩,UI,UH,Mc⟩:=hok;have Ih:=aa Mc;have qi:=aa Md;have Ar:=aa ok1;have HLZ:=aa Me;have Re:=aa UI;have l8:=aa UH;have hna:o.na≤100000:=by rw[←ok1];have:=hSo.a;omega
   have hnz:o.nz≤100000:=by rw[←Me];have:=hSo.z;omega
   have hnp:o.np≤8:=by rw[←Md];exact hSo.n
   have HSO:=aa hSo.p;clear ho ok1 Me Md UG UI UH Mc hkl hSo;have zc:=kC.out _ jw;have hq0:=af wo (l6 o);have az:=bJ jw hq0;clear hq0;have pK:=kC.out _ az;have hb5:(wo.alloc (l6 o)).heap[wo.heap.size]? = some (l6 o):=heap_alloc_new _ _;have HX0:Hid (Own (wo.alloc (l6 o)) ⟨wo.heap.size,0,none⟩ (.int .i64 o.num)∧Own (wo.alloc (l6 o)) ⟨wo.heap.size,1,none⟩ (.string o.rs)∧Own (wo.alloc (l6 o)) ⟨wo.heap.size,2,none⟩ (.int .i64 o.E1)∧Own (wo.alloc (l6 o)) ⟨wo.heap.size,3,none⟩ (.int .i64 o.E2)∧Own (wo.alloc (l6 o)) ⟨wo.heap.size,4,none⟩ (.slice o.A o.na o.ca)∧Own (wo.alloc (l6 o)) ⟨wo.heap.size,5,none⟩ (.int .i64 o.C)∧Own (wo.alloc (l6 o)) ⟨wo.heap.size,6,none⟩ (.slice o.Z o.nz o.cz)∧Own (wo.alloc (l6 o)) ⟨wo.heap.size,7,none⟩ (.slice o.L o.np o.cp)∧Own (wo.alloc (l6 o)) ⟨wo.heap.size,8,none⟩ (.int .i64 o.key)):=aa ⟨⟨au hb5 0,ay hb5 0⟩,⟨au hb5 1,ay hb5 1⟩,⟨au hb5 2,ay hb5 2⟩,⟨au hb5 3,ay hb5 3⟩,⟨au hb5 4,ay hb5 4⟩,⟨au hb5 5,ay hb5 5⟩,⟨au hb5 6,ay hb5 6⟩,⟨au hb5 7,ay hb5 7⟩,⟨au hb5 8,ay hb5 8⟩⟩;obtain⟨⟨x0,y0⟩,⟨x1,y1⟩,⟨x2,y2⟩,⟨x3,y3⟩,⟨x4,y4⟩,⟨x5,y5⟩,⟨x6,y6⟩,⟨x7,y7⟩,⟨x8,y8⟩⟩:=HX0.out;clear hb5
   go_upto_region 5 with(fail)
   clear zc pK;clear x0 y0 x1 y1 x2 y2 x3 y3 x4 y4 x5 y5 x6 y6 x7 y7 x8 y8;obtain⟨w5,Ta⟩:∃x,wo.alloc (l6 o)=x:=⟨_,rfl⟩;rw[Ta]at HX0 az ⊢;have Nb:Hid (w5.heap.size=wo.heap.size+1):=aa (by rw[←Ta];simp);have l9:Hid (Below wo.heap.size wo w5):=aa (by rw[←Ta];exact af _ _);clear Ta j0 j1 j2 j3 j4 j5 j6 j7 j8;obtain⟨X,hX⟩:∃x,wo.heap.size=x:=⟨_,rfl⟩;have ae8:Hid (Sl w5 o.A o.al):=aa (Re.out.below l9.out);have ae0:Hid (Sl w5 o.Z o.zs):=aa (l8.out.below l9.out);have abR:Hid (Pa w5 o.L o.ps):=aa (Ih.out.below l9.out);rw[hX]at HX0 Nb hBW ⊢;have TY:=aa hX;clear hX;obtain⟨⟨x0,y0⟩,⟨x1,y1⟩,⟨x2,y2⟩,⟨x3,y3⟩,⟨x4,y4⟩,⟨x5,y5⟩,⟨x6,y6⟩,⟨x7,y7⟩,⟨x8,y8⟩⟩:=HX0.out
   go_wp2_with fail
   refine(Ed o.A o.na o.ca o.al o.C o.Z o.nz o.cz o.zs Ar HLZ hna hnz _ ae8 ae0).mono ?_;rintro e w6 ⟨A2,EH,Z2,EG,rfl,hsa,hsz,hb6⟩;have abM:=aa hsa;have abC:=aa hsz;have oM:Hid (Below w5.heap.size w5 w6):=aa hb6;clear hsa hsz hb6 x0 y0 x1 y1 x2 y2 x3 y3 x4 y4 x5 y5 x6 y6 x7 y7 x8 y8
   have HX6:Hid (Own w6 ⟨X,0,none⟩ (.int .i64 o.num)∧Own w6 ⟨X,1,none⟩ (.string o.rs)∧Own w6 ⟨X,2,none⟩ (.int .i64 o.E1)∧Own w6 ⟨X,3,none⟩ (.int .i64 o.E2)∧Own w6 ⟨X,4,none⟩ (.slice o.A o.na o.ca)∧Own w6 ⟨X,5,none⟩ (.int .i64 o.C)∧Own w6 ⟨X,6,none⟩ (.slice o.Z o.nz o.cz)∧Own w6 ⟨X,7,none⟩ (.slice o.L o.np o.cp)∧Own w6 ⟨X,8,none⟩ (.int .i64 o.key)):=aa (by
    obtain⟨X0,X1,X2,X3,X4,X5,X6,X7,X8⟩:=HX0.out
    exact⟨X0.below oM.out,X1.below oM.out,X2.below oM.out,X3.below oM.out,X4.below oM.out,X5.below oM.out,X6.below oM.out,X7.below oM.out,X8.below oM.out⟩)
   obtain⟨⟨x0,y0⟩,⟨x1,y1⟩,⟨x2,y2⟩,⟨x3,y3⟩,⟨x4,y4⟩,⟨x5,y5⟩,⟨x6,y6⟩,⟨x7,y7⟩,⟨x8,y8⟩⟩:=HX6.out
   go_upto_region 6 with(fail)
   clear x0 y0 x1 y1 x2 y2 x3 y3 x4 y4 x5 y5 x6 y6 x7 y7 x8 y8;obtain⟨w7,hw7⟩:∃x,((w6.setCell ⟨X,4,none⟩ (.slice A2 o.na EH)).setCell ⟨X,5,none⟩ (.int .i64 o.C)).setCell ⟨X,6,none⟩ (.slice Z2 o.nz EG)=x:=⟨_,rfl⟩
   have HX7:Hid (Own w7 ⟨X,0,none⟩ (.int .i64 o.num)∧Own w7 ⟨X,1,none⟩ (.string o.rs)∧Own w7 ⟨X,2,none⟩ (.int .i64 o.E1)∧Own w7 ⟨X,3,none⟩ (.int .i64 o.E2)∧Own w7 ⟨X,4,none⟩ (.slice A2 o.na EH)∧Own w7 ⟨X,5,none⟩ (.int .i64 o.C)∧Own w7 ⟨X,6,none⟩ (.slice Z2 o.nz EG)∧Own w7 ⟨X,7,none⟩ (.slice o.L o.np o.cp)∧Own w7 ⟨X,8,none⟩ (.int .i64 o.key)):=aa (by
    obtain⟨X0,X1,X2,X3,X4,X5,X6,X7,X8⟩:=HX6.out
    have gn:∀j u9,j≠4→j≠5→j≠6→Own w6 ⟨X,j,none⟩ u9→Own w7 ⟨X,j,none⟩ u9:=fun j u9 h4 h5 h6 h=>by
     rw[←hw7];exact ak (ak (ak h (by simp <;> omega)) (by simp <;> omega)) (by simp <;> omega)
    refine⟨gn _ _ (by decide) (by decide) (by decide) X0,gn _ _ (by decide) (by decide) (by decide) X1,gn _ _ (by decide) (by decide) (by decide) X2,gn _ _ (by decide) (by decide) (by decide) X3, ?_, ?_, ?_,gn _ _ (by decide) (by decide) (by decide) X7,gn _ _ (by decide) (by decide) (by decide) X8⟩
    · rw[←hw7];exact ak (ak (bu X4) (by simp)) (by simp)
    · rw[←hw7];exact ak (bu (ak X5 (by simp))) (by simp)
    · rw[←hw7];exact bu (ak (ak X6 (by simp)) (by simp)))
   have Xe:X<w5.heap.size:=by have:=Nb.out;omega
   have afU:Hid (qA (fun b=>b<w5.heap.size) w7 (fun u=>Sl u A2 o.al)):=aa (by rw[←hw7];exact(((A7 abM.out.1 fun b o e h0=>Nat.not_lt.2 (abM.out.2 b o e h0)).setCell Xe).setCell Xe).setCell Xe);have afS:Hid (qA (fun b=>b<w5.heap.size) w7 (fun u=>Sl u Z2 o.zs)):=aa (by rw[←hw7];exact(((A7 abC.out.1 fun b o e h0=>Nat.not_lt.2 (abC.out.2 b o e h0)).setCell Xe).setCell Xe).setCell Xe)
   have vK:Hid (Below wo.heap.size wo w7):=aa (by
    have e9:wo.heap.size≤X:=by rw[TY.out];exact Nat.le_refl _
    rw[←hw7];exact(((ag l9.out oM.out).setCell e9 _).setCell e9 _).setCell e9 _)
   have HZ7:Hid (w5.heap.size≤w7.heap.size):=aa (by rw[←hw7,World.size_setCell,World.size_setCell,World.size_setCell];exact oM.out.size);have afi:Hid (Pa w7 o.L o.ps):=aa (Ih.out.below vK.out);rw[hw7];clear hw7 Xe;obtain⟨⟨x0,y0⟩,⟨x1,y1⟩,⟨x2,y2⟩,⟨x3,y3⟩,⟨x4,y4⟩,⟨x5,y5⟩,⟨x6,y6⟩,⟨x7,y7⟩,⟨x8,y8⟩⟩:=HX7.out;go_wp2;clear x0 y0 x1 y1 x2 y2 x3 y3 x4 y4 x5 y5 x6 y6 x7 y7 x8 y8
   go_loopw [6,29] (fun pv i u=>∃(j:Nat) (ps':List aS),j≤o.np∧i = .int .i64 j∧Hid (ps'.length=j)∧Hid (u.ownsRow w7.heap.size 56 5 pv j (ps'.flatMap xz))∧Hid (∀q,q<j→wm (o.ps.getD q aC) (ps'.getD q aC)∧qA (fun b=>b<w7.heap.size∨pv.ownBlock=some b) u (fun x=>yT x (ps'.getD q aC)))∧Hid (Below w7.heap.size w7 u)) (fun _ i _=>o.np-(intOf i).toNat)
   case atStart=>exact⟨0, [],by omega,rfl,aa rfl,aa (World.ownsRow_nil _ _ _ _),aa (fun q h=>absurd h (by omega)),aa (Below.refl _ _)⟩
   case round=>
    obtain⟨j,ps',hj,rfl,Yi,HPR,HPS,EW⟩:=hrel;obtain⟨wi,rfl⟩:∃wi:World,wi=wr:=⟨_,rfl⟩
    by_cases hlj:j<o.np
    ·
     obtain⟨b2,f2,hA2,i0,i1,i2,i3,i4,i5⟩:=(afi.out.below EW.out) j (by rw[qi.out];exact hlj);obtain⟨p,hp⟩:∃x,o.ps.getD j aC=x:=⟨_,rfl⟩;have hps:=HSO.out p (by rw[←hp];exact iL (by rw[qi.out];exact hlj));rw[hp]at i0 i1 i2 i3 i4 i5;obtain⟨l1,l2,s1,s2⟩:=i5;have Yj:=aa l1;have HP2:=aa l2;have HP3:Hid (Sl (wi.alloc (sM p)) p.A p.al):=aa (s1.below (af _ _));have HP4:Hid (Sl (wi.alloc (sM p)) p.Z p.zs):=aa (s2.below (af _ _));have hpa:p.na≤100000:=by rw[←l1];have:=hps.1;omega
     have hpz:p.nz≤100000:=by rw[←l2];have:=hps.2;omega
     have HPE:=aa hp;clear hp hps l1 l2 s1 s2;have hbp:(wi.alloc (sM p)).heap[wi.heap.size]? = some (sM p):=heap_alloc_new _ _;have HLP:=aa hA2;have sK:Hid (Below wi.heap.size wi (wi.alloc (sM p))):=aa (af _ _);have p0:=au hbp 0;have q0:=ay hbp 0;have p1:=au hbp 1;have q1:=ay hbp 1;have p2:=au hbp 2;have q2:=ay hbp 2;have p3:=au hbp 3;have q3:=ay hbp 3;have p4:=au hbp 4;have q4:=ay hbp 4;clear hbp;have k0:=cell_below i0 sK.out;have k1:=cell_below i1 sK.out;have k2:=cell_below i2 sK.out;have k3:=cell_below i3 sK.out;have k4:=cell_below i4 sK.out;have x7:=(HX7.out.2.2.2.2.2.2.2.1.below EW.out).1;obtain⟨wp,hwp⟩:∃x,wi.alloc (sM p)=x:=⟨_,rfl⟩
     go_upto_region 10 with(fail)
     rw[hwp]at HP3 HP4 sK p0 p1 p2 p3 p4;have HSP:Hid (wp.heap.size=wi.heap.size+1):=aa (by rw[←hwp];simp);clear hwp hA2 i0 i1 i2 i3 i4 k0 k1 k2 k3 k4 q0 q1 q2 q3 q4 x7
     go_wp2_with fail
     refine(V8 p Yj HP2 hpa hpz _ HP3 HP4).mono ?_;rintro e w8 ⟨p',rfl,hsp,hlp,hda,hdz,YZ⟩;have ae4:=aa hsp;have abZ:=aa hlp;have afT:=aa hda;have afR:=aa hdz;have zT:Hid (Below wp.heap.size wp w8):=aa YZ;clear hsp hlp hda hdz YZ p0 p1 p2 p3 p4;have Ke:Hid (Below wi.heap.size wi w8):=aa (ag sK.out zT.out);have afe:Hid (w8.ownsRow w7.heap.size 56 5 u6 j (ps'.flatMap xz)):=aa (World.ownsRow.kept HPR.out (lQ Ke.out none) (lM _));have hown:(w8.alloc (.cells #[.int .i64 p'.ix, .int .i64 p'.v, .slice p'.A p'.na p'.ca, .int .i64 p'.C, .slice p'.Z p'.nz p'.cz] 56)).ownsRow w7.heap.size 56 5 u6 j (ps'.flatMap xz):=afe.out.alloc _;have b5:j+1≤maxLen:=by unfold maxLen;omega
     have b6:(j+1)*72≤140737488355328:=by omega
     have b7:w7.heap.size≤(w8.alloc (.cells #[.int .i64 p'.ix, .int .i64 p'.v, .slice p'.A p'.na p'.ca, .int .i64 p'.C, .slice p'.Z p'.nz p'.cz] 56)).heap.size:=by have:=EW.out.size;have:=Ke.out.size;simp;omega
     go_wp2_with (at_builtin;refine wpList_append_lies rfl _ _ 102 rfl w7.heap.size 56 i2 (.agg #[.int .i64 0, .int .i64 0, .slice none 0 0, .int .i64 0, .slice none 0 0]) 5 72 Tryz.underlying102 hi2 hx0 hx1 hx2 (by rfl) (by decide) _ _ _ rfl hown ⟨w8.heap.size,0,none⟩ 1 1 [.int .i64 p'.ix, .int .i64 p'.v, .slice p'.A p'.na p'.ca, .int .i64 p'.C, .slice p'.Z p'.nz p'.cz] rfl rfl (World.news_of_block (cs:=#[.int .i64 p'.ix, .int .i64 p'.v, .slice p'.A p'.na p'.ca, .int .i64 p'.C, .slice p'.Z p'.nz p'.cz]) (t:=56) (fr:=(0,0)) (heap_alloc_new w8 _)) (by simp[Value.oneCell']) (by decide) b5 b6 b7 _ rfl ?_;intro gg cap w9 nR dm xS Ev)
     have acs:Hid (Below w8.heap.size w8 (w8.alloc (.cells #[.int .i64 p'.ix, .int .i64 p'.v, .slice p'.A p'.na p'.ca, .int .i64 p'.C, .slice p'.Z p'.nz p'.cz] 56))):=aa (af _ _);have hu6:∀b9,Value.ownBlock u6=some b9→w7.heap.size≤b9∧b9<wi.heap.size:=fun b9 e=>World.ownsRow.lt HPR.out _ e;have hzz:=Ke.out.size;have hzw:=zT.out.size;have aib:=HSP.out;have hga:∀b9,(w8.alloc (.cells #[.int .i64 p'.ix, .int .i64 p'.v, .slice p'.A p'.na p'.ca, .int .i64 p'.C, .slice p'.Z p'.nz p'.cz] 56)).heap.size≤b9∨Value.ownBlock u6=some b9→((.slice (some ⟨gg,0,none⟩) (j+1) cap):Value).ownBlock=some b9→True:=fun _ _ _=>trivial
     have hnew:∀b9,((.slice (some ⟨gg,0,none⟩) (j+1) cap):Value).ownBlock=some b9→Value.ownBlock u6=some b9∨(w8.alloc (.cells #[.int .i64 p'.ix, .int .i64 p'.v, .slice p'.A p'.na p'.ca, .int .i64 p'.C, .slice p'.Z p'.nz p'.cz] 56)).heap.size≤b9:=fun b9 e=>by
      cases e
      rcases xS with e | e
      · exact Or.inl e
      · exact Or.inr (show(w8.alloc (.cells #[.int .i64 p'.ix, .int .i64 p'.v, .slice p'.A p'.na p'.ca, .int .i64 p'.C, .slice p'.Z p'.nz p'.cz] 56)).heap.size≤gg by omega)
     have afg:Hid ((ps' ++ [p']).length=j+1):=aa (by rw[List.length_append,Yi.out];rfl);have afd:Hid (w9.ownsRow w7.heap.size 56 5 (.slice (some ⟨gg,0,none⟩) (j+1) cap) (j+1) ((ps' ++ [p']).flatMap xz)):=aa (by rw[List.flatMap_append];simpa using nR);have Kc:Hid (Below w7.heap.size w7 w9):=aa (((ag EW.out Ke.out).alloc (by have:=EW.out.size;omega) (.cells #[.int .i64 p'.ix, .int .i64 p'.v, .slice p'.A p'.na p'.ca, .int .i64 p'.C, .slice p'.Z p'.nz p'.cz] 56)).grown dm (by have:=EW.out.size;simp;omega) (fun b9 e=>(hu6 b9 e).1))
     have afb:Hid (∀q,q<j+1→wm (o.ps.getD q aC) ((ps' ++ [p']).getD q aC)∧qA (fun b=>b<w7.heap.size∨((.slice (some ⟨gg,0,none⟩) (j+1) cap):Value).ownBlock=some b) w9 (fun x=>yT x ((ps' ++ [p']).getD q aC))):=aa (fun q hq=>by
      by_cases e:q=j
      ·
       subst e;have e9:(ps' ++ [p']).getD q aC=p':=by rw[List.getD_eq_getElem?_getD,List.getElem?_append_right (by rw[Yi.out];exact Nat.le_refl _),Yi.out,Nat.sub_self];rfl
       rw[e9,HPE.out];refine⟨ae4.out, ?_⟩;have hd:=((afT.out.and afR.out).imp (ψ:=fun x=>yT x p') (fun u9 h9=>⟨abZ.out.1,abZ.out.2,h9.1,h9.2⟩)).below acs.out;refine hd.grown dm (fun b9 e=>by have:=(hu6 b9 e).2;omega) (fun b9 yN e=>?_);have h77:=EW.out.size;rcases e with e | e
       · omega
       ·
        rcases hnew b9 e with e | e
        · have:=(hu6 b9 e).2;omega
        · omega
      ·
       have e9:(ps' ++ [p']).getD q aC=ps'.getD q aC:=by rw[List.getD_eq_getElem?_getD,List.getElem?_append_left (by rw[Yi.out];omega),←List.getD_eq_getElem?_getD]
       rw[e9];obtain⟨h8,h9⟩:=HPS.out q (by omega);refine⟨h8,((h9.below Ke.out).below acs.out).grown dm (fun b9 e=> .inr e) (fun b9 yN e=>?_)⟩;rcases e with e | e
       · exact .inl e
       ·
        rcases hnew b9 e with e | e
        · exact .inr e
        · omega)
     clear hown nR dm xS Ev hnew hga hu6 b5 b6 b7;go_wp2
     go_roundw
     case rel=>exact⟨j+1,_,by omega,by go_num,afg,afd,afb,Kc⟩
     case measure=>simp[intOf];omega
    ·
     obtain rfl:j=o.np:=by omega
     obtain⟨L3,Du,hv3,hc3,aaH⟩:=mE HPR.out;subst hv3;have QY:=aa hc3;have Uw:=aa aaH;clear hc3 aaH
     have HXi:Hid (Own wi ⟨X,0,none⟩ (.int .i64 o.num)∧Own wi ⟨X,1,none⟩ (.string o.rs)∧Own wi ⟨X,2,none⟩ (.int .i64 o.E1)∧Own wi ⟨X,3,none⟩ (.int .i64 o.E2)∧Own wi ⟨X,4,none⟩ (.slice A2 o.na EH)∧Own wi ⟨X,5,none⟩ (.int .i64 o.C)∧Own wi ⟨X,6,none⟩ (.slice Z2 o.nz EG)∧Own wi ⟨X,7,none⟩ (.slice o.L o.np o.cp)∧Own wi ⟨X,8,none⟩ (.int .i64 o.key)):=aa (by
      obtain⟨X0,X1,X2,X3,X4,X5,X6,X7,X8⟩:=HX7.out
      exact⟨X0.below EW.out,X1.below EW.out,X2.below EW.out,X3.below EW.out,X4.below EW.out,X5.below EW.out,X6.below EW.out,X7.below EW.out,X8.below EW.out⟩)
     obtain⟨⟨x0,y0⟩,⟨x1,y1⟩,⟨x2,y2⟩,⟨x3,y3⟩,⟨x4,y4⟩,⟨x5,y5⟩,⟨x6,y6⟩,⟨x7,y7⟩,⟨x8,y8⟩⟩:=HXi.out
     go_upto_region 13 with(fail)
     clear x0 y0 x1 y1 x2 y2 x3 y3 x4 y4 x5 y5 x6 y6 x7 y7 x8 y8;obtain⟨w8,hw8⟩:∃x,wi.setCell ⟨X,7,none⟩ (.slice L3 o.np Du)=x:=⟨_,rfl⟩
     have HX8:Hid (Own w8 ⟨X,0,none⟩ (.int .i64 o.num)∧Own w8 ⟨X,1,none⟩ (.string o.rs)∧Own w8 ⟨X,2,none⟩ (.int .i64 o.E1)∧Own w8 ⟨X,3,none⟩ (.int .i64 o.E2)∧Own w8 ⟨X,4,none⟩ (.slice A2 o.na EH)∧Own w8 ⟨X,5,none⟩ (.int .i64 o.C)∧Own w8 ⟨X,6,none⟩ (.slice Z2 o.nz EG)∧Own w8 ⟨X,7,none⟩ (.slice L3 o.np Du)∧Own w8 ⟨X,8,none⟩ (.int .i64 o.key)):=aa (by
      obtain⟨X0,X1,X2,X3,X4,X5,X6,X7,X8⟩:=HXi.out;rw[←hw8]
      exact⟨ak X0 (by simp),ak X1 (by simp),ak X2 (by simp),ak X3 (by simp),ak X4 (by simp),ak X5 (by simp),ak X6 (by simp),bu X7,ak X8 (by simp)⟩)
     have hX7:X<w5.heap.size:=by have:=Nb.out;omega
     have hZi:w7.heap.size≤wi.heap.size:=EW.out.size;have hZ8:w8.heap.size=wi.heap.size:=by rw[←hw8,World.size_setCell]
     have hXo:wo.heap.size=X:=TY.out;have sK:Hid (Below wo.heap.size wo w8):=aa (by rw[←hw8];exact(ag vK.out EW.out).setCell (show wo.heap.size≤X by omega) _)
     have HQ8:Hid (yU B (fun b=>(0≤b∧b<X)∨(Value.slice L3 o.np Du).ownBlock=some b) w8 { o with A:=A2,ca:=EH,Z:=Z2,cz:=EG,L:=L3,cp:=Du,ps:=ps' }):=aa (by
      have hbg:Below w7.heap.size w7 wi:=EW.out;have WB:=HZ7.out;have h5:=Nb.out;refine⟨Ar.out,HLZ.out,Yi.out,QY.out, ?_, ?_, ?_, ?_⟩
      ·
       refine afU.out.step (by omega) (fun b9 yN hn9=>?_) (fun b9 yN e=>?_)
       · rw[←hw8];exact(Go.Deep.blk_setCell_other _ _ _ _ (show b9≠X by omega)).trans (hbg.block b9 yN)
       ·
        rcases e with e | e
        · omega
        · have:=(Uw.out b9 e).1;omega
      ·
       refine afS.out.step (by omega) (fun b9 yN hn9=>?_) (fun b9 yN e=>?_)
       · rw[←hw8];exact(Go.Deep.blk_setCell_other _ _ _ _ (show b9≠X by omega)).trans (hbg.block b9 yN)
       ·
        rcases e with e | e
        · omega
        · have:=(Uw.out b9 e).1;omega
      ·
       intro w' h' q hq;refine((HPS.out q (by rw[←Yi.out];exact hq)).2.step (by omega) (fun b9 yN hn9=>?_) (fun b9 yN e=>?_)) w' h'
       · rw[←hw8];exact Go.Deep.blk_setCell_other _ _ _ _ (show b9≠X from fun e9=>hn9 (Or.inl (show b9<w7.heap.size by omega)))
       ·
        rcases e with e | e
        · exact Or.inl (by omega)
        · exact Or.inr e
      ·
       rw[←hw8]
       exact World.ownsRow.kept (xB HPR.out (by omega)) (jF _ _ _ _) (Or.inr (fun e=>by have:=(Uw.out _ e).1;omega)))
     rw[hw8];clear hw8;have HV8:Hid (Own w8 ⟨B,0,none⟩ v):=aa (HV.out.below sK.out);have aeQ:Hid (Own w8 ⟨B,1,none⟩ (.slice K1 m d1)):=aa (qV.out.below sK.out);have J5:Hid (w8.ownsRow (B+1) 104 9 v k (os'.flatMap nV)):=aa (World.ownsRow.kept HO.out (lQ sK.out none) (lM _));have O5:∀b9,v.ownBlock=some b9→B+1≤b9∧b9<X:=fun b9 e=>by have:=World.ownsRow.lt HO.out _ e;rw[hXo]at this;exact this
     have hBX:B<X:=by omega
     have ah2:=sK.out.size;have aeJ:=aa hZ8;obtain⟨⟨x0,y0⟩,⟨x1,y1⟩,⟨x2,y2⟩,⟨x3,y3⟩,⟨x4,y4⟩,⟨x5,y5⟩,⟨x6,y6⟩,⟨x7,y7⟩,⟨x8,y8⟩⟩:=HX8.out;obtain⟨v3,IQ⟩:=HV8.out;have hown:(w8.alloc (.cells #[.int .i64 o.num, .string o.rs, .int .i64 o.E1, .int .i64 o.E2, .slice A2 o.na EH, .int .i64 o.C, .slice Z2 o.nz EG, .slice L3 o.np Du, .int .i64 o.key] 104)).ownsRow (B+1) 104 9 v k (os'.flatMap nV):=J5.out.alloc _;have hno:v.ownBlock≠some B:=fun e=>by have:=(O5 _ e).1;omega
     have b5:k+1≤maxLen:=by unfold maxLen;omega
     have b6:(k+1)*128≤140737488355328:=by omega
     have b7:B+1≤(w8.alloc (.cells #[.int .i64 o.num, .string o.rs, .int .i64 o.E1, .int .i64 o.E2, .slice A2 o.na EH, .int .i64 o.C, .slice Z2 o.nz EG, .slice L3 o.np Du, .int .i64 o.key] 104)).heap.size:=by simp;omega
     clear hZ8
     go_wp2_with (at_builtin;refine wpList_append_lies rfl _ _ 49 rfl (B+1) 104 i1 (.agg #[.int .i64 0, .string ⟨#[]⟩, .int .i64 0, .int .i64 0, .slice none 0 0, .int .i64 0, .slice none 0 0, .slice none 0 0, .int .i64 0]) 9 128 Tryz.underlying49 hi1 hy0 hy1 hy2 (by rfl) (by decide) _ _ _ rfl hown ⟨w8.heap.size,0,none⟩ 1 1 [.int .i64 o.num, .string o.rs, .int .i64 o.E1, .int .i64 o.E2, .slice A2 o.na EH, .int .i64 o.C, .slice Z2 o.nz EG, .slice L3 o.np Du, .int .i64 o.key] rfl rfl (World.news_of_block (cs:=#[.int .i64 o.num, .string o.rs, .int .i64 o.E1, .int .i64 o.E2, .slice A2 o.na EH, .int .i64 o.C, .slice Z2 o.nz EG, .slice L3 o.np Du, .int .i64 o.key]) (t:=104) (fr:=(0,0)) (heap_alloc_new w8 _)) (by simp[Value.oneCell']) (by decide) b5 b6 b7 _ rfl ?_;intro gg cap w9 nR dm xS Ev;obtain⟨p1,p2⟩:=aJ (HV8.out.below (af w8 (.cells #[.int .i64 o.num, .string o.rs, .int .i64 o.E1, .int .i64 o.E2, .slice A2 o.na EH, .int .i64 o.C, .slice Z2 o.nz EG, .slice L3 o.np Du, .int .i64 o.key] 104))) dm hno)
     have hZ8:=aeJ.out;have hgz:(w8.alloc (.cells #[.int .i64 o.num, .string o.rs, .int .i64 o.E1, .int .i64 o.E2, .slice A2 o.na EH, .int .i64 o.C, .slice Z2 o.nz EG, .slice L3 o.np Du, .int .i64 o.key] 104)).heap.size≤w9.heap.size:=dm.size;have hsq:(w8.alloc (.cells #[.int .i64 o.num, .string o.rs, .int .i64 o.E1, .int .i64 o.E2, .slice A2 o.na EH, .int .i64 o.C, .slice Z2 o.nz EG, .slice L3 o.np Du, .int .i64 o.key] 104)).heap.size=w8.heap.size+1:=by simp
     have hlen:(os' ++ [{ o with A:=A2,ca:=EH,Z:=Z2,cz:=EG,L:=L3,cp:=Du,ps:=ps' }]).length=k+1:=by rw[List.length_append,si.out];rfl
     have UQ:∀b9,((.slice (some ⟨gg,0,none⟩) (k+1) cap):Value).ownBlock=some b9→v.ownBlock=some b9∨w8.heap.size≤b9:=fun b9 e=>by
      cases e
      rcases xS with e | e
      · exact Or.inl e
      · exact Or.inr (show w8.heap.size≤gg by omega)
     have adJ:((w9.setCell ⟨B,0,none⟩ (.slice (some ⟨gg,0,none⟩) (k+1) cap)):World).heap.size=w9.heap.size:=World.size_setCell _ _ _;have Ju:∀b9,b9<w8.heap.size→b9≠B→v.ownBlock≠some b9→((w9.setCell ⟨B,0,none⟩ (.slice (some ⟨gg,0,none⟩) (k+1) cap)):World).heap[b9]? = w8.heap[b9]? :=fun b9 h1 h2 h3=>(Go.Deep.blk_setCell_other _ _ _ _ h2).trans ((dm.block b9 (by omega) (fun e=>h3 e.symm)).trans ((af w8 (.cells #[.int .i64 o.num, .string o.rs, .int .i64 o.E1, .int .i64 o.E2, .slice A2 o.na EH, .int .i64 o.C, .slice Z2 o.nz EG, .slice L3 o.np Du, .int .i64 o.key] 104)).block b9 h1));have Zf:Hid ((w9.setCell ⟨B,0,none⟩ (.slice (some ⟨gg,0,none⟩) (k+1) cap)).ownsRow (B+1) 104 9 (.slice (some ⟨gg,0,none⟩) (k+1) cap) (k+1) ((os' ++ [{ o with A:=A2,ca:=EH,Z:=Z2,cz:=EG,L:=L3,cp:=Du,ps:=ps' }]).flatMap nV)):=aa (World.ownsRow.kept (by rw[List.flatMap_append];simpa using nR) (jF _ _ _ _) (Or.inr (fun e=>by have:=(World.ownsRow.lt nR _ e).1;omega)));have XR:Hid (Own (w9.setCell ⟨B,0,none⟩ (.slice (some ⟨gg,0,none⟩) (k+1) cap)) ⟨B,0,none⟩ (.slice (some ⟨gg,0,none⟩) (k+1) cap)):=aa (bu ⟨p1,p2⟩);have XT:Hid (Own (w9.setCell ⟨B,0,none⟩ (.slice (some ⟨gg,0,none⟩) (k+1) cap)) ⟨B,1,none⟩ (.slice K1 m d1)):=aa (ak (aJ (aeQ.out.below (af w8 (.cells #[.int .i64 o.num, .string o.rs, .int .i64 o.E1, .int .i64 o.E2, .slice A2 o.na EH, .int .i64 o.C, .slice Z2 o.nz EG, .slice L3 o.np Du, .int .i64 o.key] 104))) dm hno) (by simp));have HG9:Hid (Io 0 ix B (.slice (some ⟨gg,0,none⟩) (k+1) cap) (if k=ix then(Value.slice L3 o.np Du).ownBlock else Li) os (os' ++ [{ o with A:=A2,ca:=EH,Z:=Z2,cz:=EG,L:=L3,cp:=Du,ps:=ps' }]) (k+1) (w9.setCell ⟨B,0,none⟩ (.slice (some ⟨gg,0,none⟩) (k+1) cap))):=aa (Io.push (S:=X) (u:=wo) (u7:=w8) (o':= { o with A:=A2,ca:=EH,Z:=Z2,cz:=EG,L:=L3,cp:=Du,ps:=ps' }) HG.out si.out hXo hBX (Nat.zero_le _) (fun b9 e=>by have:=O5 b9 e;omega) (by omega) (by omega) (fun b9 h1 h2 h3=>(Ju b9 (by omega) (by omega) h3).trans (sK.out.block b9 (by omega))) (fun b9 h1 h2=>Ju b9 h2 (by omega) (fun e=>by have:=(O5 _ e).2;omega)) UQ (by rw[oI.out];exact⟨rfl,rfl,rfl,rfl,rfl,rfl,rfl,rfl,rfl,rfl,rfl,by rw[qi.out];exact Yi.out,fun q hq=>(HPS.out q (by rw[←qi.out];exact hq)).1⟩) HQ8.out (fun b9 e=>by have h1:=Uw.out b9 e;have h2:=HZ7.out;have h3:=Nb.out;omega))
     have zT:Hid (Below B W (w9.setCell ⟨B,0,none⟩ (.slice (some ⟨gg,0,none⟩) (k+1) cap))):=aa ((((aD.out.trans (sK.out.mono (by omega))).alloc (by omega) (.cells #[.int .i64 o.num, .string o.rs, .int .i64 o.E1, .int .i64 o.E2, .slice A2 o.na EH, .int .i64 o.C, .slice Z2 o.nz EG, .slice L3 o.np Du, .int .i64 o.key] 104)).grown dm (by simp;omega) (fun j hj=>by have:=(O5 j hj).1;omega)).setCell (Nat.le_refl _) _);have YM:=aa hlen;clear hown nR dm xS Ev UQ Ju p1 p2 b5 b6 b7 hno v3 IQ x0 y0 x1 y1 x2 y2 x3 y3 x4 y4 x5 y5 x6 y6 x7 y7 x8 y8 O5;go_wp2
     go_roundw
     case rel=>exact⟨k+1,_,_,(if k=ix then(Value.slice L3 o.np Du).ownBlock else Li),by omega,by go_num,YM,XR,XT,Zf,HG9,zT⟩
     case measure=>simp[intOf];omega
  ·
   obtain rfl:k=n:=by omega
   obtain⟨A3,c3,hv3,hc3,hbo⟩:=mE HO.out;subst hv3;obtain⟨A4,c4,hv4,hc4,hbk⟩:=Um.out
   cases hv4
   have YA:Hid (wo.ownsRow w0.heap.size 41 32 (.slice K1 m d1) m (hs.flatMap nA)):=aa (own_below (World.ownsRow.kept HK1.out (lQ HKW.out none) (lM _)) aD.out (fun b9 e=>by have:=(hbk b9 e).2;have:=J3.out;omega));have jU:Hid (wo.heap[w.heap.size+1]? = some (.cells #[.slice none 0 0, .slice none 0 0] 52)):=nZ.out _ jw;have Rj:=aa hbo;have Il:=aa hbk;have QY:=aa hc3;have Zo:=aa hc4;obtain⟨v3,IQ⟩:=HV.out;obtain⟨v4,v4f⟩:=qV.out;clear hbo hbk hc3 hc4;have zc:=kC.out _ jw
   go_wp2_with ((with_reducible show wpList _ _ _ (⟨none,_,_,_,_,_⟩::_) _ _);refine wpList_store_row rfl 52 _ _ rfl (w.heap.size+1) #[.slice A3 k c3, .slice K1 m d1] rfl rfl _ _ jU.out (by kernel_rfl) rfl (by simp[Value.oneCell']) ?_)
   have hrw:=setRow_heap _ _ _ #[.slice A3 k c3, .slice K1 m d1] _ _ jU.out;have bT:=aj (ag ai.out jw.out) (cs:=#[.slice A3 k c3, .slice K1 m d1]) (Nat.le_add_right w.heap.size 1);have h0:=lV.out;have hw1:=J3.out;have hw0:w.heap.size≤w0.heap.size:=by omega
   have hzs:(wo.setRow (w.heap.size+1) #[.slice A3 k c3, .slice K1 m d1]).heap.size=wo.heap.size:=by simp[World.setRow]
   refine bodyPost_ret (v:=iA A3 k c3 K1 m d1) (aK (p:=2) (ty:=52) rfl _ _ ⟨w.heap.size+1,0,none⟩ _ rfl (run_loadVar_row _ _ _ _ _ _ _ hrw Tryz.underlying52 rfl (by kernel_rfl))) rfl ⟨A3,c3,K1,d1,os',B,Li,rfl,P5 si.out QY.out Zo.out (Nat.zero_le _) (by omega) (by omega) ?_ ?_ (fun b9 e=>?_) ?_,bT⟩
   · exact World.ownsRow.kept HO.out (iR _ _ _) (Or.inr (fun e=>by have:=(Rj.out _ e).1;omega))
   · exact World.ownsRow.kept (xB YA.out hw0) (iR _ _ _) (Or.inr (fun e=>by have:=(Il.out _ e).1;omega))
   ·
    have:=(Il.out _ e).2
    omega
   · exact HG.out.shut (by rw[hzs];exact Nat.le_refl _) (fun b9 h1 h2=>setRow_other _ _ _ _ (by omega))
theorem uM {w:World} {B:Option Addr} {xs:List Int} {n c:Nat} (h:Sk .u8 w B xs)(hn:xs.length=n):(convert 114 9 (.slice B n c)).run Tryz.prog w = .ok (.string (strOfNums xs)) w:=by
 by_cases h0:0<n
 ·
  obtain⟨b,o,rfl,_⟩:=h 0 (by omega);refine run_convert_bytes_arg (P:=Tryz.prog) w 114 5 Tryz.underlying114 Tryz.underlying5 b o n c xs hn (fun i hi=>?_) 9 Tryz.underlying9;obtain⟨b',o',e,hc⟩:=h i (by omega)
  cases e
  exact hc
 ·
  obtain rfl:n=0:=by omega
  obtain rfl:xs = []:=List.eq_nil_of_length_eq_zero hn
  cases B with
  | none=>exact run_convert_bytes_nil (P:=Tryz.prog) w 114 5 Tryz.underlying114 Tryz.underlying5 0 c 9 Tryz.underlying9
  | some a=>
   rw[run_convert_bytes_string w 114 9 5 _ 0 c Tryz.underlying114 Tryz.underlying5 Tryz.underlying9,run_bytesToString w a 0 c [] (run_loadCells_list (P:=Tryz.prog) w a [] (fun j v hj=>by simp at hj))]
   rfl
theorem DZ (w:World)(B:Option Addr):Sk .u8 w B []:=fun k hk=>absurd hk (by simp)
theorem ZJ (nn:Int)(B1:Option Addr)(Qi:Nat)(L1:Option Addr)(U4:Nat)(B2:Option Addr)(CG:Nat)(L2:Option Addr)(Fh:Nat)(w:World) :
  Calls Tryz.prog 81 #[.agg #[.int .i64 1, .int .i64 nn, .slice B1 0 Qi, .slice L1 0 U4], .agg #[.int .i64 1, .int .i64 nn, .slice B2 0 CG, .slice L2 0 Fh]] w (Rt w (.bool true)):=by
 obtain⟨w0,HW,ai,kC⟩:=st2 (.cells #[.int .i64 1, .int .i64 nn, .slice B1 0 Qi, .slice L1 0 U4] 117) bp4 (.cells #[.int .i64 1, .int .i64 nn, .slice B2 0 CG, .slice L2 0 Fh] 117) bq4 w;have ah:=bI w0;have hc1:(convert 114 9 (.slice B1 0 Qi)).run Tryz.prog w0 = .ok (.string (strOfNums [])) w0:=uM (DZ w0 B1) rfl;have hc2:(convert 114 9 (.slice B2 0 CG)).run Tryz.prog w0 = .ok (.string (strOfNums [])) w0:=uM (DZ w0 B2) rfl;go_in
 go_upto_region 1 with(fail)
 rw[HW.out];have zc:=kC.out _ ah;go_wp2;clear zc
 go_loopw [5] (fun i u=>i = .int .i64 0∧u=w0) (fun _ _=>0)
 case atStart=>exact⟨rfl,rfl⟩
 case round=>
  obtain⟨rfl,rfl⟩:=hrel;have zc:=kC.out _ ah;have bT:=ai.out;go_wp2;go_ret;exact⟨rfl,bT⟩
theorem ZK (l:List Int)(n:Nat)(hn:Hid (l.length=n))(B1:Option Addr)(Qi:Nat)(L1:Option Addr)(U4:Nat)(B2:Option Addr)(CG:Nat)(L2:Option Addr)(Fh:Nat)(w:World)(h1:Hid (Sk .u8 w B1 l))(h2:Hid (Sk .u8 w B2 l)) :
  Calls Tryz.prog 81 #[.agg #[.int .i64 2, .int .i64 0, .slice B1 n Qi, .slice L1 0 U4], .agg #[.int .i64 2, .int .i64 0, .slice B2 n CG, .slice L2 0 Fh]] w (Rt w (.bool true)):=by
 obtain⟨w0,HW,ai,kC⟩:=st2 (.cells #[.int .i64 2, .int .i64 0, .slice B1 n Qi, .slice L1 0 U4] 117) bp4 (.cells #[.int .i64 2, .int .i64 0, .slice B2 n CG, .slice L2 0 Fh] 117) bq4 w;have kS1:=fo (fun u=>Sk .u8 u B1 l) ai h1 (·.below);have kS2:=fo (fun u=>Sk .u8 u B2 l) ai h2 (·.below);have ah:=bI w0;clear h1 h2;have hc1:(convert 114 9 (.slice B1 n Qi)).run Tryz.prog w0 = .ok (.string (strOfNums l)) w0:=uM (kS1.out _ ah).out hn.out;have hc2:(convert 114 9 (.slice B2 n CG)).run Tryz.prog w0 = .ok (.string (strOfNums l)) w0:=uM (kS2.out _ ah).out hn.out;obtain⟨sl,hsl⟩:∃x,strOfNums l=x:=⟨_,rfl⟩;rw[hsl]at hc1 hc2;clear hsl;go_in
 go_upto_region 1 with(fail)
 rw[HW.out];have zc:=kC.out _ ah;go_wp2;clear zc
 go_loopw [5] (fun i u=>i = .int .i64 0∧u=w0) (fun _ _=>0)
 case atStart=>exact⟨rfl,rfl⟩
 case round=>
  obtain⟨rfl,rfl⟩:=hrel;have zc:=kC.out _ ah;have bT:=ai.out;go_wp2;go_ret;exact⟨rfl,bT⟩
theorem adt (l:List It)(n:Nat)(hn:Hid (l.length=n))(hn1:n≤1000)(f1 f2:Nat→Ic)(B1:Option Addr)(Qi:Nat)(L1:Option Addr)(U4:Nat)(B2:Option Addr)(CG:Nat)(L2:Option Addr)(Fh:Nat)(w:World)(h5:Hid (∀k,k<l.length→∃b o,L1=some ⟨b,o,none⟩∧Four w b (o+k*4) (f1 k)))(h6:Hid (∀k,k<l.length→∃b o,L2=some ⟨b,o,none⟩∧Four w b (o+k*4) (f2 k)))
  (ih:Hid (∀k,k<l.length→∀u,Below w.heap.size w u→Calls Tryz.prog 81 #[(f1 k).val,(f2 k).val] u fun e w'=>e = .returned (.bool true)∧Below u.heap.size u w')) :
  Calls Tryz.prog 81 #[.agg #[.int .i64 3, .int .i64 0, .slice B1 0 Qi, .slice L1 n U4], .agg #[.int .i64 3, .int .i64 0, .slice B2 0 CG, .slice L2 n Fh]] w (Rt w (.bool true)):=by
 obtain⟨w0,HW,ai,kC⟩:=st2 (.cells #[.int .i64 3, .int .i64 0, .slice B1 0 Qi, .slice L1 n U4] 117) bp4 (.cells #[.int .i64 3, .int .i64 0, .slice B2 0 CG, .slice L2 n Fh] 117) bq4 w;have ah:=bI w0;have hc1:(convert 114 9 (.slice B1 0 Qi)).run Tryz.prog w0 = .ok (.string (strOfNums [])) w0:=uM (DZ w0 B1) rfl;have hc2:(convert 114 9 (.slice B2 0 CG)).run Tryz.prog w0 = .ok (.string (strOfNums [])) w0:=uM (DZ w0 B2) rfl;go_in
 go_upto_region 1 with(fail)
 rw[HW.out];have zc:=kC.out _ ah;go_wp2;clear zc
 go_loopw [5] (fun i u=>∃k:Nat,k≤n∧i = .int .i64 k∧Hid (Below w0.heap.size w0 u)) (fun i _=>n-(intOf i).toNat)
 case atStart=>exact⟨0,by omega,rfl,aa (Below.refl _ _)⟩
 case round=>
  obtain⟨k,hk,rfl,aD⟩:=hrel
  by_cases hlt:k<n
  ·
   have hkl:k<l.length:=by rw[hn.out];exact hlt
   obtain⟨a1,o1,e1,q1⟩:=h5.out k hkl;obtain⟨a2,o2,e2,q2⟩:=h6.out k hkl;subst e1;subst e2;have J8:=aa (ih.out k hkl);obtain⟨⟨kd1,nn1,B3,nb3,cb3,L3,nl3,cl3⟩,aaD⟩:∃x,f1 k=x:=⟨_,rfl⟩;obtain⟨⟨Wu,Wl,B4,nb4,cb4,L4,nl4,cl4⟩,aaC⟩:∃x,f2 k=x:=⟨_,rfl⟩;rw[aaD]at q1 J8;rw[aaC]at q2 J8;have Ue:=aa q1;have lW:=aa q2;clear hkl q1 q2 aaD aaC hc1 hc2
   have kE:=aa (show ∀u:World,Hid (Below w0.heap.size w0 u)→u.cell? ⟨a1,o1+k*4,none⟩=some (.int .i64 kd1)∧u.cell? ⟨a1,o1+k*4+1,none⟩=some (.int .i64 nn1)∧u.cell? ⟨a1,o1+k*4+2,none⟩=some (.slice B3 nb3 cb3)∧u.cell? ⟨a1,o1+k*4+3,none⟩=some (.slice L3 nl3 cl3)∧u.cell? ⟨a2,o2+k*4,none⟩=some (.int .i64 Wu)∧u.cell? ⟨a2,o2+k*4+1,none⟩=some (.int .i64 Wl)∧u.cell? ⟨a2,o2+k*4+2,none⟩=some (.slice B4 nb4 cb4)∧u.cell? ⟨a2,o2+k*4+3,none⟩=some (.slice L4 nl4 cl4)from fun u h=>by
    obtain⟨r0,r1,r2,r3⟩:=(Ue.out.below (ag ai.out h.out)).get;obtain⟨s0,s1,s2,s3⟩:=(lW.out.below (ag ai.out h.out)).get
    exact⟨r0,r1,r2,r3,s0,s1,s2,s3⟩)
   have kIH:=aa (show ∀u:World,Hid (Below w0.heap.size w0 u)→Hid (Calls Tryz.prog 81 #[.agg #[.int .i64 kd1, .int .i64 nn1, .slice B3 nb3 cb3, .slice L3 nl3 cl3], .agg #[.int .i64 Wu, .int .i64 Wl, .slice B4 nb4 cb4, .slice L4 nl4 cl4]] u fun e w'=>e = .returned (.bool true)∧Below u.heap.size u w')from fun u h=>aa (J8.out u (ag ai.out h.out)));have zc:=kC.out _ aD;have q9:=kE.out _ aD
   go_upto_region 6 with(fail)
   clear zc q9;have hO:=aa (fun(u:World) (h:Hid (Below w0.heap.size w0 u))=>And.intro (kC.out u h) (kE.out u h));refine jq [] aD (fun hHeld=>?_);refine aP 0 1 2 3 ?_;refine aP 4 5 6 7 ?_;refine aL 8 ?_;refine aL 9 ?_;refine dh 10 fun K hK=>?_;go_simp;refine(((kIH.out _ hHeld)).out).mono ?_;rintro e wA ⟨rfl,bN⟩;refine hK.out _ _ (bJ hHeld bN) (fun hHeld=>?_);clear hK K;refine aL 11 ?_;refine gM ?_;clear hO;have bG:=hHeld;clear hHeld;have zc:=kC.out _ bG;have q9:=kE.out _ bG;have Nf:=bG;clear zc q9;go_wp2
   go_roundw
   case rel=>exact⟨k+1,by omega,by go_num,Nf⟩
   case measure=>simp[intOf];omega
  ·
   have hke:k=n:=by omega
   have zc:=kC.out _ aD;go_wp2;go_ret;exact⟨rfl,f_ ai aD⟩
theorem IW:∀(d:Nat) (i:It) (a b:Ic) (w:World),fits d i→pV w i a→pV w i b→Calls Tryz.prog 81 #[a.val,b.val] w (Rt w (.bool true)):=by
 intro d
 induction d with
 | zero=>
  intro i a b w hf hr hs
  cases hr with
  | int n c h1 h2 h3 h4=>
   cases hs with
   | int n c2 g1 g2 g3 g4=>
    obtain⟨kd,nn,B,nb,cb,L,nl,cl⟩:=a;obtain⟨Wu,Wl,B2,nb2,CG,L2,nl2,Fh⟩:=b
    dsimp only at h1 h2 h3 h4 g1 g2 g3 g4
    subst h1;subst h2;subst h3;subst h4;subst g1;subst g2;subst g3;subst g4;exact ZJ _ B cb L cl B2 CG L2 Fh w
  | byt l c h1 h2 h3 h4 h5=>
   cases hs with
   | byt l c2 g1 g2 g3 g4 g5=>
    obtain⟨kd,nn,B,nb,cb,L,nl,cl⟩:=a;obtain⟨Wu,Wl,B2,nb2,CG,L2,nl2,Fh⟩:=b
    dsimp only at h1 h2 h3 h4 h5 g1 g2 g3 g4 g5
    subst h1;subst h2;subst h3;subst h4;subst g1;subst g2;subst g3;subst g4;exact ZK l l.length (aa rfl) B cb L cl B2 CG L2 Fh w (aa h5) (aa g5)
  | lst l c h1 h2 h3 h4 f h5 h6=>exact absurd hf (by simp[fits])
 | succ d ihd=>
  intro i a b w hf hr hs
  cases hr with
  | int n c h1 h2 h3 h4=>
   cases hs with
   | int n c2 g1 g2 g3 g4=>
    obtain⟨kd,nn,B,nb,cb,L,nl,cl⟩:=a;obtain⟨Wu,Wl,B2,nb2,CG,L2,nl2,Fh⟩:=b
    dsimp only at h1 h2 h3 h4 g1 g2 g3 g4
    subst h1;subst h2;subst h3;subst h4;subst g1;subst g2;subst g3;subst g4;exact ZJ _ B cb L cl B2 CG L2 Fh w
  | byt l c h1 h2 h3 h4 h5=>
   cases hs with
   | byt l c2 g1 g2 g3 g4 g5=>
    obtain⟨kd,nn,B,nb,cb,L,nl,cl⟩:=a;obtain⟨Wu,Wl,B2,nb2,CG,L2,nl2,Fh⟩:=b
    dsimp only at h1 h2 h3 h4 h5 g1 g2 g3 g4 g5
    subst h1;subst h2;subst h3;subst h4;subst g1;subst g2;subst g3;subst g4;exact ZK l l.length (aa rfl) B cb L cl B2 CG L2 Fh w (aa h5) (aa g5)
  | lst l c h1 h2 h3 h4 f h5 h6=>
   cases hs with
   | lst l c2 g1 g2 g3 g4 f2 g5 g6=>
    obtain⟨kd,nn,B,nb,cb,L,nl,cl⟩:=a;obtain⟨Wu,Wl,B2,nb2,CG,L2,nl2,Fh⟩:=b
    dsimp only at h1 h2 h3 h4 h5 g1 g2 g3 g4 g5
    subst h1;subst h2;subst h3;subst h4;subst g1;subst g2;subst g3;subst g4;refine adt l l.length (aa rfl) hf.1 f f2 B cb L cl B2 CG L2 Fh w (aa h5) (aa g5) (aa fun k hk u hu=>?_);exact ihd _ (f k) (f2 k) u (hf.2 _ (by rw[List.getD_eq_getElem?_getD,List.getElem?_eq_getElem hk];exact List.getElem_mem hk)) ((h6 k hk).kept hu) ((g6 k hk).kept hu)
theorem oQ (O1:Option Addr)(os1:List aG)(c1:Nat)(K1:Option Addr)(d1:Nat)(O2:Option Addr)(os2:List aG)(c2:Nat)(K2:Option Addr)(d2:Nat)(n:Nat)(hs:List (List Int))(m:Nat)(hn1:Hid (os1.length=n))(hn2:Hid (os2.length=n))(hm:Hid (hs.length=m))(hb1:n≤1000000)(hb2:m≤1000000)(hS:Hid (∀k,k<n→fE (bz os1 k)∧fE (bz os2 k)∧dD (bz os1 k)∧xJ (bz os1 k)=xJ (bz os2 k)))(w:World)(hO1:Hid (Os w O1 os1))(hK1:Hid (Hs w K1 hs))(hO2:Hid (Os w O2 os2))(hK2:Hid (Hs w K2 hs)) :
  Calls Tryz.prog 26 #[iA O1 n c1 K1 m d1,iA O2 n c2 K2 m d2] w (Rt w (.bool true)):=by
 obtain⟨w0,HW,ai,kC⟩:=st2 (jC O1 n c1 K1 m d1) sG (jC O2 n c2 K2 m d2) qx w;have kO1:=fo (fun u=>Os u O1 os1) ai hO1 (·.below);have kH1:=fo (fun u=>Hs u K1 hs) ai hK1 (·.below);have kO2:=fo (fun u=>Os u O2 os2) ai hO2 (·.below);have kH2:=fo (fun u=>Hs u K2 hs) ai hK2 (·.below);have ah:=bI w0;clear hO1 hK1 hO2 hK2;go_in
 go_upto_region 1 with(fail)
 rw[HW.out];have zc:=kC.out _ ah;go_wp2;clear zc
 go_loopw [5] (fun i u=>∃k:Nat,k≤n∧i = .int .i64 k∧Hid (Below w0.heap.size w0 u)) (fun i _=>n-(intOf i).toNat)
 case atStart=>exact⟨0,by omega,rfl,aa (Below.refl _ _)⟩
 case round=>
  obtain⟨k,hk,rfl,aD⟩:=hrel
  by_cases hlt:k<n
  ·
   obtain⟨a1,f1,e1,q1,ok1⟩:=((kO1.out _ aD)).out k (by rw[hn1.out];exact hlt);obtain⟨a2,f2,e2,q2,Me⟩:=((kO2.out _ aD)).out k (by rw[hn2.out];exact hlt);subst e1;subst e2;obtain⟨s1,s2,s3,s4⟩:=hS.out k hlt;obtain⟨o1,ho1⟩:∃x,bz os1 k=x:=⟨_,rfl⟩;obtain⟨o2,ho2⟩:∃x,bz os2 k=x:=⟨_,rfl⟩;rw[show os1.getD k dN=o1 from ho1]at q1 ok1;rw[show os2.getD k dN=o2 from ho2]at q2 Me;rw[ho1,ho2]at s4;rw[ho1]at s1 s3;rw[ho2]at s2;have Ue:=aa q1;have lW:=aa q2;have afo:=aa ok1;have afn:=aa Me;have HFT:=aa (JF s3 s1);have YK:=aa s4;clear q1 q2 ok1 Me ho1 ho2 s3 s4;have jl:=bI wr
   have kE:=aa (show ∀u:World,Hid (Below wr.heap.size wr u)→u.cell? ⟨a1,f1+k*9,none⟩=some (.int .i64 o1.num)∧u.cell? ⟨a1,f1+k*9+1,none⟩=some (.string o1.rs)∧u.cell? ⟨a1,f1+k*9+2,none⟩=some (.int .i64 o1.E1)∧u.cell? ⟨a1,f1+k*9+3,none⟩=some (.int .i64 o1.E2)∧u.cell? ⟨a1,f1+k*9+4,none⟩=some (.slice o1.A o1.na o1.ca)∧u.cell? ⟨a1,f1+k*9+5,none⟩=some (.int .i64 o1.C)∧u.cell? ⟨a1,f1+k*9+6,none⟩=some (.slice o1.Z o1.nz o1.cz)∧u.cell? ⟨a1,f1+k*9+7,none⟩=some (.slice o1.L o1.np o1.cp)∧u.cell? ⟨a1,f1+k*9+8,none⟩=some (.int .i64 o1.key)∧u.cell? ⟨a2,f2+k*9,none⟩=some (.int .i64 o2.num)∧u.cell? ⟨a2,f2+k*9+1,none⟩=some (.string o2.rs)∧u.cell? ⟨a2,f2+k*9+2,none⟩=some (.int .i64 o2.E1)∧u.cell? ⟨a2,f2+k*9+3,none⟩=some (.int .i64 o2.E2)∧u.cell? ⟨a2,f2+k*9+4,none⟩=some (.slice o2.A o2.na o2.ca)∧u.cell? ⟨a2,f2+k*9+5,none⟩=some (.int .i64 o2.C)∧u.cell? ⟨a2,f2+k*9+6,none⟩=some (.slice o2.Z o2.nz o2.cz)∧u.cell? ⟨a2,f2+k*9+7,none⟩=some (.slice o2.L o2.np o2.cp)∧u.cell? ⟨a2,f2+k*9+8,none⟩=some (.int .i64 o2.key)from fun u h=>by
    obtain⟨r0,r1,r2,r3,r4,r5,r6,r7,r8⟩:=Ue.out.below h.out;obtain⟨s0,s1,s2,s3,s4,s5,s6,s7,s8⟩:=lW.out.below h.out
    exact⟨r0,r1,r2,r3,r4,r5,r6,r7,r8,s0,s1,s2,s3,s4,s5,s6,s7,s8⟩)
   have adD:=nQ (w:=wr) (fun u=>dM u o1) afo.out (·.below);have adC:=nQ (w:=wr) (fun u=>dM u o2) afn.out (·.below);have zc:=kC.out _ aD;have q9:=kE.out _ jl
   go_upto_region 6 with(fail)
   clear zc q9;have hO:=aa (fun(u:World) (h:Hid (Below w0.heap.size w0 u∧Below wr.heap.size wr u))=>And.intro (kC.out u (aa h.out.1)) (kE.out u (aa h.out.2)));refine uG (fun u=>Below w0.heap.size w0 u∧Below wr.heap.size wr u) [] (bb2 (aa ⟨aD.out,jl.out⟩) ((Below.refl _ _).drew)) (fun hHeld=>?_);refine aP 0 1 2 3 ?_;refine aP 4 6 7 8 ?_;refine aL 9 ?_;refine aL 10 ?_;refine dh 5 fun K hK=>?_;go_simp;refine(yD o1 s1 _ (adD.out _ (aa hHeld.out.2))).mono ?_;rintro e wA ⟨y1,rfl,hi1,bN⟩;refine hK.out _ _ (bb2 hHeld bN) (fun hHeld=>?_);clear hK K
   try simp only[qq]
   refine dh 11 fun K hK=>?_;go_simp;refine(yD o2 s2 _ (adC.out _ (aa hHeld.out.2))).mono ?_;rintro e wA ⟨y2,rfl,hi2,bN⟩;have hi1:=hi1.kept bN;rw[YK.out]at hi1;refine hK.out _ _ (bb2 hHeld bN) (fun hHeld=>?_);clear hK K
   try simp only[qq]
   refine dh 12 fun K hK=>?_;go_simp;refine(IW 4 (xJ o2) y1 y2 _ (by rw[←YK.out];exact HFT.out) hi1.it hi2.it).mono ?_;rintro e wA ⟨rfl,bN⟩;refine hK.out _ _ (bb2 hHeld bN) (fun hHeld=>?_);clear hK K;refine aL 13 ?_;refine gM ?_;clear hO;have bG:=(aa hHeld.out.1);have QS:=(aa hHeld.out.2);clear hHeld;have zc:=kC.out _ bG;have q9:=kE.out _ QS;have Nf:=bG;clear zc q9;go_wp2
   go_roundw
   case rel=>exact⟨k+1,by omega,by go_num,Nf⟩
   case measure=>simp[intOf];omega
  ·
   have hke:k=n:=by omega
   obtain⟨wo,rfl⟩:∃wo:World,wo=wr:=⟨_,rfl⟩;have zc:=kC.out _ aD;go_wp2;clear zc
   go_loopw [6] (fun i u=>∃k:Nat,k≤m∧i = .int .i64 k∧Hid (Below w0.heap.size w0 u)) (fun i _=>m-(intOf i).toNat)
   case atStart=>exact⟨0,by omega,rfl,aD⟩
   case round=>
    obtain⟨j,hj,rfl,Zp⟩:=hrel
    by_cases hlj:j<m
    ·
     obtain⟨a1,f1,e1,q1,g1⟩:=((kH1.out _ Zp)).out j (by rw[hm.out];exact hlj);obtain⟨a2,f2,e2,q2,g2⟩:=((kH2.out _ Zp)).out j (by rw[hm.out];exact hlj);subst e1;subst e2;obtain⟨Q9,hhj⟩:∃x,hsL hs j=x:=⟨_,rfl⟩;rw[hhj]at q1 g1 g2;have HL:=aa q1;have QW:=aa g1;have HG2:=aa g2;have YK:Hid ((!(Q9 == Q9))=false):=aa (by simp);clear q1 q2 g1 g2 hhj;have jl:=bI wr;have kG1:=aa (show ∀u:World,Hid (Below wr.heap.size wr u)→Hid (u.rangeAt a1 (f1+j*32) (Q9.map (Value.int .u8)))from fun u h=>aa (fF QW.out h.out));have kG2:=aa (show ∀u:World,Hid (Below wr.heap.size wr u)→Hid (u.rangeAt a2 (f2+j*32) (Q9.map (Value.int .u8)))from fun u h=>aa (fF HG2.out h.out));have zc:=kC.out _ Zp
     go_upto_region 11 with(fail)
     clear zc;have hO:=aa (fun(u:World) (h:Hid (Below w0.heap.size w0 u∧Below wr.heap.size wr u))=>kC.out u (aa h.out.1));refine uG (fun u=>Below w0.heap.size w0 u∧Below wr.heap.size wr u) [] (bb2 (aa ⟨Zp.out,jl.out⟩) ((Below.refl _ _).drew)) (fun hHeld=>?_);refine aP 0 1 2 3 ?_;refine Cf 4 (.agg (arr .u8 Q9)) rfl (mg 41 _ rfl a1 (f1+j*32) rfl (Q9.map (Value.int .u8)) _ (fun _ hq=>((kG1.out _ (aa hq.out.2))).out) Tryz.underlying41 rfl (ni HL.out)) ?_;refine aP 5 6 7 8 ?_;refine Cf 9 (.agg (arr .u8 Q9)) rfl (mg 41 _ rfl a2 (f2+j*32) rfl (Q9.map (Value.int .u8)) _ (fun _ hq=>((kG2.out _ (aa hq.out.2))).out) Tryz.underlying41 rfl (ni HL.out)) ?_;refine Cf 10 (.bool false) rfl (iX _ _ _ rfl Q9 Q9 HL.out HL.out rfl rfl false YK.out) ?_;refine gM ?_;clear hO;have bG:=(aa hHeld.out.1);have QS:=(aa hHeld.out.2);clear hHeld;have zc:=kC.out _ bG;have Nf:=bG;clear zc;go_wp2
     go_roundw
     case rel=>exact⟨j+1,by omega,by go_num,Nf⟩
     case measure=>simp[intOf];omega
    ·
     have hje:j=m:=by omega
     have zc:=kC.out _ Zp;go_wp2;go_ret;exact⟨rfl,f_ ai Zp⟩
def uz (osX:List aG)(n:Nat)(hsX:List (List Int))(m:Nat)(rest:List Value)(w:World)(e:Ending)(w':World):Prop:=∃O c K d os',e = .returned (.tuple (iA O n c K m d::rest).toArray)∧os'.length=n∧(∀k,k<n→qR (bz osX k) (bz os' k))∧Os w' O os'∧Hs w' K hsX∧Below w.heap.size w w'
theorem jB {w w':World} {e:Ending} {rest:List Value} (he:e = .returned (.tuple (iA none 0 0 none 0 0::rest).toArray))(hb:Below w.heap.size w w'):uz [] 0 [] 0 rest w e w':=
 ⟨none,0,none,0, [],he,rfl,fun k h=>absurd h (by omega),fun k h=>absurd h (by simp),fun k h=>absurd h (by simp),hb⟩
theorem DY {wB w:World} {D:Nat→Prop} {A:Option Addr} {xs:List Int} (h:Sl wB A xs)(hb:Below wB.heap.size wB w)(hD:∀b,b<wB.heap.size→¬D b):qA D w (fun u=>Sl u A xs):=by
 refine A7 (h.below hb) fun b o e h0=>?_;obtain⟨b',o',e',hc⟩:=h 0 h0;rw[e]at e'
 cases e'
 exact hD _ (World.block_lt_of_cell? _ _ hc)
theorem Xw (ix:Nat)(O:Option Addr)(os:List aG)(n c:Nat)(K:Option Addr)(hs:List (List Int))(m d:Nat)(hn:Hid (os.length=n))(hm:Hid (hs.length=m))(hb1:n≤1000000)(hb2:m≤1000000)(hb3:∀k,k<n→(bz os k).np≤1000000)(wB:World)(Y4:Hid (Os wB O os))(w:World)(hbB:Hid (Below wB.heap.size wB w))(hK:Hid (Hs w K hs)) :
  Calls Tryz.prog 80 #[iA O n c K m d] w (Vp wB.heap.size ix os n hs m w):=by
 obtain⟨w0,hW⟩:∃W,((w.alloc (jC O n c K m d)).alloc (.cells #[.slice none 0 0, .slice none 0 0] 52))=W:=⟨_,rfl⟩;have ai:Hid (Below w.heap.size w w0):=aa (by rw[←hW];exact aO (Below.refl _ _));have hc:w0.cell? ⟨w.heap.size,0,none⟩=some (.slice O n c)∧w0.cell? ⟨w.heap.size,1,none⟩=some (.slice K m d)∧Own w0 ⟨w.heap.size+1,0,none⟩ (.slice none 0 0)∧Own w0 ⟨w.heap.size+1,1,none⟩ (.slice none 0 0):=by rw[←hW];exact⟨cell_below (dx (by simp) (by rfl)) (af _ _),cell_below (dx (by simp) (by rfl)) (af _ _),wh (by simp) (by rfl),wh (by simp) (by rfl)⟩
 have kC:=aa (show ∀u:World,Hid (Below w0.heap.size w0 u)→u.cell? ⟨w.heap.size,0,none⟩=some (.slice O n c)∧u.cell? ⟨w.heap.size,1,none⟩=some (.slice K m d)∧Own u ⟨w.heap.size+1,0,none⟩ (.slice none 0 0)∧Own u ⟨w.heap.size+1,1,none⟩ (.slice none 0 0)from fun u h=>⟨cell_below hc.1 h.out,cell_below hc.2.1 h.out,(hc.2.2.1).below h.out,(hc.2.2.2).below h.out⟩);have KN:=aa (show ∀u:World,Hid (Below w0.heap.size w0 u)→Hid (Hs u K hs)from fun u h=>aa ((hK.out.below) (ag ai.out h.out)));have E_:=aa (show ∀u:World,Hid (Below w0.heap.size w0 u)→Hid (Os u O os)from fun u h=>aa (((Y4.out.below hbB.out).below) (ag ai.out h.out)));have nZ:=Cj (w0:=w0) (o:= .cells #[.slice none 0 0, .slice none 0 0] 52) (w.heap.size+1) (by rw[←hW];exact heap_alloc2_new _ _ _);have ah:Hid (Below w0.heap.size w0 w0):=aa (Below.refl _ _);have HW:=aa hW;clear hW hc hK;have lV:Hid (w0.heap.size=w.heap.size+2):=aa (by rw[←HW.out];simp);have II:Hid (∀u:World,Hid (Below w0.heap.size w0 u)→Below wB.heap.size wB u):=aa (fun u h=>ag hbB.out (ag ai.out h.out));have HLW:Hid (wB.heap.size≤w.heap.size):=aa hbB.out.size;obtain⟨i0,hi,hz0,hz1,hz2⟩:=info_parts Ag;obtain⟨i1,hi1,hy0,hy1,hy2⟩:=info_parts Eg;obtain⟨i2,hi2,hx0,hx1,hx2⟩:=info_parts Kv;have hq0:=af w0 (.cells #[] 41);have ax:=bJ ah hq0;clear hq0;have hrow:(w0.alloc (.cells #[] 41)).ownsRow w0.heap.size 41 32 (.slice (some ⟨w0.heap.size,0,none⟩) 0 0) 0 []:=World.ownsRow_lit w0 #[] 0 (Nat.le_refl _) (by decide) rfl;have hnw:=KQ ((KN.out _ ax)).out hm.out;have hln:(hs.flatMap nA).length=m*32:=by rw[ug nA 32 hs (fun x hx=>by rw[nA,List.length_map];exact xQ ((KN.out _ ax)).out x hx),hm.out]
 have b1:0+m≤maxLen:=by unfold maxLen;omega
 have b2:(0+m)*32≤140737488355328:=by omega
 go_in
 go_upto_region 1 with(fail)
 rw[HW.out];obtain⟨yw,yu,⟨za,zf2⟩,⟨y_,zf3⟩⟩:=kC.out _ ax
 go_upto_region 2 with(at_builtin;refine lH rfl _ _ 50 rfl w0.heap.size 41 i0 (.agg (arr .u8 (dL 32))) 32 32 Tryz.underlying50 hi hz0 hz1 hz2 (by rfl) (by decide) _ _ _ rfl hrow K m d _ rfl hln hnw (KP _) b1 b2 (by simp) ?_;intro A1 c1 w1 hown1 hgrow1 aaE)
 clear yw yu za zf2 y_ zf3;have HB1:Hid (Below w0.heap.size w0 w1):=aa (((Below.refl w0.heap.size w0).alloc (Nat.le_refl _) (.cells #[] 41)).grown hgrow1 (by simp) (fun j hj=>by cases hj;exact Nat.le_refl _));have hk1:w1.ownsRow w0.heap.size 41 32 (.slice A1 m c1) m (hs.flatMap nA):=by simpa using hown1
 have Um:=aa (mE hk1);have HK1:=aa hk1;obtain⟨B,hB⟩:∃x,w1.heap.size=x:=⟨_,rfl⟩;obtain⟨W,hW⟩:∃x,w1.alloc (.cells #[.slice none 0 0, .slice A1 m c1] 52)=x:=⟨_,rfl⟩;have zy:Hid (W.heap.size=B+1∧w0.heap.size≤B):=aa ⟨by rw[←hW,←hB];simp,by rw[←hB];exact HB1.out.size⟩;have hbk:W.heap[B]? = some (.cells #[.slice none 0 0, .slice A1 m c1] 52):=by rw[←hW,←hB];exact heap_alloc_new _ _
 have qW:Hid (Own W ⟨B,0,none⟩ (.slice none 0 0)):=aa ⟨au hbk 0,ay hbk 0⟩;have XU:Hid (Own W ⟨B,1,none⟩ (.slice A1 m c1)):=aa ⟨au hbk 1,ay hbk 1⟩;have cu:Hid (Below w0.heap.size w0 W):=aa (ag HB1.out (by rw[←hW];exact af _ _));have HKW:Hid (Below w1.heap.size w1 W):=aa (by rw[←hW];exact af _ _);have J3:=aa hB;rw[hW,hB];clear hW hB hbk hown1 hgrow1 aaE hrow hnw hln b1 b2 hk1;go_wp2
 go_loopw [4] (fun i u=>∃(k:Nat) (v:Value) (os':List aG) (Li:Option Nat),k≤n∧i = .int .i64 k∧Hid (os'.length=k)∧Hid (Own u ⟨B,0,none⟩ v)∧Hid (Own u ⟨B,1,none⟩ (.slice A1 m c1))∧Hid (u.ownsRow (B+1) 104 9 v k (os'.flatMap nV))∧Hid (Io wB.heap.size ix B v Li os os' k u)∧Hid (Below B W u)) (fun i _=>n-(intOf i).toNat)
 case atStart=>exact⟨0,_, [],none,by omega,rfl,aa rfl,qW,XU,aa (World.ownsRow_nil _ _ _ _),aa (Io.nil _ _ _ _ _ _),aa (Below.refl _ _)⟩
 case round=>
  obtain⟨k,v,os',Li,hk,rfl,si,HV,qV,HO,HG,aD⟩:=hrel;have jw:Hid (Below w0.heap.size w0 wr):=aa (cu.out.trans (aD.out.mono zy.out.2));have hBW:=aD.out.size;have hsb:=zy.out
  by_cases hlt:k<n
  ·
   have hkl:k<os.length:=by rw[hn.out];exact hlt
   obtain⟨b,f,hA,h9,hok⟩:=(E_.out _ jw).out k hkl;obtain⟨_,_,-,-,WO⟩:=Y4.out k hkl;subst hA;have adO:=hb3 k hlt;obtain⟨o,ho⟩:∃o,os.getD k dN=o:=⟨_,rfl⟩;have oI:Hid (bz os k=o):=aa ho;rw[ho]at h9 hok WO;rw[oI.out]at adO;have afm:=aa WO;obtain⟨j0,j1,j2,j3,j4,j5,j6,j7,j8⟩:=h9;obtain⟨ok1,Me,⟨Md,UG⟩,UI,UH,Mc⟩:=hok;have Ih:=aa Mc;have qi:=aa Md;clear ho ok1 Me Md UG UI UH Mc hkl WO;obtain⟨yw,yu,⟨za,zf2⟩,⟨y_,zf3⟩⟩:=kC.out _ jw;have hq0:=af wr (l6 o);have az:=bJ jw hq0;clear hq0;obtain⟨adr,adq,⟨adp,adn⟩,⟨ado,adm⟩⟩:=kC.out _ az;have hb5:(wr.alloc (l6 o)).heap[wr.heap.size]? = some (l6 o):=heap_alloc_new _ _;have HX0:Hid (Own (wr.alloc (l6 o)) ⟨wr.heap.size,0,none⟩ (.int .i64 o.num)∧Own (wr.alloc (l6 o)) ⟨wr.heap.size,1,none⟩ (.string o.rs)∧Own (wr.alloc (l6 o)) ⟨wr.heap.size,2,none⟩ (.int .i64 o.E1)∧Own (wr.alloc (l6 o)) ⟨wr.heap.size,3,none⟩ (.int .i64 o.E2)∧Own (wr.alloc (l6 o)) ⟨wr.heap.size,4,none⟩ (.slice o.A o.na o.ca)∧Own (wr.alloc (l6 o)) ⟨wr.heap.size,5,none⟩ (.int .i64 o.C)∧Own (wr.alloc (l6 o)) ⟨wr.heap.size,6,none⟩ (.slice o.Z o.nz o.cz)∧Own (wr.alloc (l6 o)) ⟨wr.heap.size,7,none⟩ (.slice o.L o.np o.cp)∧Own (wr.alloc (l6 o)) ⟨wr.heap.size,8,none⟩ (.int .i64 o.key)):=aa ⟨⟨au hb5 0,ay hb5 0⟩,⟨au hb5 1,ay hb5 1⟩,⟨au hb5 2,ay hb5 2⟩,⟨au hb5 3,ay hb5 3⟩,⟨au hb5 4,ay hb5 4⟩,⟨au hb5 5,ay hb5 5⟩,⟨au hb5 6,ay hb5 6⟩,⟨au hb5 7,ay hb5 7⟩,⟨au hb5 8,ay hb5 8⟩⟩;obtain⟨⟨x0,y0⟩,⟨x1,y1⟩,⟨x2,y2⟩,⟨x3,y3⟩,⟨x4,y4⟩,⟨x5,y5⟩,⟨x6,y6⟩,⟨x7,y7⟩,⟨x8,y8⟩⟩:=HX0.out;clear hb5
   go_upto_region 6 with(fail)
   clear yw yu za zf2 y_ zf3 adr adq adp adn ado adm;clear x0 y0 x1 y1 x2 y2 x3 y3 x4 y4 x5 y5 x6 y6 x7 y7 x8 y8;obtain⟨w5,Ta⟩:∃x,wr.alloc (l6 o)=x:=⟨_,rfl⟩;rw[Ta]at HX0 az ⊢;have Nb:Hid (w5.heap.size=wr.heap.size+1):=aa (by rw[←Ta];simp);have l9:Hid (Below wr.heap.size wr w5):=aa (by rw[←Ta];exact af _ _);have acp:=l9;clear Ta j0 j1 j2 j3 j4 j5 j6 j7 j8;obtain⟨X,hX⟩:∃x,wr.heap.size=x:=⟨_,rfl⟩;rw[hX]at HX0 Nb l9 hBW ⊢;have TY:=aa hX;clear hX;have hrow2:(w5.alloc (.cells #[] 56)).ownsRow w5.heap.size 56 5 (.slice (some ⟨w5.heap.size,0,none⟩) 0 0) 0 []:=World.ownsRow_lit w5 #[] 0 (Nat.le_refl _) (by decide) rfl;have abR:=aa ((Ih.out.below acp.out).below (af w5 (.cells #[] 56)));have aax:=Sg abR.out qi.out;have aaB:(o.ps.flatMap xz).length=o.np*5:=by rw[ug xz 5 o.ps (fun _ _=>rfl),qi.out]
   have b3:0+o.np≤maxLen:=by unfold maxLen;omega
   have b4:(0+o.np)*72≤140737488355328:=by omega
   have aaz:(Value.slice (some ⟨w5.heap.size,0,none⟩) 0 0).ownBlock≠some X:=fun e=>by
    have e2:w5.heap.size=X:=by simpa [Value.ownBlock]using e
    have:=Nb.out
    omega
   obtain⟨X0,X1,X2,X3,X4,X5,X6,X7,X8⟩:=HX0.out;obtain⟨x7,y7⟩:=X7.below (af w5 (.cells #[] 56))
   go_upto_region 7 with(at_builtin;refine lH rfl _ _ 102 rfl w5.heap.size 56 i2 (.agg #[.int .i64 0, .int .i64 0, .slice none 0 0, .int .i64 0, .slice none 0 0]) 5 72 Tryz.underlying102 hi2 hx0 hx1 hx2 (by rfl) (by decide) _ _ _ rfl hrow2 o.L o.np o.cp _ rfl aaB aax (Sc _) b3 b4 (by simp) ?_;intro A2 c2 w6 hown2 hgrow2 Ex;obtain⟨q1,q2⟩:=aJ (HX0.out.2.2.2.2.2.2.2.1.below (af w5 (.cells #[] 56))) hgrow2 aaz)
   have hown3:w6.ownsRow w5.heap.size 56 5 (.slice A2 o.np c2) o.np (o.ps.flatMap xz):=by simpa using hown2
   have oM:Hid (Below w5.heap.size w5 w6):=aa (((Below.refl w5.heap.size w5).alloc (Nat.le_refl _) (.cells #[] 56)).grown hgrow2 (by simp) (fun j hj=>by cases hj;exact Nat.le_refl _));have WC:=oM.out.size;obtain⟨w7,hw7⟩:∃x,w6.setCell ⟨X,7,none⟩ (.slice A2 o.np c2)=x:=⟨_,rfl⟩;have vK:Hid (Below wr.heap.size wr w7):=aa (by rw[←hw7];refine(ag acp.out oM.out).setCell (by rw[TY.out];exact Nat.le_refl _) _);have WB:w7.heap.size=w6.heap.size:=by rw[←hw7,World.size_setCell]
   have g6:∀j u9,Own w5 ⟨X,j,none⟩ u9→Own w6 ⟨X,j,none⟩ u9:=fun j u9 h=>h.below oM.out
   have HX7:Hid (Own w7 ⟨X,0,none⟩ (.int .i64 o.num)∧Own w7 ⟨X,1,none⟩ (.string o.rs)∧Own w7 ⟨X,2,none⟩ (.int .i64 o.E1)∧Own w7 ⟨X,3,none⟩ (.int .i64 o.E2)∧Own w7 ⟨X,4,none⟩ (.slice o.A o.na o.ca)∧Own w7 ⟨X,5,none⟩ (.int .i64 o.C)∧Own w7 ⟨X,6,none⟩ (.slice o.Z o.nz o.cz)∧Own w7 ⟨X,7,none⟩ (.slice A2 o.np c2)∧Own w7 ⟨X,8,none⟩ (.int .i64 o.key)):=aa (by
    rw[←hw7]
    exact⟨ak (g6 _ _ X0) (by simp),ak (g6 _ _ X1) (by simp),ak (g6 _ _ X2) (by simp),ak (g6 _ _ X3) (by simp),ak (g6 _ _ X4) (by simp),ak (g6 _ _ X5) (by simp),ak (g6 _ _ X6) (by simp),bu (g6 _ _ X7),ak (g6 _ _ X8) (by simp)⟩)
   have HV7:Hid (Own w7 ⟨B,0,none⟩ v):=aa (HV.out.below vK.out);have aeR:Hid (Own w7 ⟨B,1,none⟩ (.slice A1 m c1)):=aa (qV.out.below vK.out);have Ii:Hid (w7.ownsRow (B+1) 104 9 v k (os'.flatMap nV)):=aa (World.ownsRow.kept HO.out (lQ vK.out none) (lM _));have ajy:=HLW.out;have ajg:w.heap.size≤w0.heap.size:=by have:=lV.out;omega
   have hs5:=Nb.out;have Uy:Hid (Below wB.heap.size wB w7):=aa (ag (II.out _ jw) vK.out);obtain⟨A9,c9,e9,hc9,WS⟩:=mE hown3
   cases e9
   have Zi:Hid (∀b,(Value.slice A2 o.np c2).ownBlock=some b→w5.heap.size≤b∧b<w7.heap.size):=aa (fun b e=>by have:=WS b e;omega)
   have HQ7:Hid (yU B (fun b=>(wB.heap.size≤b∧b<X)∨(Value.slice A2 o.np c2).ownBlock=some b) w7 (V3 o A2 c2)):=aa (by
    have hcl:∀b,b<wB.heap.size→¬((wB.heap.size≤b∧b<X)∨(Value.slice A2 o.np c2).ownBlock=some b):=fun b hb e=>by
     rcases e with e | e
     · omega
     · have:=(Zi.out b e).1;omega
    obtain⟨p1,p2,p3,p4,p5,p6⟩:=afm.out;refine⟨p1,p2,p3.1,hc9,DY p4 Uy.out hcl,DY p5 Uy.out hcl,fun w' h' q hq=>?_, ?_⟩
    ·
     obtain⟨_,_,_,_,_,_,_,_,r1,r2,r3,r4⟩:=p6 q hq;exact⟨r1,r2,(DY r3 Uy.out hcl) w' h',(DY r4 Uy.out hcl) w' h'⟩
    ·
     rw[←hw7]
     exact World.ownsRow.kept (xB hown3 (by omega)) (jF _ _ _ _) (Or.inr (fun e=>by have:=(WS _ e).1;omega)))
   rw[hw7];clear hw7 hown2 hown3 hgrow2 Ex hrow2 aax aaB b3 b4 aaz X0 X1 X2 X3 X4 X5 X6 X7 X8 x7 y7 q1 q2 g6 HX0 WB WC hc9 WS;obtain⟨⟨x0,y0⟩,⟨x1,y1⟩,⟨x2,y2⟩,⟨x3,y3⟩,⟨x4,y4⟩,⟨x5,y5⟩,⟨x6,y6⟩,⟨x7,y7⟩,⟨x8,y8⟩⟩:=HX7.out;obtain⟨v3,IQ⟩:=HV7.out;have hzB:=vK.out.size;rw[TY.out]at hzB;have O5:∀b9,v.ownBlock=some b9→B+1≤b9∧b9<X:=fun b9 e=>by have:=World.ownsRow.lt HO.out _ e;rw[TY.out]at this;exact this
   have hown:(w7.alloc (.cells #[.int .i64 o.num, .string o.rs, .int .i64 o.E1, .int .i64 o.E2, .slice o.A o.na o.ca, .int .i64 o.C, .slice o.Z o.nz o.cz, .slice A2 o.np c2, .int .i64 o.key] 104)).ownsRow (B+1) 104 9 v k (os'.flatMap nV):=Ii.out.alloc _;have hno:v.ownBlock≠some B:=fun e=>by have:=(O5 _ e).1;omega
   have b5:k+1≤maxLen:=by unfold maxLen;omega
   have b6:(k+1)*128≤140737488355328:=by omega
   have b7:B+1≤(w7.alloc (.cells #[.int .i64 o.num, .string o.rs, .int .i64 o.E1, .int .i64 o.E2, .slice o.A o.na o.ca, .int .i64 o.C, .slice o.Z o.nz o.cz, .slice A2 o.np c2, .int .i64 o.key] 104)).heap.size:=by simp;omega
   go_wp2_with (at_builtin;refine wpList_append_lies rfl _ _ 49 rfl (B+1) 104 i1 (.agg #[.int .i64 0, .string ⟨#[]⟩, .int .i64 0, .int .i64 0, .slice none 0 0, .int .i64 0, .slice none 0 0, .slice none 0 0, .int .i64 0]) 9 128 Tryz.underlying49 hi1 hy0 hy1 hy2 (by rfl) (by decide) _ _ _ rfl hown ⟨w7.heap.size,0,none⟩ 1 1 [.int .i64 o.num, .string o.rs, .int .i64 o.E1, .int .i64 o.E2, .slice o.A o.na o.ca, .int .i64 o.C, .slice o.Z o.nz o.cz, .slice A2 o.np c2, .int .i64 o.key] rfl rfl (World.news_of_block (cs:=#[.int .i64 o.num, .string o.rs, .int .i64 o.E1, .int .i64 o.E2, .slice o.A o.na o.ca, .int .i64 o.C, .slice o.Z o.nz o.cz, .slice A2 o.np c2, .int .i64 o.key]) (t:=104) (fr:=(0,0)) (heap_alloc_new w7 _)) (by simp[Value.oneCell']) (by decide) b5 b6 b7 _ rfl ?_;intro gg cap w8 vC kR Tf Pm;obtain⟨p1,p2⟩:=aJ (HV7.out.below (af w7 (.cells #[.int .i64 o.num, .string o.rs, .int .i64 o.E1, .int .i64 o.E2, .slice o.A o.na o.ca, .int .i64 o.C, .slice o.Z o.nz o.cz, .slice A2 o.np c2, .int .i64 o.key] 104))) kR hno)
   have hgz:(w7.alloc (.cells #[.int .i64 o.num, .string o.rs, .int .i64 o.E1, .int .i64 o.E2, .slice o.A o.na o.ca, .int .i64 o.C, .slice o.Z o.nz o.cz, .slice A2 o.np c2, .int .i64 o.key] 104)).heap.size≤w8.heap.size:=kR.size;have hsq:(w7.alloc (.cells #[.int .i64 o.num, .string o.rs, .int .i64 o.E1, .int .i64 o.E2, .slice o.A o.na o.ca, .int .i64 o.C, .slice o.Z o.nz o.cz, .slice A2 o.np c2, .int .i64 o.key] 104)).heap.size=w7.heap.size+1:=by simp
   have hlen:(os' ++ [(V3 o A2 c2)]).length=k+1:=by rw[List.length_append,si.out];rfl
   have xS:∀b9,((.slice (some ⟨gg,0,none⟩) (k+1) cap):Value).ownBlock=some b9→v.ownBlock=some b9∨w7.heap.size≤b9:=fun b9 e=>by
    cases e
    rcases Tf with e | e
    · exact Or.inl e
    · exact Or.inr (show w7.heap.size≤gg by omega)
   have adJ:((w8.setCell ⟨B,0,none⟩ (.slice (some ⟨gg,0,none⟩) (k+1) cap)):World).heap.size=w8.heap.size:=World.size_setCell _ _ _;have Ju:∀b9,b9<w7.heap.size→b9≠B→v.ownBlock≠some b9→((w8.setCell ⟨B,0,none⟩ (.slice (some ⟨gg,0,none⟩) (k+1) cap)):World).heap[b9]? = w7.heap[b9]? :=fun b9 h1 h2 h3=>(Go.Deep.blk_setCell_other _ _ _ _ h2).trans ((kR.block b9 (by omega) (fun e=>h3 e.symm)).trans ((af w7 (.cells #[.int .i64 o.num, .string o.rs, .int .i64 o.E1, .int .i64 o.E2, .slice o.A o.na o.ca, .int .i64 o.C, .slice o.Z o.nz o.cz, .slice A2 o.np c2, .int .i64 o.key] 104)).block b9 h1));have Zf:Hid ((w8.setCell ⟨B,0,none⟩ (.slice (some ⟨gg,0,none⟩) (k+1) cap)).ownsRow (B+1) 104 9 (.slice (some ⟨gg,0,none⟩) (k+1) cap) (k+1) ((os' ++ [(V3 o A2 c2)]).flatMap nV)):=aa (World.ownsRow.kept (by rw[List.flatMap_append];simpa using vC) (jF _ _ _ _) (Or.inr (fun e=>by have:=(World.ownsRow.lt vC _ e).1;omega)));have XR:Hid (Own (w8.setCell ⟨B,0,none⟩ (.slice (some ⟨gg,0,none⟩) (k+1) cap)) ⟨B,0,none⟩ (.slice (some ⟨gg,0,none⟩) (k+1) cap)):=aa (bu ⟨p1,p2⟩);have XT:Hid (Own (w8.setCell ⟨B,0,none⟩ (.slice (some ⟨gg,0,none⟩) (k+1) cap)) ⟨B,1,none⟩ (.slice A1 m c1)):=aa (ak (aJ (aeR.out.below (af w7 (.cells #[.int .i64 o.num, .string o.rs, .int .i64 o.E1, .int .i64 o.E2, .slice o.A o.na o.ca, .int .i64 o.C, .slice o.Z o.nz o.cz, .slice A2 o.np c2, .int .i64 o.key] 104))) kR hno) (by simp));have HG9:Hid (Io wB.heap.size ix B (.slice (some ⟨gg,0,none⟩) (k+1) cap) (if k=ix then(Value.slice A2 o.np c2).ownBlock else Li) os (os' ++ [(V3 o A2 c2)]) (k+1) (w8.setCell ⟨B,0,none⟩ (.slice (some ⟨gg,0,none⟩) (k+1) cap))):=aa (Io.push (S:=X) (u:=wr) (u7:=w7) (o':=(V3 o A2 c2)) HG.out si.out TY.out (by omega) (by omega) (fun b9 e=>by have:=O5 b9 e;omega) (by omega) (by omega) (fun b9 h1 h2 h3=>(Ju b9 (by omega) (by omega) h3).trans (vK.out.block b9 (by rw[TY.out];exact h1))) (fun b9 h1 h2=>Ju b9 h2 (by omega) (fun e=>by have:=O5 _ e;omega)) xS (by rw[oI.out];exact RL _ _ _) HQ7.out (fun b9 e=>by have h1:=Zi.out b9 e;omega))
   have zT:Hid (Below B W (w8.setCell ⟨B,0,none⟩ (.slice (some ⟨gg,0,none⟩) (k+1) cap))):=aa ((((aD.out.trans (vK.out.mono (by rw[TY.out];omega))).alloc (by omega) (.cells #[.int .i64 o.num, .string o.rs, .int .i64 o.E1, .int .i64 o.E2, .slice o.A o.na o.ca, .int .i64 o.C, .slice o.Z o.nz o.cz, .slice A2 o.np c2, .int .i64 o.key] 104)).grown kR (by simp;omega) (fun j hj=>by have:=(O5 j hj).1;omega)).setCell (Nat.le_refl _) _);have YM:=aa hlen;clear hown vC kR Tf Pm xS Ju p1 p2 b5 b6 b7 hno v3 IQ O5;go_wp2
   go_roundw
   case rel=>exact⟨k+1,_,_,(if k=ix then(Value.slice A2 o.np c2).ownBlock else Li),by omega,by go_num,YM,XR,XT,Zf,HG9,zT⟩
   case measure=>simp[intOf];omega
  ·
   obtain rfl:k=n:=by omega
   obtain⟨A3,c3,hv3,hc3,hbo⟩:=mE HO.out;subst hv3;obtain⟨A4,c4,hv4,hc4,hbk⟩:=Um.out
   cases hv4
   have YA:Hid (wr.ownsRow w0.heap.size 41 32 (.slice A1 m c1) m (hs.flatMap nA)):=aa (own_below (World.ownsRow.kept HK1.out (lQ HKW.out none) (lM _)) aD.out (fun b9 e=>by have:=(hbk b9 e).2;have:=J3.out;omega));have jU:Hid (wr.heap[w.heap.size+1]? = some (.cells #[.slice none 0 0, .slice none 0 0] 52)):=nZ.out _ jw;have Rj:=aa hbo;have Il:=aa hbk;have QY:=aa hc3;have Zo:=aa hc4;obtain⟨v3,IQ⟩:=HV.out;obtain⟨v4,v4f⟩:=qV.out;clear hbo hbk hc3 hc4 hBW hsb;obtain⟨yw,yu,⟨za,zf2⟩,⟨y_,zf3⟩⟩:=kC.out _ jw
   go_wp2_with ((with_reducible show wpList _ _ _ (⟨none,_,_,_,_,_⟩::_) _ _);refine wpList_store_row rfl 52 _ _ rfl (w.heap.size+1) #[.slice A3 k c3, .slice A1 m c1] rfl rfl _ _ jU.out (by kernel_rfl) rfl (by simp[Value.oneCell']) ?_)
   have hrw:=setRow_heap _ _ _ #[.slice A3 k c3, .slice A1 m c1] _ _ jU.out;have bT:=aj (ag ai.out jw.out) (cs:=#[.slice A3 k c3, .slice A1 m c1]) (Nat.le_add_right w.heap.size 1);have h0:=lV.out;have hsb:=zy.out;have hw1:=J3.out;have hlw:=HLW.out;have aia:=aD.out.size;have hw0:w.heap.size≤w0.heap.size:=by omega
   have hzs:(wr.setRow (w.heap.size+1) #[.slice A3 k c3, .slice A1 m c1]).heap.size=wr.heap.size:=by simp[World.setRow]
   refine bodyPost_ret (v:=iA A3 k c3 A1 m c1) (aK (p:=2) (ty:=52) rfl _ _ ⟨w.heap.size+1,0,none⟩ _ rfl (run_loadVar_row _ _ _ _ _ _ _ hrw Tryz.underlying52 rfl (by kernel_rfl))) rfl ⟨A3,c3,A1,c1,os',B,Li,rfl,P5 si.out QY.out Zo.out hlw (by omega) (by omega) ?_ ?_ (fun b9 e=>?_) ?_,bT⟩
   · exact World.ownsRow.kept HO.out (iR _ _ _) (Or.inr (fun e=>by have:=(Rj.out _ e).1;omega))
   · exact World.ownsRow.kept (xB YA.out hw0) (iR _ _ _) (Or.inr (fun e=>by have:=(Il.out _ e).1;omega))
   ·
    have:=(Il.out _ e).2
    omega
   · exact HG.out.shut (by rw[hzs];exact Nat.le_refl _) (fun b9 h1 h2=>setRow_other _ _ _ _ (by omega))
def vI (g:Nat→Bool):Nat→Bool
 | 0=>true
 | k+1=>vI g k&&g k
theorem EN {g:Nat→Bool} {k:Nat} (h:g k=false):∀ {n:Nat},k<n→vI g n=false
 | 0,hk=>absurd hk (by omega)
 | n+1,hk=>by
  by_cases e:k=n
  · subst e;rw[vI,h,Bool.and_false]
  · rw[vI,EN h (by omega),Bool.false_and]
theorem S_ (a4 a5 a6 a7:Nat)(L:Option Addr)(ps:List aS)(n c:Nat)(hn:Hid (ps.length=n))(hbig:n<1000000)(g:Nat→Bool)(w:World)(hs:Hid (Pa w L ps))(hf:Hid (∀k,k<n→∀u:World,Hid (Below w.heap.size w u)→Calls Tryz.prog 137 #[Gc (ps.getD k aC), .pointer (some ⟨a4,0,none⟩), .pointer (some ⟨a5,0,none⟩), .pointer (some ⟨a6,0,none⟩), .pointer (some ⟨a7,0,none⟩)] u fun e w'=>e = .returned (.bool (!(g k)))∧Below u.heap.size u w')) :
  Calls Tryz.prog 124 #[.slice L n c, .func (.func 137) #[] #[.pointer (some ⟨a4,0,none⟩), .pointer (some ⟨a5,0,none⟩), .pointer (some ⟨a6,0,none⟩), .pointer (some ⟨a7,0,none⟩)]] w fun e w'=>∃i:Int,e = .returned (.int .i64 i)∧((i = -1∧vI g n=true)∨(0≤i∧vI g n=false))∧Below w.heap.size w w':=by
 go_in;go_wp2
 go_loopw [8] (fun i wr=>∃k:Nat,k≤n∧i = .int .i64 k∧Hid (vI g k=true)∧Hid (Below w.heap.size w wr)) (fun i _=>n-(intOf i).toNat)
 case atStart=>exact⟨0,by omega,rfl,aa rfl,aa (Below.refl _ _)⟩
 case round=>
  obtain⟨k,hk,rfl,HR,aD⟩:=hrel
  by_cases hlt:k<n
  ·
   have hkl:k<ps.length:=by rw[hn.out];exact hlt
   obtain⟨b,o,hA,i0,i1,i2,i3,i4,i5⟩:=(hs.out.below aD.out) k hkl;subst hA;clear i5;have HC:=aa (hf.out k hlt wr aD);obtain⟨p,hp⟩:∃p,ps.getD k aC=p:=⟨_,rfl⟩;rw[hp]at i0 i1 i2 i3 i4 HC;clear hp hkl
   cases hg:g k with
   | true=>
    rw[hg]at HC;have HN:Hid (vI g (k+1)=true):=aa (by rw[vI,HR.out,hg];rfl);clear hg
    go_wp2_with fail
    refine HC.out.mono ?_;rintro e w2 ⟨rfl,hb0⟩;have HB2:=aa (ag aD.out hb0);clear hb0 aD i0 i1 i2 i3 i4 HC;go_wp2
    go_roundw
    case rel=>exact⟨k+1,by omega,by go_num,HN,HB2⟩
    case measure=>simp[intOf];omega
   | false=>
    rw[hg]at HC;have HN:Hid (vI g n=false):=aa (EN hg hlt);clear hg
    go_wp2_with fail
    refine HC.out.mono ?_;rintro e w2 ⟨rfl,hb0⟩;have HB2:=aa (ag aD.out hb0);clear hb0 aD i0 i1 i2 i3 i4 HC;go_wp2;go_ret;exact⟨_,rfl, .inr ⟨by omega,HN.out⟩,HB2.out⟩
  ·
   obtain rfl:k=n:=by omega
   go_wp2;go_ret;exact⟨_,rfl, .inl ⟨rfl,HR.out⟩,aD.out⟩
theorem XC (a4 a5 a6 a7:Nat)(L:Option Addr)(ps:List aS)(n c:Nat)(hn:Hid (ps.length=n))(hbig:n<1000000)(g:Nat→Bool)(w:World)(hs:Hid (Pa w L ps))(hf:Hid (∀k,k<n→∀u:World,Hid (Below w.heap.size w u)→Calls Tryz.prog 137 #[Gc (ps.getD k aC), .pointer (some ⟨a4,0,none⟩), .pointer (some ⟨a5,0,none⟩), .pointer (some ⟨a6,0,none⟩), .pointer (some ⟨a7,0,none⟩)] u fun e w'=>e = .returned (.bool (!(g k)))∧Below u.heap.size u w')) :
  Calls Tryz.prog 70 #[.slice L n c, .func (.func 137) #[] #[.pointer (some ⟨a4,0,none⟩), .pointer (some ⟨a5,0,none⟩), .pointer (some ⟨a6,0,none⟩), .pointer (some ⟨a7,0,none⟩)]] w (Rt w (.bool (!(vI g n)))):=by
 go_in
 go_wp2_with fail
 refine(S_ a4 a5 a6 a7 L ps n c hn hbig g _ hs hf).mono ?_;rintro e w1 ⟨i,rfl,hi,hb1⟩;rcases hi with⟨rfl,hq⟩ | ⟨hi,hq⟩
 ·
  go_wp2;go_ret;exact⟨by rw[hq];rfl,hb1⟩
 ·
  have d0:decide ((0:Int)≤i)=true:=by simp;omega
  go_wp2;go_ret;exact⟨by rw[hq];rfl,hb1⟩
theorem XJ (a4 a5 a6 a7:Nat)(P Q G need:Int)(Cs:Option Addr)(cs:List Int)(cn cc:Nat)(Ks:Option Addr)(ks:List Int)(kn kc:Nat)(hcn:Hid (cs.length=cn))(hkn:Hid (ks.length=kn))(hQ:Q<9223372036854775808)(bO fO:Nat)(os:List aG)(n c:Nat)(K:Option Addr)(hs:List (List Int))(m d i:Nat)(hn:Hid (os.length=n))(hm:Hid (hs.length=m))(hi:i<n)(him:i≤m)(hb1:n≤1000000)(hb2:m≤1000000)(h:List Int)(hh:Hid (eH hs i=h))(hl:Hid (h.length=32))(hb:Hid (aF h=true))(o:aG)(ho:Hid (bz os i=o))(hI:Hid (dD o))(hSo:fE o)(p:aS)(gy:Hid (p.al.length=p.na))(hzn:Hid (p.zs.length=p.nz))(hna:p.na<1000000)(hnz:p.nz<1000000)(hsh:Hid (wO p.na p.nz=false))(w:World)(hv:Hid (Vars w))(hd0:Hid (bB w))(hC:Hid (Sl w Cs cs))(hK:Hid (Sl w Ks ks))(hO:Hid (Os w (some ⟨bO,fO,none⟩) os))(hH:Hid (Hs w K hs))(nD:Hid (Sl w p.A p.al))(nC:Hid (Sl w p.Z p.zs))(hcap:Hid (w.cell? ⟨a4,0,none⟩=some (.int .i64 P)∧w.cell? ⟨a4,1,none⟩=some (.int .i64 Q)∧w.cell? ⟨a4,2,none⟩=some (.int .i64 G)∧w.cell? ⟨a5,0,none⟩=some (.int .i64 need)∧w.cell? ⟨a5,1,none⟩=some (.slice Cs cn cc)∧w.cell? ⟨a5,2,none⟩=some (.slice Ks kn kc)∧w.cell? ⟨a6,0,none⟩=some (.slice (some ⟨bO,fO,none⟩) n c)∧w.cell? ⟨a6,1,none⟩=some (.slice K m d)∧w.cell? ⟨a7,0,none⟩=some (.int .i64 (i:Int)))) :
  Calls Tryz.prog 137 #[Gc p, .pointer (some ⟨a4,0,none⟩), .pointer (some ⟨a5,0,none⟩), .pointer (some ⟨a6,0,none⟩), .pointer (some ⟨a7,0,none⟩)] w (Rt w (.bool true)):=by
 obtain⟨w0,HW,ai,kC⟩:=st1 (sM p) vF w;have kO:=fo (fun u=>Os u (some ⟨bO,fO,none⟩) os) ai hO (·.below);have kH:=fo (fun u=>Hs u K hs) ai hH (·.below);have kD:=oF ai hd0;have jb:=mkS ai hC;have ja:=mkS ai hK;have kA1:=mkS ai nD;have SB:=mkS ai nC;have kV:=mkV ai hv;have ah:=bI w0;clear hO hH hd0 hC hK nD nC hv;have kCP:=aa (show ∀u:World,Hid (Below w0.heap.size w0 u)→u.cell? ⟨a4,0,none⟩=some (.int .i64 P)∧u.cell? ⟨a4,1,none⟩=some (.int .i64 Q)∧u.cell? ⟨a4,2,none⟩=some (.int .i64 G)∧u.cell? ⟨a5,0,none⟩=some (.int .i64 need)∧u.cell? ⟨a5,1,none⟩=some (.slice Cs cn cc)∧u.cell? ⟨a5,2,none⟩=some (.slice Ks kn kc)∧u.cell? ⟨a6,0,none⟩=some (.slice (some ⟨bO,fO,none⟩) n c)∧u.cell? ⟨a6,1,none⟩=some (.slice K m d)∧u.cell? ⟨a7,0,none⟩=some (.int .i64 (i:Int))from fun u h9=>⟨cell_below (cell_below hcap.out.1 ai.out) h9.out,cell_below (cell_below hcap.out.2.1 ai.out) h9.out,cell_below (cell_below hcap.out.2.2.1 ai.out) h9.out,cell_below (cell_below hcap.out.2.2.2.1 ai.out) h9.out,cell_below (cell_below hcap.out.2.2.2.2.1 ai.out) h9.out,cell_below (cell_below hcap.out.2.2.2.2.2.1 ai.out) h9.out,cell_below (cell_below hcap.out.2.2.2.2.2.2.1 ai.out) h9.out,cell_below (cell_below hcap.out.2.2.2.2.2.2.2.1 ai.out) h9.out,cell_below (cell_below hcap.out.2.2.2.2.2.2.2.2 ai.out) h9.out⟩);clear hcap;go_in
 go_upto_region 1 with(fail)
 rw[HW.out];have zc:=kC.out _ ah;have Ni:=kCP.out _ ah
 go_wp2_with fail
 clear zc Ni;refine JN ah (Nv P Q G need Cs cs cn cc Ks ks kn kc hcn hkn hQ bO fO os n c K hs m d i hn hm hi him hb1 hb2 h hh hl hb o ho hI hSo p gy hzn hna hnz hsh _ (kV.out _ ah) (kD.out _ ah) (jb.out _ ah) (ja.out _ ah) (kO.out _ ah) (kH.out _ ah) (kA1.out _ ah) (SB.out _ ah)) fun w1 ax=>?_;have zc:=kC.out _ ax;have Ni:=kCP.out _ ax;go_wp2;go_ret;exact⟨rfl,f_ ai ax⟩
theorem XI (a4 a5 a6 a7:Nat)(P Q G need:Int)(Cs:Option Addr)(cs:List Int)(cn cc:Nat)(Ks:Option Addr)(ks:List Int)(kn kc:Nat)(hcn:Hid (cs.length=cn))(hkn:Hid (ks.length=kn))(hQ:Q<9223372036854775808)(bO fO:Nat)(os:List aG)(n c:Nat)(K:Option Addr)(hs:List (List Int))(m d i:Nat)(hn:Hid (os.length=n))(hm:Hid (hs.length=m))(hi:i<n)(him:i≤m)(hb1:n≤1000000)(hb2:m≤1000000)(h:List Int)(hh:Hid (eH hs i=h))(hl:Hid (h.length=32))(hb:Hid (aF h=true))(o:aG)(ho:Hid (bz os i=o))(hI:Hid (dD o))(hSo:fE o)(p:aS)(gy:Hid (p.al.length=p.na))(hzn:Hid (p.zs.length=p.nz))(hna:p.na<1000000)(hnz:p.nz<1000000)(hsh:Hid (wO p.na p.nz=true))(r:Bool)(hr:Kp (FJ P Q G need cs ks o.E1 p.ix p.v p.C (bq (M7 h o)) p.al p.zs=r))(w:World)(hv:Hid (Vars w))(hd0:Hid (bB w))(hC:Hid (Sl w Cs cs))(hK:Hid (Sl w Ks ks))(hO:Hid (Os w (some ⟨bO,fO,none⟩) os))(hH:Hid (Hs w K hs))(nD:Hid (Sl w p.A p.al))(nC:Hid (Sl w p.Z p.zs))(hcap:Hid (w.cell? ⟨a4,0,none⟩=some (.int .i64 P)∧w.cell? ⟨a4,1,none⟩=some (.int .i64 Q)∧w.cell? ⟨a4,2,none⟩=some (.int .i64 G)∧w.cell? ⟨a5,0,none⟩=some (.int .i64 need)∧w.cell? ⟨a5,1,none⟩=some (.slice Cs cn cc)∧w.cell? ⟨a5,2,none⟩=some (.slice Ks kn kc)∧w.cell? ⟨a6,0,none⟩=some (.slice (some ⟨bO,fO,none⟩) n c)∧w.cell? ⟨a6,1,none⟩=some (.slice K m d)∧w.cell? ⟨a7,0,none⟩=some (.int .i64 (i:Int)))) :
  Calls Tryz.prog 137 #[Gc p, .pointer (some ⟨a4,0,none⟩), .pointer (some ⟨a5,0,none⟩), .pointer (some ⟨a6,0,none⟩), .pointer (some ⟨a7,0,none⟩)] w (Rt w (.bool (!r))):=by
 obtain⟨w0,HW,ai,kC⟩:=st1 (sM p) vF w;have kO:=fo (fun u=>Os u (some ⟨bO,fO,none⟩) os) ai hO (·.below);have kH:=fo (fun u=>Hs u K hs) ai hH (·.below);have kD:=oF ai hd0;have jb:=mkS ai hC;have ja:=mkS ai hK;have kA1:=mkS ai nD;have SB:=mkS ai nC;have kV:=mkV ai hv;have ah:=bI w0;clear hO hH hd0 hC hK nD nC hv;have kCP:=aa (show ∀u:World,Hid (Below w0.heap.size w0 u)→u.cell? ⟨a4,0,none⟩=some (.int .i64 P)∧u.cell? ⟨a4,1,none⟩=some (.int .i64 Q)∧u.cell? ⟨a4,2,none⟩=some (.int .i64 G)∧u.cell? ⟨a5,0,none⟩=some (.int .i64 need)∧u.cell? ⟨a5,1,none⟩=some (.slice Cs cn cc)∧u.cell? ⟨a5,2,none⟩=some (.slice Ks kn kc)∧u.cell? ⟨a6,0,none⟩=some (.slice (some ⟨bO,fO,none⟩) n c)∧u.cell? ⟨a6,1,none⟩=some (.slice K m d)∧u.cell? ⟨a7,0,none⟩=some (.int .i64 (i:Int))from fun u h9=>⟨cell_below (cell_below hcap.out.1 ai.out) h9.out,cell_below (cell_below hcap.out.2.1 ai.out) h9.out,cell_below (cell_below hcap.out.2.2.1 ai.out) h9.out,cell_below (cell_below hcap.out.2.2.2.1 ai.out) h9.out,cell_below (cell_below hcap.out.2.2.2.2.1 ai.out) h9.out,cell_below (cell_below hcap.out.2.2.2.2.2.1 ai.out) h9.out,cell_below (cell_below hcap.out.2.2.2.2.2.2.1 ai.out) h9.out,cell_below (cell_below hcap.out.2.2.2.2.2.2.2.1 ai.out) h9.out,cell_below (cell_below hcap.out.2.2.2.2.2.2.2.2 ai.out) h9.out⟩);clear hcap;go_in
 go_upto_region 1 with(fail)
 rw[HW.out];have zc:=kC.out _ ah;have Ni:=kCP.out _ ah
 go_wp2_with fail
 clear zc Ni;refine JN ah (Nt P Q G need Cs cs cn cc Ks ks kn kc hcn hkn hQ bO fO os n c K hs m d i hn hm hi him hb1 hb2 h hh hl hb o ho hI hSo p gy hzn hna hnz hsh r hr _ (kV.out _ ah) (kD.out _ ah) (jb.out _ ah) (ja.out _ ah) (kO.out _ ah) (kH.out _ ah) (kA1.out _ ah) (SB.out _ ah)) fun w1 ax=>?_;have zc:=kC.out _ ax;have Ni:=kCP.out _ ax;go_wp2;go_ret;exact⟨rfl,f_ ai ax⟩
theorem Qs (a4 a5 a6 a7:Nat)(P Q G need:Int)(Cs:Option Addr)(cs:List Int)(cn cc:Nat)(Ks:Option Addr)(ks:List Int)(kn kc:Nat)(hcn:Hid (cs.length=cn))(hkn:Hid (ks.length=kn))(hQ:Q<9223372036854775808)(bO fO:Nat)(os:List aG)(n c:Nat)(K:Option Addr)(hs:List (List Int))(m d i:Nat)(hn:Hid (os.length=n))(hm:Hid (hs.length=m))(hi:i<n)(him:i≤m)(hb1:n≤1000000)(hb2:m≤1000000)(h:List Int)(hh:Hid (eH hs i=h))(hl:Hid (h.length=32))(hb:Hid (aF h=true))(o:aG)(ho:Hid (bz os i=o))(hI:Hid (dD o))(hSo:fE o)(p:aS)(gy:Hid (p.al.length=p.na))(hzn:Hid (p.zs.length=p.nz))(hna:p.na<1000000)(hnz:p.nz<1000000)(w:World)(hv:Hid (Vars w))(hd0:Hid (bB w))(hC:Hid (Sl w Cs cs))(hK:Hid (Sl w Ks ks))(hO:Hid (Os w (some ⟨bO,fO,none⟩) os))(hH:Hid (Hs w K hs))(nD:Hid (Sl w p.A p.al))(nC:Hid (Sl w p.Z p.zs))(hcap:Hid (w.cell? ⟨a4,0,none⟩=some (.int .i64 P)∧w.cell? ⟨a4,1,none⟩=some (.int .i64 Q)∧w.cell? ⟨a4,2,none⟩=some (.int .i64 G)∧w.cell? ⟨a5,0,none⟩=some (.int .i64 need)∧w.cell? ⟨a5,1,none⟩=some (.slice Cs cn cc)∧w.cell? ⟨a5,2,none⟩=some (.slice Ks kn kc)∧w.cell? ⟨a6,0,none⟩=some (.slice (some ⟨bO,fO,none⟩) n c)∧w.cell? ⟨a6,1,none⟩=some (.slice K m d)∧w.cell? ⟨a7,0,none⟩=some (.int .i64 (i:Int)))) :
  Calls Tryz.prog 137 #[Gc p, .pointer (some ⟨a4,0,none⟩), .pointer (some ⟨a5,0,none⟩), .pointer (some ⟨a6,0,none⟩), .pointer (some ⟨a7,0,none⟩)] w (Rt w (.bool (!(zC P Q G need cs ks h o p)))):=by
 cases hsh:wO p.na p.nz with
 | false=>
  rw[zC,hsh];exact XJ a4 a5 a6 a7 P Q G need Cs cs cn cc Ks ks kn kc hcn hkn hQ bO fO os n c K hs m d i hn hm hi him hb1 hb2 h hh hl hb o ho hI hSo p gy hzn hna hnz (aa hsh) w hv hd0 hC hK hO hH nD nC hcap
 | true=>
  rw[zC,hsh,Bool.true_and];exact XI a4 a5 a6 a7 P Q G need Cs cs cn cc Ks ks kn kc hcn hkn hQ bO fO os n c K hs m d i hn hm hi him hb1 hb2 h hh hl hb o ho hI hSo p gy hzn hna hnz (aa hsh) _ ⟨rfl⟩ w hv hd0 hC hK hO hH nD nC hcap
theorem AV (P Q G need:Int)(Cs:Option Addr)(cs:List Int)(cn cc:Nat)(Ks:Option Addr)(ks:List Int)(kn kc:Nat)(hcn:Hid (cs.length=cn))(hkn:Hid (ks.length=kn))(hQ:Q<9223372036854775808)(bO fO:Nat)(os:List aG)(n c:Nat)(K:Option Addr)(hs:List (List Int))(m d i:Nat)(hn:Hid (os.length=n))(hm:Hid (hs.length=m))(hi:i<n)(him:i≤m)(hb1:n≤1000000)(hb2:m≤1000000)(h:List Int)(hh:Hid (eH hs i=h))(hl:Hid (h.length=32))(hb:Hid (aF h=true))(o:aG)(ho:Hid (bz os i=o))(hI:Hid (dD o))(hSo:fE o)(w:World)(hv:Hid (Vars w))(hd0:Hid (bB w))(hC:Hid (Sl w Cs cs))(hK:Hid (Sl w Ks ks))(hO:Hid (Os w (some ⟨bO,fO,none⟩) os))(hH:Hid (Hs w K hs)) :
  Calls Tryz.prog 83 #[gv P Q G,jY need Cs cn cc Ks kn kc,iA (some ⟨bO,fO,none⟩) n c K m d, .int .i64 (i:Int)] w (Rt w (.bool (vI (fun k=>zC P Q G need cs ks h o (o.ps.getD k aC)) o.np))):=by
 obtain⟨rb,hrb⟩:∃b,vI (fun k=>zC P Q G need cs ks h o (o.ps.getD k aC)) o.np=b:=⟨_,rfl⟩;rw[hrb];have Fq:=aa hrb;clear hrb;obtain⟨w0,HW,ai,kC⟩:=Ch (bg P Q G) fq (.cells #[.int .i64 need, .slice Cs cn cc, .slice Ks kn kc] 26) fq (jC (some ⟨bO,fO,none⟩) n c K m d) sG (.cells #[.int .i64 (i:Int)] 3) bq1 w;have kO:=fo (fun u=>Os u (some ⟨bO,fO,none⟩) os) ai hO (·.below);have kH:=fo (fun u=>Hs u K hs) ai hH (·.below);have kD:=oF ai hd0;have jb:=mkS ai hC;have ja:=mkS ai hK;have kV:=mkV ai hv;have ah:=bI w0;clear hO hH hd0 hC hK hv;obtain⟨bX,fX,hX,bF,hok⟩:=((kO.out _ ah)).out i (by rw[hn.out];exact hi)
 cases hX
 rw[show os.getD i dN=o from ho.out]at bF hok;have hcell:=bF.2.2.2.2.2.2.2.1;have jy:=aa hok;clear bF hok;have hnp:o.np<1000000:=by have:=hSo.n;have h2:=jy.out.2.2.1.1;omega
 have Zn:Hid (∀k,k<o.np→∀u:World,Hid (Below w0.heap.size w0 u)→Calls Tryz.prog 137 #[Gc (o.ps.getD k aC), .pointer (some ⟨w.heap.size,0,none⟩), .pointer (some ⟨w.heap.size+1,0,none⟩), .pointer (some ⟨w.heap.size+2,0,none⟩), .pointer (some ⟨w.heap.size+3,0,none⟩)] u fun e w'=>e = .returned (.bool (!(zC P Q G need cs ks h o (o.ps.getD k aC))))∧Below u.heap.size u w'):=aa (fun k hk u hu=>by
  obtain⟨bL,oL,-,-,-,-,-,-,p1,p2,p3,p4⟩:=jy.out.2.2.2.2.2 k (by rw[jy.out.2.2.1.1];exact hk);have hps:=hSo.p _ (iL (show k<o.ps.length by rw[jy.out.2.2.1.1];exact hk))
  exact Qs w.heap.size (w.heap.size+1) (w.heap.size+2) (w.heap.size+3) P Q G need Cs cs cn cc Ks ks kn kc hcn hkn hQ bO fO os n c K hs m d i hn hm hi him hb1 hb2 h hh hl hb o ho hI hSo (o.ps.getD k aC) (aa p1) (aa p2) (by rw[←p1];omega) (by rw[←p2];omega) u (kV.out _ hu) (kD.out _ hu) (jb.out _ hu) (ja.out _ hu) (kO.out _ hu) (kH.out _ hu) (aa (p3.below hu.out)) (aa (p4.below hu.out)) (aa (kC.out _ hu)))
 go_in
 go_upto_region 1 with(fail)
 rw[HW.out];have zc:=kC.out _ ah;have Ih:Hid (Pa w0 o.L o.ps):=aa jy.out.2.2.2.2.2;have qi:Hid (o.ps.length=o.np):=aa jy.out.2.2.1.1
 go_wp2_with fail
 refine(XC w.heap.size (w.heap.size+1) (w.heap.size+2) (w.heap.size+3) o.L o.ps o.np o.cp qi hnp (fun k=>zC P Q G need cs ks h o (o.ps.getD k aC)) w0 Ih Zn).mono ?_;rintro e w1 ⟨rfl,hb0⟩;rw[Fq.out];have ax:=bJ ah hb0;clear zc hb0;clear hcell;clear Fq
 cases rb with
 | false=>
  go_wp2;go_ret;exact⟨rfl,f_ ai ax⟩
 | true=>
  go_wp2;go_ret;exact⟨rfl,f_ ai ax⟩
theorem Bc (P Q G need:Int)(Cs:Option Addr)(cs:List Int)(cn cc:Nat)(Ks:Option Addr)(ks:List Int)(kn kc:Nat)(hcn:Hid (cs.length=cn))(hkn:Hid (ks.length=kn))(hQ:Q<9223372036854775808)(bO fO:Nat)(os:List aG)(n c:Nat)(K:Option Addr)(hs:List (List Int))(m d i:Nat)(hn:Hid (os.length=n))(hm:Hid (hs.length=m))(hi:i<n)(him:i≤m)(hb1:n≤1000000)(hb2:m≤1000000)(h:List Int)(hh:Hid (eH hs i=h))(hl:Hid (h.length=32))(hb:Hid (aF h=true))(o:aG)(ho:Hid (bz os i=o))(hI:Hid (dD o))(hSo:fE o)(p:aS)(gy:Hid (p.al.length=p.na))(hzn:Hid (p.zs.length=p.nz))(hna:p.na<1000000)(hnz:p.nz<1000000)(w:World)(hv:Hid (Vars w))(hd0:Hid (bB w))(hC:Hid (Sl w Cs cs))(hK:Hid (Sl w Ks ks))(hO:Hid (Os w (some ⟨bO,fO,none⟩) os))(hH:Hid (Hs w K hs))(nD:Hid (Sl w p.A p.al))(nC:Hid (Sl w p.Z p.zs))(r:Bool)(hr:Hid (zC P Q G need cs ks h o p=r)) :
  Calls Tryz.prog 79 #[gv P Q G,jY need Cs cn cc Ks kn kc,iA (some ⟨bO,fO,none⟩) n c K m d, .int .i64 (i:Int),Gc p] w (Rt w (.bool r)):=by
 have hr1:=hr.out
 cases hsh:wO p.na p.nz with
 | false=>
  obtain rfl:r=false:=by rw[←hr1,zC,hsh];rfl
  exact N9 P Q G need Cs cs cn cc Ks ks kn kc hcn hkn hQ bO fO os n c K hs m d i hn hm hi him hb1 hb2 h hh hl hb o ho hI hSo p gy hzn hna hnz (aa hsh) w hv hd0 hC hK hO hH nD nC
 | true=>
  exact N8 P Q G need Cs cs cn cc Ks ks kn kc hcn hkn hQ bO fO os n c K hs m d i hn hm hi him hb1 hb2 h hh hl hb o ho hI hSo p gy hzn hna hnz (aa hsh) r ⟨by rw[←hr1,zC,hsh,Bool.true_and]⟩ w hv hd0 hC hK hO hH nD nC
theorem Bg (P Q G need:Int)(Cs:Option Addr)(cs:List Int)(cn cc:Nat)(Ks:Option Addr)(ks:List Int)(kn kc:Nat)(hcn:Hid (cs.length=cn))(hkn:Hid (ks.length=kn))(hQ:Q<9223372036854775808)(bO fO:Nat)(os:List aG)(n c:Nat)(K:Option Addr)(hs:List (List Int))(m d i:Nat)(hn:Hid (os.length=n))(hm:Hid (hs.length=m))(hi:i<n)(him:i≤m)(hb1:n≤1000000)(hb2:m≤1000000)(h:List Int)(hh:Hid (eH hs i=h))(hl:Hid (h.length=32))(hb:Hid (aF h=true))(o:aG)(ho:Hid (bz os i=o))(hI:Hid (dD o))(hSo:fE o)(w:World)(hv:Hid (Vars w))(hd0:Hid (bB w))(hC:Hid (Sl w Cs cs))(hK:Hid (Sl w Ks ks))(hO:Hid (Os w (some ⟨bO,fO,none⟩) os))(hH:Hid (Hs w K hs)) :
  Calls Tryz.prog 86 #[gv P Q G,jY need Cs cn cc Ks kn kc,iA (some ⟨bO,fO,none⟩) n c K m d, .int .i64 (i:Int)] w (Rt w (.bool (vI (fun k=>zC P Q G need cs ks h o (o.ps.getD k aC)) o.np))):=by
 obtain⟨gf,hgf⟩:∃f:Nat→Bool,(fun k=>zC P Q G need cs ks h o (o.ps.getD k aC))=f:=⟨_,rfl⟩;rw[hgf];have HGF:=aa hgf;clear hgf;obtain⟨w0,HW,ai,kC⟩:=qD (bg P Q G) fq (.cells #[.int .i64 need, .slice Cs cn cc, .slice Ks kn kc] 26) fq (jC (some ⟨bO,fO,none⟩) n c K m d) qx w;have kO:=fo (fun u=>Os u (some ⟨bO,fO,none⟩) os) ai hO (·.below);have kH:=fo (fun u=>Hs u K hs) ai hH (·.below);have kD:=oF ai hd0;have jb:=mkS ai hC;have ja:=mkS ai hK;have kV:=mkV ai hv;have ah:=bI w0;clear hO hH hd0 hC hK hv;obtain⟨bX,fX,hX,bF,hok⟩:=((kO.out _ ah)).out i (by rw[hn.out];exact hi)
 cases hX
 rw[show os.getD i dN=o from ho.out]at bF hok;have hcell:=bF.2.2.2.2.2.2.2.1;have jy:=aa hok;clear bF hok;have hnp:o.np<1000000:=by have:=hSo.n;have h2:=jy.out.2.2.1.1;omega
 have qi:Hid (o.ps.length=o.np):=aa jy.out.2.2.1.1;go_in
 go_upto_region 1 with(fail)
 rw[HW.out];have zc:=kC.out _ ah;go_wp2;clear hcell;clear zc
 go_loopw [10] (fun j u=>∃k:Nat,k≤o.np∧j = .int .i64 k∧Hid (vI gf k=true)∧Hid (Below w0.heap.size w0 u)) (fun j _=>o.np-(intOf j).toNat)
 case atStart=>exact⟨0,by omega,rfl,aa rfl,aa (Below.refl _ _)⟩
 case round=>
  obtain⟨k,hk,rfl,Co,aD⟩:=hrel
  by_cases hlt:k<o.np
  ·
   obtain⟨bL,oL,hA,j0,j1,j2,j3,j4,j5⟩:=jy.out.2.2.2.2.2 k (by rw[qi.out];exact hlt);have Ar:=aa hA;have hps:=hSo.p _ (iL (show k<o.ps.length by rw[qi.out];exact hlt));have hgk:=congrFun HGF.out k;obtain⟨p,hp⟩:∃p,o.ps.getD k aC=p:=⟨_,rfl⟩;rw[hp]at j0 j1 j2 j3 j4 j5 hps hgk;obtain⟨x1,x2,x3,x4⟩:=j5;have Zh:=aa x1;have Zg:=aa x2;have Re:=aa x3;have l8:=aa x4;have HPC:=aa (⟨j0,j1,j2,j3,j4⟩:_∧_∧_∧_∧_);have U8:p.na<1000000:=by rw[←x1];omega
   have U7:p.nz<1000000:=by rw[←x2];omega
   have Vi:=aa hgk;clear hp hA x1 x2 x3 x4 hps hgk j0 j1 j2 j3 j4;rw[Ar.out];have Mr:=nQ (w:=w0) (fun u=>Sl u p.A p.al) Re.out (·.below);have Mq:=nQ (w:=w0) (fun u=>Sl u p.Z p.zs) l8.out (·.below);have kPC:=aa (show ∀u:World,Hid (Below w0.heap.size w0 u)→u.cell? ⟨bL,oL+k*5,none⟩=some (.int .i64 p.ix)∧u.cell? ⟨bL,oL+k*5+1,none⟩=some (.int .i64 p.v)∧u.cell? ⟨bL,oL+k*5+2,none⟩=some (.slice p.A p.na p.ca)∧u.cell? ⟨bL,oL+k*5+3,none⟩=some (.int .i64 p.C)∧u.cell? ⟨bL,oL+k*5+4,none⟩=some (.slice p.Z p.nz p.cz)from fun u h9=>⟨cell_below HPC.out.1 h9.out,cell_below HPC.out.2.1 h9.out,cell_below HPC.out.2.2.1 h9.out,cell_below HPC.out.2.2.2.1 h9.out,cell_below HPC.out.2.2.2.2 h9.out⟩);have zc:=kC.out _ aD;have Nh:=kPC.out _ aD
   cases hgv:gf k with
   | false=>
    rw[hgv]at Vi;have HN:Hid (vI gf o.np=false):=aa (EN hgv hlt);clear hgv
    go_upto_region 5 with(fail)
    clear zc Nh;have hO:=aa (fun(u:World) (h:Hid (Below w0.heap.size w0 u))=>And.intro (kC.out u h) (kPC.out u h));refine jq [] aD (fun hHeld=>?_);refine aP 0 1 2 3 ?_;refine aP 4 5 6 7 ?_;refine dh 8 fun K hK=>?_;go_simp;refine(Bc P Q G need Cs cs cn cc Ks ks kn kc hcn hkn hQ bO fO os n c _ hs m d i hn hm hi him hb1 hb2 h hh hl hb o ho hI hSo p Zh Zg U8 U7 _ (kV.out _ hHeld) (kD.out _ hHeld) (jb.out _ hHeld) (ja.out _ hHeld) (kO.out _ hHeld) (kH.out _ hHeld) (Mr.out _ hHeld) (Mq.out _ hHeld) false Vi).mono ?_;rintro e wA ⟨rfl,bN⟩;refine hK.out _ _ (bJ hHeld bN) (fun hHeld=>?_);clear hK K;refine aL 9 ?_;refine gM ?_;clear hO;have bG:=hHeld;clear hHeld;have zc:=kC.out _ bG;have Nh:=kPC.out _ bG;go_wp2;go_ret;exact⟨by rw[HN.out];rfl,f_ ai bG⟩
   | true=>
    rw[hgv]at Vi;have HN:Hid (vI gf (k+1)=true):=aa (by rw[vI,Co.out,hgv];rfl);clear hgv
    go_upto_region 5 with(fail)
    clear zc Nh;have hO:=aa (fun(u:World) (h:Hid (Below w0.heap.size w0 u))=>And.intro (kC.out u h) (kPC.out u h));refine jq [] aD (fun hHeld=>?_);refine aP 0 1 2 3 ?_;refine aP 4 5 6 7 ?_;refine dh 8 fun K hK=>?_;go_simp;refine(Bc P Q G need Cs cs cn cc Ks ks kn kc hcn hkn hQ bO fO os n c _ hs m d i hn hm hi him hb1 hb2 h hh hl hb o ho hI hSo p Zh Zg U8 U7 _ (kV.out _ hHeld) (kD.out _ hHeld) (jb.out _ hHeld) (ja.out _ hHeld) (kO.out _ hHeld) (kH.out _ hHeld) (Mr.out _ hHeld) (Mq.out _ hHeld) true Vi).mono ?_;rintro e wA ⟨rfl,bN⟩;refine hK.out _ _ (bJ hHeld bN) (fun hHeld=>?_);clear hK K;refine aL 9 ?_;refine gM ?_;clear hO;have bG:=hHeld;clear hHeld;have zc:=kC.out _ bG;have Nh:=kPC.out _ bG;have Nf:=bG;clear zc Nh;go_wp2
    go_roundw
    case rel=>exact⟨k+1,by omega,by go_num,HN,Nf⟩
    case measure=>simp[intOf];omega
  ·
   have hke:k=o.np:=by omega
   have HAE:Hid (vI gf o.np=true):=aa (by rw[←hke];exact Co.out);clear hke;have zc:=kC.out _ aD;go_wp2;go_ret;exact⟨by rw[HAE.out];rfl,f_ ai aD⟩
theorem Aj {P Q m:Int} {kn:Nat} {E1 E2:Int} {ps:List aS} (h:(aN P Q E1&&aN P Q E2)=false):lT P Q m kn E1 E2 ps=0∧iU P Q m kn E1 E2 ps=2:=by
 have h1:iU P Q m kn E1 E2 ps=2:=by unfold iU;rw[if_neg (by rw[h];decide)]
 exact⟨by unfold lT;rw[h1];rfl,h1⟩
theorem K5 (P Q G:Int)(m:Nat)(Cs:Option Addr)(cs:List Int)(cn cc:Nat)(Ks:Option Addr)(ks:List Int)(kn kc:Nat)(hcn:Hid (cs.length=cn))(hkn:Hid (ks.length=kn))(E1 E2:Int)(A:Option Addr)(na ca:Nat)(C:Int)(Z:Option Addr)(nz cz:Nat)(L:Option Addr)(ps:List aS)(n c:Nat)(hn:Hid (ps.length=n))(hnb:n≤100)(hlr:Hid (∀k,k<n→r64 (ps.getD k aC).ix))(hr:Hid (pQ P Q G (m:Int) cs ks=true))(hQ:Q<9223372036854775808)(w:World)(hv:Hid (Vars w))(hC:Hid (Sl w Cs cs))(hK:Hid (Sl w Ks ks))(hL:Hid (Pa w L ps)) :
  Calls Tryz.prog 84 #[gv P Q G,jY (m:Int) Cs cn cc Ks kn kc,CE E1 E2 A na ca C Z nz cz, .slice L n c] w (Rt w (.tuple #[.int .i64 (lT P Q (m:Int) kn E1 E2 ps), .int .i64 (iU P Q (m:Int) kn E1 E2 ps)])):=by
 cases m1:aN P Q E1 with
 | false=>
  obtain⟨h1,h2⟩:=Aj (P:=P) (Q:=Q) (m:=(m:Int)) (kn:=kn) (E1:=E1) (E2:=E2) (ps:=ps) (by rw[m1];rfl);rw[h1,h2];exact abd P Q G m Cs cs cn cc Ks ks kn kc hcn hkn E1 E2 A na ca C Z nz cz L ps n c hn hnb hlr hr (aa m1) hQ w hv hC hK hL
 | true=>
  cases m2:aN P Q E2 with
  | false=>
   obtain⟨h1,h2⟩:=Aj (P:=P) (Q:=Q) (m:=(m:Int)) (kn:=kn) (E1:=E1) (E2:=E2) (ps:=ps) (by rw[m1,m2];rfl);rw[h1,h2];exact abb P Q G m Cs cs cn cc Ks ks kn kc hcn hkn E1 E2 A na ca C Z nz cz L ps n c hn hnb hlr hr (aa m1) (aa m2) hQ w hv hC hK hL
  | true=>exact aba P Q G m Cs cs cn cc Ks ks kn kc hcn hkn E1 E2 A na ca C Z nz cz L ps n c hn hnb hlr hr (aa m1) (aa m2) hQ w hv hC hK hL
theorem F9 (P Q G:Int)(m:Nat)(Cs:Option Addr)(cs:List Int)(cn cc:Nat)(Ks:Option Addr)(ks:List Int)(kn kc:Nat)(hcn:Hid (cs.length=cn))(hkn:Hid (ks.length=kn))(E1 E2:Int)(A:Option Addr)(na ca:Nat)(C:Int)(Z:Option Addr)(nz cz:Nat)(L:Option Addr)(ps:List aS)(n c:Nat)(hn:Hid (ps.length=n))(hnb:n≤100)(hlr:Hid (∀k,k<n→r64 (ps.getD k aC).ix))(hr:Hid (pQ P Q G (m:Int) cs ks=true))(w:World)(hL:Hid (Pa w L ps)) :
  Calls Tryz.prog 87 #[gv P Q G,jY (m:Int) Cs cn cc Ks kn kc,CE E1 E2 A na ca C Z nz cz, .slice L n c] w (Rt w (.tuple #[.int .i64 (lT P Q (m:Int) kn E1 E2 ps), .int .i64 (iU P Q (m:Int) kn E1 E2 ps)])):=by
 obtain⟨kz,n1,n2,n3,n4,n5,n6⟩:=lu hr.out hcn.out hkn.out
 cases m1:aN P Q E1 with
 | false=>
  obtain⟨h1,h2⟩:=Aj (P:=P) (Q:=Q) (m:=(m:Int)) (kn:=kn) (E1:=E1) (E2:=E2) (ps:=ps) (by rw[m1];rfl);rw[h1,h2];exact V6 P Q G m Cs cn cc Ks kn kc kz n2 n3 n4 n5 E1 E2 A na ca C Z nz cz L ps n c hn hnb hlr (aa m1) w hL
 | true=>
  cases m2:aN P Q E2 with
  | false=>
   obtain⟨h1,h2⟩:=Aj (P:=P) (Q:=Q) (m:=(m:Int)) (kn:=kn) (E1:=E1) (E2:=E2) (ps:=ps) (by rw[m1,m2];rfl);rw[h1,h2];exact V5 P Q G m Cs cn cc Ks kn kc kz n2 n3 n4 n5 E1 E2 A na ca C Z nz cz L ps n c hn hnb hlr (aa m1) (aa m2) w hL
  | true=>exact V4 P Q G m Cs cn cc Ks kn kc kz n2 n3 n4 n5 E1 E2 A na ca C Z nz cz L ps n c hn hnb hlr (aa m1) (aa m2) w hL
theorem qf {os:List aG} {hs:List (List Int)} (h:gJ os hs=true) {k:Nat} (hk:k<os.length):k≤hs.length:=by
 obtain⟨h1,h2,_⟩:=fJ h
 by_cases e:k<hs.length
 · omega
 ·
  by_cases hz:k=0
  · omega
  ·
   have hkey:(bz os (k-1)).key≠0:=fun e0=>by
    have:=(fD (iI h1 (k-1) (by omega))).2.2.1 e0
    omega
   have:=(KI h (i:=k-1) (by omega) hkey).1
   omega
theorem kg (w:World)(A B C D:Obj):((((w.alloc A).alloc B).alloc C).alloc D).heap[w.heap.size+3]? = some D:=by
 have e:w.heap.size+3=(((w.alloc A).alloc B).alloc C).heap.size:=by simp
 rw[e];exact heap_alloc_new _ _
theorem ZG (P Q G:Int)(nd:Int)(Cs:Option Addr)(cs:List Int)(cn cc:Nat)(Ks:Option Addr)(ks:List Int)(kn kc:Nat)(hcn:Hid (cs.length=cn))(hkn:Hid (ks.length=kn))(hQ:Q<9223372036854775808)(O:Option Addr)(os:List aG)(n c:Nat)(K:Option Addr)(hs:List (List Int))(m d:Nat)(hn:Hid (os.length=n))(hm:Hid (hs.length=m))(hI:Hid (∀k,k<n→dD (bz os k)))(hb1:n≤1000000)(hb2:m≤1000000)(i:Int)(er:Int)(wT:Hid (Iw P Q G (nd:Int) cs ks os hs n i=er))(hne:er≠0)(w:World)(hv:Hid (Vars w))(hd0:Hid (bB w))(hC:Hid (Sl w Cs cs))(hK:Hid (Sl w Ks ks))(hO:Hid (Os w O os))(hH:Hid (Hs w K hs)) :
  Calls Tryz.prog 29 #[gv P Q G,jY (nd:Int) Cs cn cc Ks kn kc,iA O n c K m d, .int .i64 i] w (uz [] 0 [] 0 [.int .i64 0, .int .i64 er] w):=by
 obtain⟨w0,HW,ai,kC⟩:=Ch (bg P Q G) fq (.cells #[.int .i64 (nd:Int), .slice Cs cn cc, .slice Ks kn kc] 26) fq (jC O n c K m d) sG (.cells #[.slice none 0 0, .slice none 0 0] 52) sZ w;have kO:=fo (fun u=>Os u O os) ai hO (·.below);have kH:=fo (fun u=>Hs u K hs) ai hH (·.below);have kD:=oF ai hd0;have jb:=mkS ai hC;have ja:=mkS ai hK;have kV:=mkV ai hv;have nZ:=Cj (w0:=w0) (o:= .cells #[.slice none 0 0, .slice none 0 0] 52) (w.heap.size+3) (by rw[←HW.out];exact kg _ _ _ _ _);have ah:=bI w0;clear hC hK hd0 hv hO hH;go_in
 go_upto_region 1 with(fail)
 rw[HW.out];have zc:=kC.out _ ah
 go_wp2_with fail
 clear zc;refine fe kC ah (qM P Q G (nd:Int) Cs cs cn cc Ks ks kn kc hcn hkn hQ O os n c K hs m d hn hm hI hb1 hb2 i er wT _ (kV.out _ ah) (kD.out _ ah) (jb.out _ ah) (ja.out _ ah) (kO.out _ ah) (kH.out _ ah)) fun w1 ax zc=>?_;have e1:(er != 0)=true:=by simpa using hne
 have jU:=nZ.out _ ax;have bT:=aj (ag ai.out ax.out) (cs:=#[.slice none 0 0, .slice none 0 0]) (Nat.le_add_right w.heap.size 3)
 go_wp2_with ((with_reducible show wpList _ _ _ (⟨none,_,_,_,_,_⟩::_) _ _);refine wpList_store_row rfl 52 _ _ rfl (w.heap.size+3) #[.slice none 0 0, .slice none 0 0] rfl rfl _ _ jU.out (by kernel_rfl) rfl (by simp[Value.oneCell']) ?_)
 have hrw:=setRow_heap _ _ _ #[.slice none 0 0, .slice none 0 0] _ _ jU.out;exact bodyPost_ret (v:= .tuple #[iA none 0 0 none 0 0, .int .i64 0, .int .i64 er]) (bH (p:=8) (q:=9) (r:=10) (ty:=52) rfl _ _ ⟨w.heap.size+3,0,none⟩ _ _ _ rfl rfl rfl (run_loadVar_row _ _ _ _ _ _ _ hrw Tryz.underlying52 rfl (by kernel_rfl))) rfl (jB rfl bT)
theorem ZH (P Q G:Int)(nd:Nat)(Cs:Option Addr)(cs:List Int)(cn cc:Nat)(Ks:Option Addr)(ks:List Int)(kn kc:Nat)(hcn:Hid (cs.length=cn))(hkn:Hid (ks.length=kn))(hQ:Q<9223372036854775808)(O:Option Addr)(os:List aG)(n c:Nat)(K:Option Addr)(hs:List (List Int))(m d:Nat)(hn:Hid (os.length=n))(hm:Hid (hs.length=m))(hI:Hid (∀k,k<n→dD (bz os k)))(hb1:n≤1000000)(hb2:m≤1000000)(i:Nat)(hi:i<n)(HT:Kp (gJ os hs=true))(hr:Hid (pQ P Q G (nd:Int) cs ks=true))(wT:Hid (Iw P Q G (nd:Int) cs ks os hs n (i:Int)=0))(Ah:(bz os i).np<nd)(w:World)(hv:Hid (Vars w))(hd0:Hid (bB w))(hC:Hid (Sl w Cs cs))(hK:Hid (Sl w Ks ks))(hO:Hid (Os w O os))(hH:Hid (Hs w K hs)) :
  Calls Tryz.prog 29 #[gv P Q G,jY (nd:Int) Cs cn cc Ks kn kc,iA O n c K m d, .int .i64 (i:Int)] w (uz [] 0 [] 0 [.int .i64 0, .int .i64 16] w):=by
 obtain⟨w0,HW,ai,kC⟩:=Ch (bg P Q G) fq (.cells #[.int .i64 (nd:Int), .slice Cs cn cc, .slice Ks kn kc] 26) fq (jC O n c K m d) sG (.cells #[.slice none 0 0, .slice none 0 0] 52) sZ w;have kO:=fo (fun u=>Os u O os) ai hO (·.below);have kH:=fo (fun u=>Hs u K hs) ai hH (·.below);have kD:=oF ai hd0;have jb:=mkS ai hC;have ja:=mkS ai hK;have kV:=mkV ai hv;have nZ:=Cj (w0:=w0) (o:= .cells #[.slice none 0 0, .slice none 0 0] 52) (w.heap.size+3) (by rw[←HW.out];exact kg _ _ _ _ _);have ah:=bI w0;clear hC hK hd0 hv hO hH;obtain⟨bO,fO,BB,bF,hok⟩:=((kO.out _ ah)).out i (by rw[hn.out];exact hi);subst BB;obtain⟨o,hoe⟩:∃x,bz os i=x:=⟨_,rfl⟩;rw[show os.getD i dN=o from hoe]at bF hok;have jV:=aa hoe;have uB:=aa bF;have jy:=aa hok;clear bF hok hoe;have yX:Hid (dD o):=aa (by have:=hI.out i hi;rw[jV.out]at this;exact this);have hSo:fE o:=by have h9:=(fD (iI (fJ HT.1).1 i (by rw[hn.out];exact hi))).1;rw[jV.out]at h9;exact jM h9 jy.out
 have him:i≤m:=by rw[←hm.out];exact qf HT.1 (by rw[hn.out];exact hi)
 have J9:Hid ((eH hs i).length=32):=aa (by rw[jT HT.1 (by rw[hm.out];exact him)];exact lN _ _);have yZ:Hid (aF (eH hs i)=true):=aa (by rw[jT HT.1 (by rw[hm.out];exact him)];exact uf _ _);have qi:Hid (o.ps.length=o.np):=aa jy.out.2.2.1.1;have Jq:o.np≤8:=by rw[←qi.out];exact hSo.n
 have QN:Hid (∀j,j<o.np→r64 (o.ps.getD j aC).ix):=aa (fun j hj=>(yX.out.2.2.2.2.2.2.2 _ (iL (by rw[qi.out];exact hj))).1);have OV:=aa (show ∀u:World,Hid (Below w0.heap.size w0 u)→Hid (Pa u o.L o.ps)from fun u h=>aa (dM.below jy.out h.out).2.2.2.2.2);have jr:=aa (show ∀u:World,Hid (Below w0.heap.size w0 u)→u.cell? ⟨bO,fO+i*9+2,none⟩=some (.int .i64 o.E1)∧u.cell? ⟨bO,fO+i*9+3,none⟩=some (.int .i64 o.E2)∧u.cell? ⟨bO,fO+i*9+4,none⟩=some (.slice o.A o.na o.ca)∧u.cell? ⟨bO,fO+i*9+5,none⟩=some (.int .i64 o.C)∧u.cell? ⟨bO,fO+i*9+6,none⟩=some (.slice o.Z o.nz o.cz)∧u.cell? ⟨bO,fO+i*9+7,none⟩=some (.slice o.L o.np o.cp)∧u.cell? ⟨bO,fO+i*9+8,none⟩=some (.int .i64 o.key)from fun u h9=>by have h8:=uB.out.below h9.out;exact h8.2.2);rw[jV.out]at Ah;have Xv:¬nd≤o.np:=by omega
 go_in
 go_upto_region 1 with(fail)
 rw[HW.out];have zc:=kC.out _ ah;have dB:=jr.out _ ah
 go_wp2_with fail
 clear zc dB;refine JN ah (qM P Q G (nd:Int) Cs cs cn cc Ks ks kn kc hcn hkn hQ _ os n c K hs m d hn hm hI hb1 hb2 (i:Int) 0 wT _ (kV.out _ ah) (kD.out _ ah) (jb.out _ ah) (ja.out _ ah) (kO.out _ ah) (kH.out _ ah)) fun w1 ax=>?_;have zc:=kC.out _ ax;have dB:=jr.out _ ax;have gI:=bI w1;obtain⟨j0,j1,j2,j3,j4,j5,j6,j7,j8⟩:=uB.out.below ax.out;obtain⟨w2,hw,lW,yV,-,kE⟩:=pO (l6 o) zq w1;have az:=iW ax lW;have qj:=iW gI lW;have aM:=bI w2;clear lW;have pK:=kC.out _ az;have Az:=jr.out _ az;have AA:=kE.out _ aM
 go_upto_region 5 with(fail)
 clear zc dB pK Az AA hw;have zc:=kC.out _ az;have dB:=jr.out _ az;have q9:=kE.out _ aM;clear j0 j1 j2 j3 j4 j5 j6 j7 j8;have zc:=kC.out _ az;have dB:=jr.out _ az;have q9:=kE.out _ aM;have jU:=nZ.out _ az;have bT:=aj (ag ai.out az.out) (cs:=#[.slice none 0 0, .slice none 0 0]) (Nat.le_add_right w.heap.size 3)
 go_wp2_with ((with_reducible show wpList _ _ _ (⟨none,_,_,_,_,_⟩::_) _ _);refine wpList_store_row rfl 52 _ _ rfl (w.heap.size+3) #[.slice none 0 0, .slice none 0 0] rfl rfl _ _ jU.out (by kernel_rfl) rfl (by simp[Value.oneCell']) ?_)
 have hrw:=setRow_heap _ _ _ #[.slice none 0 0, .slice none 0 0] _ _ jU.out;exact bodyPost_ret (v:= .tuple #[iA none 0 0 none 0 0, .int .i64 0, .int .i64 16]) (bH (p:=8) (q:=9) (r:=10) (ty:=52) rfl _ _ ⟨w.heap.size+3,0,none⟩ _ _ _ rfl rfl rfl (run_loadVar_row _ _ _ _ _ _ _ hrw Tryz.underlying52 rfl (by kernel_rfl))) rfl (jB rfl bT)
theorem ZE (P Q G:Int)(nd:Nat)(Cs:Option Addr)(cs:List Int)(cn cc:Nat)(Ks:Option Addr)(ks:List Int)(kn kc:Nat)(hcn:Hid (cs.length=cn))(hkn:Hid (ks.length=kn))(hQ:Q<9223372036854775808)(O:Option Addr)(os:List aG)(n c:Nat)(K:Option Addr)(hs:List (List Int))(m d:Nat)(hn:Hid (os.length=n))(hm:Hid (hs.length=m))(hI:Hid (∀k,k<n→dD (bz os k)))(hb1:n≤1000000)(hb2:m≤1000000)(i:Nat)(hi:i<n)(HT:Kp (gJ os hs=true))(hr:Hid (pQ P Q G (nd:Int) cs ks=true))(wT:Hid (Iw P Q G (nd:Int) cs ks os hs n (i:Int)=0))(Ah:¬(bz os i).np<nd)(Co:Hid (vI (fun k=>zC P Q G (nd:Int) cs ks (eH hs i) (bz os i) ((bz os i).ps.getD k aC)) (bz os i).np=false))(w:World)(hv:Hid (Vars w))(hd0:Hid (bB w))(hC:Hid (Sl w Cs cs))(hK:Hid (Sl w Ks ks))(hO:Hid (Os w O os))(hH:Hid (Hs w K hs)) :
  Calls Tryz.prog 29 #[gv P Q G,jY (nd:Int) Cs cn cc Ks kn kc,iA O n c K m d, .int .i64 (i:Int)] w (uz [] 0 [] 0 [.int .i64 0, .int .i64 11] w):=by
 obtain⟨w0,HW,ai,kC⟩:=Ch (bg P Q G) fq (.cells #[.int .i64 (nd:Int), .slice Cs cn cc, .slice Ks kn kc] 26) fq (jC O n c K m d) sG (.cells #[.slice none 0 0, .slice none 0 0] 52) sZ w;have kO:=fo (fun u=>Os u O os) ai hO (·.below);have kH:=fo (fun u=>Hs u K hs) ai hH (·.below);have kD:=oF ai hd0;have jb:=mkS ai hC;have ja:=mkS ai hK;have kV:=mkV ai hv;have nZ:=Cj (w0:=w0) (o:= .cells #[.slice none 0 0, .slice none 0 0] 52) (w.heap.size+3) (by rw[←HW.out];exact kg _ _ _ _ _);have ah:=bI w0;clear hC hK hd0 hv hO hH;obtain⟨bO,fO,BB,bF,hok⟩:=((kO.out _ ah)).out i (by rw[hn.out];exact hi);subst BB;obtain⟨o,hoe⟩:∃x,bz os i=x:=⟨_,rfl⟩;rw[show os.getD i dN=o from hoe]at bF hok;have jV:=aa hoe;have uB:=aa bF;have jy:=aa hok;clear bF hok hoe;have yX:Hid (dD o):=aa (by have:=hI.out i hi;rw[jV.out]at this;exact this);have hSo:fE o:=by have h9:=(fD (iI (fJ HT.1).1 i (by rw[hn.out];exact hi))).1;rw[jV.out]at h9;exact jM h9 jy.out
 have him:i≤m:=by rw[←hm.out];exact qf HT.1 (by rw[hn.out];exact hi)
 have J9:Hid ((eH hs i).length=32):=aa (by rw[jT HT.1 (by rw[hm.out];exact him)];exact lN _ _);have yZ:Hid (aF (eH hs i)=true):=aa (by rw[jT HT.1 (by rw[hm.out];exact him)];exact uf _ _);have qi:Hid (o.ps.length=o.np):=aa jy.out.2.2.1.1;have Jq:o.np≤8:=by rw[←qi.out];exact hSo.n
 have QN:Hid (∀j,j<o.np→r64 (o.ps.getD j aC).ix):=aa (fun j hj=>(yX.out.2.2.2.2.2.2.2 _ (iL (by rw[qi.out];exact hj))).1);have OV:=aa (show ∀u:World,Hid (Below w0.heap.size w0 u)→Hid (Pa u o.L o.ps)from fun u h=>aa (dM.below jy.out h.out).2.2.2.2.2);have jr:=aa (show ∀u:World,Hid (Below w0.heap.size w0 u)→u.cell? ⟨bO,fO+i*9+2,none⟩=some (.int .i64 o.E1)∧u.cell? ⟨bO,fO+i*9+3,none⟩=some (.int .i64 o.E2)∧u.cell? ⟨bO,fO+i*9+4,none⟩=some (.slice o.A o.na o.ca)∧u.cell? ⟨bO,fO+i*9+5,none⟩=some (.int .i64 o.C)∧u.cell? ⟨bO,fO+i*9+6,none⟩=some (.slice o.Z o.nz o.cz)∧u.cell? ⟨bO,fO+i*9+7,none⟩=some (.slice o.L o.np o.cp)∧u.cell? ⟨bO,fO+i*9+8,none⟩=some (.int .i64 o.key)from fun u h9=>by have h8:=uB.out.below h9.out;exact h8.2.2);rw[jV.out]at Ah;have Xv:nd≤o.np:=by omega
 have Cc:Hid (vI (fun k=>zC P Q G (nd:Int) cs ks (eH hs i) o (o.ps.getD k aC)) o.np=false):=aa (by have h9:=Co.out;rw[jV.out]at h9;exact h9);go_in
 go_upto_region 1 with(fail)
 rw[HW.out];have zc:=kC.out _ ah;have dB:=jr.out _ ah
 go_wp2_with fail
 clear zc dB;refine JN ah (qM P Q G (nd:Int) Cs cs cn cc Ks ks kn kc hcn hkn hQ _ os n c K hs m d hn hm hI hb1 hb2 (i:Int) 0 wT _ (kV.out _ ah) (kD.out _ ah) (jb.out _ ah) (ja.out _ ah) (kO.out _ ah) (kH.out _ ah)) fun w1 ax=>?_;have zc:=kC.out _ ax;have dB:=jr.out _ ax;have gI:=bI w1;obtain⟨j0,j1,j2,j3,j4,j5,j6,j7,j8⟩:=uB.out.below ax.out;obtain⟨w2,hw,lW,yV,-,kE⟩:=pO (l6 o) zq w1;have az:=iW ax lW;have qj:=iW gI lW;have aM:=bI w2;clear lW;have pK:=kC.out _ az;have Az:=jr.out _ az;have AA:=kE.out _ aM
 go_upto_region 5 with(fail)
 clear zc dB pK Az AA hw;have zc:=kC.out _ az;have dB:=jr.out _ az;have q9:=kE.out _ aM;clear j0 j1 j2 j3 j4 j5 j6 j7 j8;have zc:=kC.out _ az;have dB:=jr.out _ az;have q9:=kE.out _ aM
 go_wp2_with fail
 clear zc dB q9;refine um az qj aM (AV P Q G (nd:Int) Cs cs cn cc Ks ks kn kc hcn hkn hQ bO fO os n c K hs m d i hn hm hi him hb1 hb2 (eH hs i) (aa rfl) J9 yZ o jV yX hSo _ (kV.out _ az) (kD.out _ az) (jb.out _ az) (ja.out _ az) (kO.out _ az) (kH.out _ az)) fun w3 aW sD eG=>?_;have zc:=kC.out _ aW;have dB:=jr.out _ aW;have q9:=kE.out _ eG;rw[Cc.out];have jU:=nZ.out _ aW;have bT:=aj (ag ai.out aW.out) (cs:=#[.slice none 0 0, .slice none 0 0]) (Nat.le_add_right w.heap.size 3)
 go_wp2_with ((with_reducible show wpList _ _ _ (⟨none,_,_,_,_,_⟩::_) _ _);refine wpList_store_row rfl 52 _ _ rfl (w.heap.size+3) #[.slice none 0 0, .slice none 0 0] rfl rfl _ _ jU.out (by kernel_rfl) rfl (by simp[Value.oneCell']) ?_)
 have hrw:=setRow_heap _ _ _ #[.slice none 0 0, .slice none 0 0] _ _ jU.out;exact bodyPost_ret (v:= .tuple #[iA none 0 0 none 0 0, .int .i64 0, .int .i64 11]) (bH (p:=8) (q:=9) (r:=10) (ty:=52) rfl _ _ ⟨w.heap.size+3,0,none⟩ _ _ _ rfl rfl rfl (run_loadVar_row _ _ _ _ _ _ _ hrw Tryz.underlying52 rfl (by kernel_rfl))) rfl (jB rfl bT)
theorem ZI (P Q G:Int)(nd:Nat)(Cs:Option Addr)(cs:List Int)(cn cc:Nat)(Ks:Option Addr)(ks:List Int)(kn kc:Nat)(hcn:Hid (cs.length=cn))(hkn:Hid (ks.length=kn))(hQ:Q<9223372036854775808)(O:Option Addr)(os:List aG)(n c:Nat)(K:Option Addr)(hs:List (List Int))(m d:Nat)(hn:Hid (os.length=n))(hm:Hid (hs.length=m))(hI:Hid (∀k,k<n→dD (bz os k)))(hb1:n≤1000000)(hb2:m≤1000000)(i:Nat)(hi:i<n)(HT:Kp (gJ os hs=true))(hr:Hid (pQ P Q G (nd:Int) cs ks=true))(wT:Hid (Iw P Q G (nd:Int) cs ks os hs n (i:Int)=0))(Ah:¬(bz os i).np<nd)(Co:Hid (vI (fun k=>zC P Q G (nd:Int) cs ks (eH hs i) (bz os i) ((bz os i).ps.getD k aC)) (bz os i).np=true))(cV cE:Int)(zR:Hid (iU P Q (nd:Int) kn (bz os i).E1 (bz os i).E2 (bz os i).ps=cE))(zQ:Hid (lT P Q (nd:Int) kn (bz os i).E1 (bz os i).E2 (bz os i).ps=cV))(W_:cE≠0)(w:World)(hv:Hid (Vars w))(hd0:Hid (bB w))(hC:Hid (Sl w Cs cs))(hK:Hid (Sl w Ks ks))(hO:Hid (Os w O os))(hH:Hid (Hs w K hs)) :
  Calls Tryz.prog 29 #[gv P Q G,jY (nd:Int) Cs cn cc Ks kn kc,iA O n c K m d, .int .i64 (i:Int)] w (uz [] 0 [] 0 [.int .i64 0, .int .i64 cE] w):=by
 obtain⟨w0,HW,ai,kC⟩:=Ch (bg P Q G) fq (.cells #[.int .i64 (nd:Int), .slice Cs cn cc, .slice Ks kn kc] 26) fq (jC O n c K m d) sG (.cells #[.slice none 0 0, .slice none 0 0] 52) sZ w;have kO:=fo (fun u=>Os u O os) ai hO (·.below);have kH:=fo (fun u=>Hs u K hs) ai hH (·.below);have kD:=oF ai hd0;have jb:=mkS ai hC;have ja:=mkS ai hK;have kV:=mkV ai hv;have nZ:=Cj (w0:=w0) (o:= .cells #[.slice none 0 0, .slice none 0 0] 52) (w.heap.size+3) (by rw[←HW.out];exact kg _ _ _ _ _);have ah:=bI w0;clear hC hK hd0 hv hO hH;obtain⟨bO,fO,BB,bF,hok⟩:=((kO.out _ ah)).out i (by rw[hn.out];exact hi);subst BB;obtain⟨o,hoe⟩:∃x,bz os i=x:=⟨_,rfl⟩;rw[show os.getD i dN=o from hoe]at bF hok;have jV:=aa hoe;have uB:=aa bF;have jy:=aa hok;clear bF hok hoe;have yX:Hid (dD o):=aa (by have:=hI.out i hi;rw[jV.out]at this;exact this);have hSo:fE o:=by have h9:=(fD (iI (fJ HT.1).1 i (by rw[hn.out];exact hi))).1;rw[jV.out]at h9;exact jM h9 jy.out
 have him:i≤m:=by rw[←hm.out];exact qf HT.1 (by rw[hn.out];exact hi)
 have J9:Hid ((eH hs i).length=32):=aa (by rw[jT HT.1 (by rw[hm.out];exact him)];exact lN _ _);have yZ:Hid (aF (eH hs i)=true):=aa (by rw[jT HT.1 (by rw[hm.out];exact him)];exact uf _ _);have qi:Hid (o.ps.length=o.np):=aa jy.out.2.2.1.1;have Jq:o.np≤8:=by rw[←qi.out];exact hSo.n
 have QN:Hid (∀j,j<o.np→r64 (o.ps.getD j aC).ix):=aa (fun j hj=>(yX.out.2.2.2.2.2.2.2 _ (iL (by rw[qi.out];exact hj))).1);have OV:=aa (show ∀u:World,Hid (Below w0.heap.size w0 u)→Hid (Pa u o.L o.ps)from fun u h=>aa (dM.below jy.out h.out).2.2.2.2.2);have jr:=aa (show ∀u:World,Hid (Below w0.heap.size w0 u)→u.cell? ⟨bO,fO+i*9+2,none⟩=some (.int .i64 o.E1)∧u.cell? ⟨bO,fO+i*9+3,none⟩=some (.int .i64 o.E2)∧u.cell? ⟨bO,fO+i*9+4,none⟩=some (.slice o.A o.na o.ca)∧u.cell? ⟨bO,fO+i*9+5,none⟩=some (.int .i64 o.C)∧u.cell? ⟨bO,fO+i*9+6,none⟩=some (.slice o.Z o.nz o.cz)∧u.cell? ⟨bO,fO+i*9+7,none⟩=some (.slice o.L o.np o.cp)∧u.cell? ⟨bO,fO+i*9+8,none⟩=some (.int .i64 o.key)from fun u h9=>by have h8:=uB.out.below h9.out;exact h8.2.2);rw[jV.out]at Ah;have Xv:nd≤o.np:=by omega
 have Cc:Hid (vI (fun k=>zC P Q G (nd:Int) cs ks (eH hs i) o (o.ps.getD k aC)) o.np=true):=aa (by have h9:=Co.out;rw[jV.out]at h9;exact h9);have YO:Hid (iU P Q (nd:Int) kn o.E1 o.E2 o.ps=cE):=aa (by have h9:=zR.out;rw[jV.out]at h9;exact h9);have Ri:Hid (lT P Q (nd:Int) kn o.E1 o.E2 o.ps=cV):=aa (by have h9:=zQ.out;rw[jV.out]at h9;exact h9);have e6:(cE != 0)=true:=by simpa using W_
 go_in
 go_upto_region 1 with(fail)
 rw[HW.out];have zc:=kC.out _ ah;have dB:=jr.out _ ah
 go_wp2_with fail
 clear zc dB;refine JN ah (qM P Q G (nd:Int) Cs cs cn cc Ks ks kn kc hcn hkn hQ _ os n c K hs m d hn hm hI hb1 hb2 (i:Int) 0 wT _ (kV.out _ ah) (kD.out _ ah) (jb.out _ ah) (ja.out _ ah) (kO.out _ ah) (kH.out _ ah)) fun w1 ax=>?_;have zc:=kC.out _ ax;have dB:=jr.out _ ax;have gI:=bI w1;obtain⟨j0,j1,j2,j3,j4,j5,j6,j7,j8⟩:=uB.out.below ax.out;obtain⟨w2,hw,lW,yV,-,kE⟩:=pO (l6 o) zq w1;have az:=iW ax lW;have qj:=iW gI lW;have aM:=bI w2;clear lW;have pK:=kC.out _ az;have Az:=jr.out _ az;have AA:=kE.out _ aM
 go_upto_region 5 with(fail)
 clear zc dB pK Az AA hw;have zc:=kC.out _ az;have dB:=jr.out _ az;have q9:=kE.out _ aM;clear j0 j1 j2 j3 j4 j5 j6 j7 j8;have zc:=kC.out _ az;have dB:=jr.out _ az;have q9:=kE.out _ aM
 go_wp2_with fail
 clear zc dB q9;refine um az qj aM (AV P Q G (nd:Int) Cs cs cn cc Ks ks kn kc hcn hkn hQ bO fO os n c K hs m d i hn hm hi him hb1 hb2 (eH hs i) (aa rfl) J9 yZ o jV yX hSo _ (kV.out _ az) (kD.out _ az) (jb.out _ az) (ja.out _ az) (kO.out _ az) (kH.out _ az)) fun w3 aW sD eG=>?_;have zc:=kC.out _ aW;have dB:=jr.out _ aW;have q9:=kE.out _ eG;rw[Cc.out]
 go_wp2_with fail
 clear zc dB q9;refine um aW sD eG (K5 P Q G nd Cs cs cn cc Ks ks kn kc hcn hkn o.E1 o.E2 o.A o.na o.ca o.C o.Z o.nz o.cz o.L o.ps o.np o.cp qi (by omega) QN hr hQ _ (kV.out _ aW) (jb.out _ aW) (ja.out _ aW) (OV.out _ aW)) fun w4 bE Lr jm=>?_;have zc:=kC.out _ bE;have dB:=jr.out _ bE;have q9:=kE.out _ jm;rw[YO.out,Ri.out];have jU:=nZ.out _ bE;have bT:=aj (ag ai.out bE.out) (cs:=#[.slice none 0 0, .slice none 0 0]) (Nat.le_add_right w.heap.size 3)
 go_wp2_with ((with_reducible show wpList _ _ _ (⟨none,_,_,_,_,_⟩::_) _ _);refine wpList_store_row rfl 52 _ _ rfl (w.heap.size+3) #[.slice none 0 0, .slice none 0 0] rfl rfl _ _ jU.out (by kernel_rfl) rfl (by simp[Value.oneCell']) ?_)
 have hrw:=setRow_heap _ _ _ #[.slice none 0 0, .slice none 0 0] _ _ jU.out;exact bodyPost_ret (v:= .tuple #[iA none 0 0 none 0 0, .int .i64 0, .int .i64 cE]) (bH (p:=8) (q:=9) (r:=10) (ty:=52) rfl _ _ ⟨w.heap.size+3,0,none⟩ _ _ _ rfl rfl rfl (run_loadVar_row _ _ _ _ _ _ _ hrw Tryz.underlying52 rfl (by kernel_rfl))) rfl (jB rfl bT)
theorem ZR (P Q G:Int)(nd:Int)(Cs:Option Addr)(cs:List Int)(cn cc:Nat)(Ks:Option Addr)(ks:List Int)(kn kc:Nat)(hcn:Hid (cs.length=cn))(hkn:Hid (ks.length=kn))(hQ:Q<9223372036854775808)(O:Option Addr)(os:List aG)(n c:Nat)(K:Option Addr)(hs:List (List Int))(m d:Nat)(hn:Hid (os.length=n))(hm:Hid (hs.length=m))(hI:Hid (∀k,k<n→dD (bz os k)))(hb1:n≤1000000)(hb2:m≤1000000)(i:Int)(er:Int)(wT:Hid (Iw P Q G (nd:Int) cs ks os hs n i=er))(hne:er≠0)(w:World)(hv:Hid (Vars w))(hd0:Hid (bB w))(hC:Hid (Sl w Cs cs))(hK:Hid (Sl w Ks ks))(hO:Hid (Os w O os))(hH:Hid (Hs w K hs)) :
  Calls Tryz.prog 30 #[gv P Q G,jY (nd:Int) Cs cn cc Ks kn kc,iA O n c K m d, .int .i64 i] w (uz [] 0 [] 0 [.int .i64 0, .int .i64 er] w):=by
 obtain⟨w0,HW,ai,kC⟩:=Ch (bg P Q G) fq (.cells #[.int .i64 (nd:Int), .slice Cs cn cc, .slice Ks kn kc] 26) fq (jC O n c K m d) sG (.cells #[.slice none 0 0, .slice none 0 0] 52) sZ w;have kO:=fo (fun u=>Os u O os) ai hO (·.below);have kH:=fo (fun u=>Hs u K hs) ai hH (·.below);have kD:=oF ai hd0;have jb:=mkS ai hC;have ja:=mkS ai hK;have kV:=mkV ai hv;have nZ:=Cj (w0:=w0) (o:= .cells #[.slice none 0 0, .slice none 0 0] 52) (w.heap.size+3) (by rw[←HW.out];exact kg _ _ _ _ _);have ah:=bI w0;clear hC hK hd0 hv hO hH;go_in
 go_upto_region 1 with(fail)
 rw[HW.out];have zc:=kC.out _ ah
 go_wp2_with fail
 clear zc;refine fe kC ah (qO P Q G (nd:Int) Cs cs cn cc Ks ks kn kc hcn hkn hQ O os n c K hs m d hn hm hI hb1 hb2 i er wT _ (kV.out _ ah) (kD.out _ ah) (jb.out _ ah) (ja.out _ ah) (kO.out _ ah) (kH.out _ ah)) fun w1 ax zc=>?_;have e1:(er != 0)=true:=by simpa using hne
 have jU:=nZ.out _ ax;have bT:=aj (ag ai.out ax.out) (cs:=#[.slice none 0 0, .slice none 0 0]) (Nat.le_add_right w.heap.size 3)
 go_wp2_with ((with_reducible show wpList _ _ _ (⟨none,_,_,_,_,_⟩::_) _ _);refine wpList_store_row rfl 52 _ _ rfl (w.heap.size+3) #[.slice none 0 0, .slice none 0 0] rfl rfl _ _ jU.out (by kernel_rfl) rfl (by simp[Value.oneCell']) ?_)
 have hrw:=setRow_heap _ _ _ #[.slice none 0 0, .slice none 0 0] _ _ jU.out;exact bodyPost_ret (v:= .tuple #[iA none 0 0 none 0 0, .int .i64 0, .int .i64 er]) (bH (p:=8) (q:=9) (r:=10) (ty:=52) rfl _ _ ⟨w.heap.size+3,0,none⟩ _ _ _ rfl rfl rfl (run_loadVar_row _ _ _ _ _ _ _ hrw Tryz.underlying52 rfl (by kernel_rfl))) rfl (jB rfl bT)
theorem ZT (P Q G:Int)(nd:Nat)(Cs:Option Addr)(cs:List Int)(cn cc:Nat)(Ks:Option Addr)(ks:List Int)(kn kc:Nat)(hcn:Hid (cs.length=cn))(hkn:Hid (ks.length=kn))(hQ:Q<9223372036854775808)(O:Option Addr)(os:List aG)(n c:Nat)(K:Option Addr)(hs:List (List Int))(m d:Nat)(hn:Hid (os.length=n))(hm:Hid (hs.length=m))(hI:Hid (∀k,k<n→dD (bz os k)))(hb1:n≤1000000)(hb2:m≤1000000)(i:Nat)(hi:i<n)(HT:Kp (gJ os hs=true))(hr:Hid (pQ P Q G (nd:Int) cs ks=true))(wT:Hid (Iw P Q G (nd:Int) cs ks os hs n (i:Int)=0))(Ah:(bz os i).np<nd)(w:World)(hv:Hid (Vars w))(hd0:Hid (bB w))(hC:Hid (Sl w Cs cs))(hK:Hid (Sl w Ks ks))(hO:Hid (Os w O os))(hH:Hid (Hs w K hs)) :
  Calls Tryz.prog 30 #[gv P Q G,jY (nd:Int) Cs cn cc Ks kn kc,iA O n c K m d, .int .i64 (i:Int)] w (uz [] 0 [] 0 [.int .i64 0, .int .i64 16] w):=by
 obtain⟨w0,HW,ai,kC⟩:=Ch (bg P Q G) fq (.cells #[.int .i64 (nd:Int), .slice Cs cn cc, .slice Ks kn kc] 26) fq (jC O n c K m d) sG (.cells #[.slice none 0 0, .slice none 0 0] 52) sZ w;have kO:=fo (fun u=>Os u O os) ai hO (·.below);have kH:=fo (fun u=>Hs u K hs) ai hH (·.below);have kD:=oF ai hd0;have jb:=mkS ai hC;have ja:=mkS ai hK;have kV:=mkV ai hv;have nZ:=Cj (w0:=w0) (o:= .cells #[.slice none 0 0, .slice none 0 0] 52) (w.heap.size+3) (by rw[←HW.out];exact kg _ _ _ _ _);have ah:=bI w0;clear hC hK hd0 hv hO hH;obtain⟨bO,fO,BB,bF,hok⟩:=((kO.out _ ah)).out i (by rw[hn.out];exact hi);subst BB;obtain⟨o,hoe⟩:∃x,bz os i=x:=⟨_,rfl⟩;rw[show os.getD i dN=o from hoe]at bF hok;have jV:=aa hoe;have uB:=aa bF;have jy:=aa hok;clear bF hok hoe;have yX:Hid (dD o):=aa (by have:=hI.out i hi;rw[jV.out]at this;exact this);have hSo:fE o:=by have h9:=(fD (iI (fJ HT.1).1 i (by rw[hn.out];exact hi))).1;rw[jV.out]at h9;exact jM h9 jy.out
 have him:i≤m:=by rw[←hm.out];exact qf HT.1 (by rw[hn.out];exact hi)
 have J9:Hid ((eH hs i).length=32):=aa (by rw[jT HT.1 (by rw[hm.out];exact him)];exact lN _ _);have yZ:Hid (aF (eH hs i)=true):=aa (by rw[jT HT.1 (by rw[hm.out];exact him)];exact uf _ _);have qi:Hid (o.ps.length=o.np):=aa jy.out.2.2.1.1;have Jq:o.np≤8:=by rw[←qi.out];exact hSo.n
 have QN:Hid (∀j,j<o.np→r64 (o.ps.getD j aC).ix):=aa (fun j hj=>(yX.out.2.2.2.2.2.2.2 _ (iL (by rw[qi.out];exact hj))).1);have OV:=aa (show ∀u:World,Hid (Below w0.heap.size w0 u)→Hid (Pa u o.L o.ps)from fun u h=>aa (dM.below jy.out h.out).2.2.2.2.2);have jr:=aa (show ∀u:World,Hid (Below w0.heap.size w0 u)→u.cell? ⟨bO,fO+i*9+2,none⟩=some (.int .i64 o.E1)∧u.cell? ⟨bO,fO+i*9+3,none⟩=some (.int .i64 o.E2)∧u.cell? ⟨bO,fO+i*9+4,none⟩=some (.slice o.A o.na o.ca)∧u.cell? ⟨bO,fO+i*9+5,none⟩=some (.int .i64 o.C)∧u.cell? ⟨bO,fO+i*9+6,none⟩=some (.slice o.Z o.nz o.cz)∧u.cell? ⟨bO,fO+i*9+7,none⟩=some (.slice o.L o.np o.cp)∧u.cell? ⟨bO,fO+i*9+8,none⟩=some (.int .i64 o.key)from fun u h9=>by have h8:=uB.out.below h9.out;exact h8.2.2);rw[jV.out]at Ah;have Xv:¬nd≤o.np:=by omega
 go_in
 go_upto_region 1 with(fail)
 rw[HW.out];have zc:=kC.out _ ah;have dB:=jr.out _ ah
 go_wp2_with fail
 clear zc dB;refine JN ah (qO P Q G (nd:Int) Cs cs cn cc Ks ks kn kc hcn hkn hQ _ os n c K hs m d hn hm hI hb1 hb2 (i:Int) 0 wT _ (kV.out _ ah) (kD.out _ ah) (jb.out _ ah) (ja.out _ ah) (kO.out _ ah) (kH.out _ ah)) fun w1 ax=>?_;have zc:=kC.out _ ax;have dB:=jr.out _ ax
 go_upto_region 4 with(fail)
 clear zc dB;have hO:=aa (fun(u:World) (h:Hid (Below w0.heap.size w0 u))=>And.intro (kC.out u h) (jr.out u h));refine jq [] ax (fun hHeld=>?_);refine aP 0 1 2 3 ?_;refine aP 4 5 6 7 ?_;refine aL 8 ?_;refine aL 9 ?_;refine gM ?_;clear hO;have dF:=hHeld;clear hHeld;have zc:=kC.out _ dF;have dB:=jr.out _ dF;have jU:=nZ.out _ dF;have bT:=aj (ag ai.out dF.out) (cs:=#[.slice none 0 0, .slice none 0 0]) (Nat.le_add_right w.heap.size 3)
 go_wp2_with ((with_reducible show wpList _ _ _ (⟨none,_,_,_,_,_⟩::_) _ _);refine wpList_store_row rfl 52 _ _ rfl (w.heap.size+3) #[.slice none 0 0, .slice none 0 0] rfl rfl _ _ jU.out (by kernel_rfl) rfl (by simp[Value.oneCell']) ?_)
 have hrw:=setRow_heap _ _ _ #[.slice none 0 0, .slice none 0 0] _ _ jU.out;exact bodyPost_ret (v:= .tuple #[iA none 0 0 none 0 0, .int .i64 0, .int .i64 16]) (bH (p:=8) (q:=9) (r:=10) (ty:=52) rfl _ _ ⟨w.heap.size+3,0,none⟩ _ _ _ rfl rfl rfl (run_loadVar_row _ _ _ _ _ _ _ hrw Tryz.underlying52 rfl (by kernel_rfl))) rfl (jB rfl bT)
theorem ZP (P Q G:Int)(nd:Nat)(Cs:Option Addr)(cs:List Int)(cn cc:Nat)(Ks:Option Addr)(ks:List Int)(kn kc:Nat)(hcn:Hid (cs.length=cn))(hkn:Hid (ks.length=kn))(hQ:Q<9223372036854775808)(O:Option Addr)(os:List aG)(n c:Nat)(K:Option Addr)(hs:List (List Int))(m d:Nat)(hn:Hid (os.length=n))(hm:Hid (hs.length=m))(hI:Hid (∀k,k<n→dD (bz os k)))(hb1:n≤1000000)(hb2:m≤1000000)(i:Nat)(hi:i<n)(HT:Kp (gJ os hs=true))(hr:Hid (pQ P Q G (nd:Int) cs ks=true))(wT:Hid (Iw P Q G (nd:Int) cs ks os hs n (i:Int)=0))(Ah:¬(bz os i).np<nd)(Co:Hid (vI (fun k=>zC P Q G (nd:Int) cs ks (eH hs i) (bz os i) ((bz os i).ps.getD k aC)) (bz os i).np=false))(w:World)(hv:Hid (Vars w))(hd0:Hid (bB w))(hC:Hid (Sl w Cs cs))(hK:Hid (Sl w Ks ks))(hO:Hid (Os w O os))(hH:Hid (Hs w K hs)) :
  Calls Tryz.prog 30 #[gv P Q G,jY (nd:Int) Cs cn cc Ks kn kc,iA O n c K m d, .int .i64 (i:Int)] w (uz [] 0 [] 0 [.int .i64 0, .int .i64 11] w):=by
 obtain⟨w0,HW,ai,kC⟩:=Ch (bg P Q G) fq (.cells #[.int .i64 (nd:Int), .slice Cs cn cc, .slice Ks kn kc] 26) fq (jC O n c K m d) sG (.cells #[.slice none 0 0, .slice none 0 0] 52) sZ w;have kO:=fo (fun u=>Os u O os) ai hO (·.below);have kH:=fo (fun u=>Hs u K hs) ai hH (·.below);have kD:=oF ai hd0;have jb:=mkS ai hC;have ja:=mkS ai hK;have kV:=mkV ai hv;have nZ:=Cj (w0:=w0) (o:= .cells #[.slice none 0 0, .slice none 0 0] 52) (w.heap.size+3) (by rw[←HW.out];exact kg _ _ _ _ _);have ah:=bI w0;clear hC hK hd0 hv hO hH;obtain⟨bO,fO,BB,bF,hok⟩:=((kO.out _ ah)).out i (by rw[hn.out];exact hi);subst BB;obtain⟨o,hoe⟩:∃x,bz os i=x:=⟨_,rfl⟩;rw[show os.getD i dN=o from hoe]at bF hok;have jV:=aa hoe;have uB:=aa bF;have jy:=aa hok;clear bF hok hoe;have yX:Hid (dD o):=aa (by have:=hI.out i hi;rw[jV.out]at this;exact this);have hSo:fE o:=by have h9:=(fD (iI (fJ HT.1).1 i (by rw[hn.out];exact hi))).1;rw[jV.out]at h9;exact jM h9 jy.out
 have him:i≤m:=by rw[←hm.out];exact qf HT.1 (by rw[hn.out];exact hi)
 have J9:Hid ((eH hs i).length=32):=aa (by rw[jT HT.1 (by rw[hm.out];exact him)];exact lN _ _);have yZ:Hid (aF (eH hs i)=true):=aa (by rw[jT HT.1 (by rw[hm.out];exact him)];exact uf _ _);have qi:Hid (o.ps.length=o.np):=aa jy.out.2.2.1.1;have Jq:o.np≤8:=by rw[←qi.out];exact hSo.n
 have QN:Hid (∀j,j<o.np→r64 (o.ps.getD j aC).ix):=aa (fun j hj=>(yX.out.2.2.2.2.2.2.2 _ (iL (by rw[qi.out];exact hj))).1);have OV:=aa (show ∀u:World,Hid (Below w0.heap.size w0 u)→Hid (Pa u o.L o.ps)from fun u h=>aa (dM.below jy.out h.out).2.2.2.2.2);have jr:=aa (show ∀u:World,Hid (Below w0.heap.size w0 u)→u.cell? ⟨bO,fO+i*9+2,none⟩=some (.int .i64 o.E1)∧u.cell? ⟨bO,fO+i*9+3,none⟩=some (.int .i64 o.E2)∧u.cell? ⟨bO,fO+i*9+4,none⟩=some (.slice o.A o.na o.ca)∧u.cell? ⟨bO,fO+i*9+5,none⟩=some (.int .i64 o.C)∧u.cell? ⟨bO,fO+i*9+6,none⟩=some (.slice o.Z o.nz o.cz)∧u.cell? ⟨bO,fO+i*9+7,none⟩=some (.slice o.L o.np o.cp)∧u.cell? ⟨bO,fO+i*9+8,none⟩=some (.int .i64 o.key)from fun u h9=>by have h8:=uB.out.below h9.out;exact h8.2.2);rw[jV.out]at Ah;have Xv:nd≤o.np:=by omega
 have Cc:Hid (vI (fun k=>zC P Q G (nd:Int) cs ks (eH hs i) o (o.ps.getD k aC)) o.np=false):=aa (by have h9:=Co.out;rw[jV.out]at h9;exact h9);go_in
 go_upto_region 1 with(fail)
 rw[HW.out];have zc:=kC.out _ ah;have dB:=jr.out _ ah
 go_wp2_with fail
 clear zc dB;refine JN ah (qO P Q G (nd:Int) Cs cs cn cc Ks ks kn kc hcn hkn hQ _ os n c K hs m d hn hm hI hb1 hb2 (i:Int) 0 wT _ (kV.out _ ah) (kD.out _ ah) (jb.out _ ah) (ja.out _ ah) (kO.out _ ah) (kH.out _ ah)) fun w1 ax=>?_;have zc:=kC.out _ ax;have dB:=jr.out _ ax
 go_upto_region 4 with(fail)
 clear zc dB;have hO:=aa (fun(u:World) (h:Hid (Below w0.heap.size w0 u))=>And.intro (kC.out u h) (jr.out u h));refine jq [] ax (fun hHeld=>?_);refine aP 0 1 2 3 ?_;refine aP 4 5 6 7 ?_;refine aL 8 ?_;refine aL 9 ?_;refine gM ?_;clear hO;have dF:=hHeld;clear hHeld;have zc:=kC.out _ dF;have dB:=jr.out _ dF
 go_wp2_with fail
 clear zc dB;refine JN dF (Bg P Q G (nd:Int) Cs cs cn cc Ks ks kn kc hcn hkn hQ bO fO os n c K hs m d i hn hm hi him hb1 hb2 (eH hs i) (aa rfl) J9 yZ o jV yX hSo _ (kV.out _ dF) (kD.out _ dF) (jb.out _ dF) (ja.out _ dF) (kO.out _ dF) (kH.out _ dF)) fun w3 aW=>?_;have zc:=kC.out _ aW;have dB:=jr.out _ aW;rw[Cc.out];have jU:=nZ.out _ aW;have bT:=aj (ag ai.out aW.out) (cs:=#[.slice none 0 0, .slice none 0 0]) (Nat.le_add_right w.heap.size 3)
 go_wp2_with ((with_reducible show wpList _ _ _ (⟨none,_,_,_,_,_⟩::_) _ _);refine wpList_store_row rfl 52 _ _ rfl (w.heap.size+3) #[.slice none 0 0, .slice none 0 0] rfl rfl _ _ jU.out (by kernel_rfl) rfl (by simp[Value.oneCell']) ?_)
 have hrw:=setRow_heap _ _ _ #[.slice none 0 0, .slice none 0 0] _ _ jU.out;exact bodyPost_ret (v:= .tuple #[iA none 0 0 none 0 0, .int .i64 0, .int .i64 11]) (bH (p:=8) (q:=9) (r:=10) (ty:=52) rfl _ _ ⟨w.heap.size+3,0,none⟩ _ _ _ rfl rfl rfl (run_loadVar_row _ _ _ _ _ _ _ hrw Tryz.underlying52 rfl (by kernel_rfl))) rfl (jB rfl bT)
theorem ZU (P Q G:Int)(nd:Nat)(Cs:Option Addr)(cs:List Int)(cn cc:Nat)(Ks:Option Addr)(ks:List Int)(kn kc:Nat)(hcn:Hid (cs.length=cn))(hkn:Hid (ks.length=kn))(hQ:Q<9223372036854775808)(O:Option Addr)(os:List aG)(n c:Nat)(K:Option Addr)(hs:List (List Int))(m d:Nat)(hn:Hid (os.length=n))(hm:Hid (hs.length=m))(hI:Hid (∀k,k<n→dD (bz os k)))(hb1:n≤1000000)(hb2:m≤1000000)(i:Nat)(hi:i<n)(HT:Kp (gJ os hs=true))(hr:Hid (pQ P Q G (nd:Int) cs ks=true))(wT:Hid (Iw P Q G (nd:Int) cs ks os hs n (i:Int)=0))(Ah:¬(bz os i).np<nd)(Co:Hid (vI (fun k=>zC P Q G (nd:Int) cs ks (eH hs i) (bz os i) ((bz os i).ps.getD k aC)) (bz os i).np=true))(cV cE:Int)(zR:Hid (iU P Q (nd:Int) kn (bz os i).E1 (bz os i).E2 (bz os i).ps=cE))(zQ:Hid (lT P Q (nd:Int) kn (bz os i).E1 (bz os i).E2 (bz os i).ps=cV))(W_:cE≠0)(w:World)(hv:Hid (Vars w))(hd0:Hid (bB w))(hC:Hid (Sl w Cs cs))(hK:Hid (Sl w Ks ks))(hO:Hid (Os w O os))(hH:Hid (Hs w K hs)) :
  Calls Tryz.prog 30 #[gv P Q G,jY (nd:Int) Cs cn cc Ks kn kc,iA O n c K m d, .int .i64 (i:Int)] w (uz [] 0 [] 0 [.int .i64 0, .int .i64 cE] w):=by
 obtain⟨w0,HW,ai,kC⟩:=Ch (bg P Q G) fq (.cells #[.int .i64 (nd:Int), .slice Cs cn cc, .slice Ks kn kc] 26) fq (jC O n c K m d) sG (.cells #[.slice none 0 0, .slice none 0 0] 52) sZ w;have kO:=fo (fun u=>Os u O os) ai hO (·.below);have kH:=fo (fun u=>Hs u K hs) ai hH (·.below);have kD:=oF ai hd0;have jb:=mkS ai hC;have ja:=mkS ai hK;have kV:=mkV ai hv;have nZ:=Cj (w0:=w0) (o:= .cells #[.slice none 0 0, .slice none 0 0] 52) (w.heap.size+3) (by rw[←HW.out];exact kg _ _ _ _ _);have ah:=bI w0;clear hC hK hd0 hv hO hH;obtain⟨bO,fO,BB,bF,hok⟩:=((kO.out _ ah)).out i (by rw[hn.out];exact hi);subst BB;obtain⟨o,hoe⟩:∃x,bz os i=x:=⟨_,rfl⟩;rw[show os.getD i dN=o from hoe]at bF hok;have jV:=aa hoe;have uB:=aa bF;have jy:=aa hok;clear bF hok hoe;have yX:Hid (dD o):=aa (by have:=hI.out i hi;rw[jV.out]at this;exact this);have hSo:fE o:=by have h9:=(fD (iI (fJ HT.1).1 i (by rw[hn.out];exact hi))).1;rw[jV.out]at h9;exact jM h9 jy.out
 have him:i≤m:=by rw[←hm.out];exact qf HT.1 (by rw[hn.out];exact hi)
 have J9:Hid ((eH hs i).length=32):=aa (by rw[jT HT.1 (by rw[hm.out];exact him)];exact lN _ _);have yZ:Hid (aF (eH hs i)=true):=aa (by rw[jT HT.1 (by rw[hm.out];exact him)];exact uf _ _);have qi:Hid (o.ps.length=o.np):=aa jy.out.2.2.1.1;have Jq:o.np≤8:=by rw[←qi.out];exact hSo.n
 have QN:Hid (∀j,j<o.np→r64 (o.ps.getD j aC).ix):=aa (fun j hj=>(yX.out.2.2.2.2.2.2.2 _ (iL (by rw[qi.out];exact hj))).1);have OV:=aa (show ∀u:World,Hid (Below w0.heap.size w0 u)→Hid (Pa u o.L o.ps)from fun u h=>aa (dM.below jy.out h.out).2.2.2.2.2);have jr:=aa (show ∀u:World,Hid (Below w0.heap.size w0 u)→u.cell? ⟨bO,fO+i*9+2,none⟩=some (.int .i64 o.E1)∧u.cell? ⟨bO,fO+i*9+3,none⟩=some (.int .i64 o.E2)∧u.cell? ⟨bO,fO+i*9+4,none⟩=some (.slice o.A o.na o.ca)∧u.cell? ⟨bO,fO+i*9+5,none⟩=some (.int .i64 o.C)∧u.cell? ⟨bO,fO+i*9+6,none⟩=some (.slice o.Z o.nz o.cz)∧u.cell? ⟨bO,fO+i*9+7,none⟩=some (.slice o.L o.np o.cp)∧u.cell? ⟨bO,fO+i*9+8,none⟩=some (.int .i64 o.key)from fun u h9=>by have h8:=uB.out.below h9.out;exact h8.2.2);rw[jV.out]at Ah;have Xv:nd≤o.np:=by omega
 have Cc:Hid (vI (fun k=>zC P Q G (nd:Int) cs ks (eH hs i) o (o.ps.getD k aC)) o.np=true):=aa (by have h9:=Co.out;rw[jV.out]at h9;exact h9);have YO:Hid (iU P Q (nd:Int) kn o.E1 o.E2 o.ps=cE):=aa (by have h9:=zR.out;rw[jV.out]at h9;exact h9);have Ri:Hid (lT P Q (nd:Int) kn o.E1 o.E2 o.ps=cV):=aa (by have h9:=zQ.out;rw[jV.out]at h9;exact h9);have e6:(cE != 0)=true:=by simpa using W_
 go_in
 go_upto_region 1 with(fail)
 rw[HW.out];have zc:=kC.out _ ah;have dB:=jr.out _ ah
 go_wp2_with fail
 clear zc dB;refine JN ah (qO P Q G (nd:Int) Cs cs cn cc Ks ks kn kc hcn hkn hQ _ os n c K hs m d hn hm hI hb1 hb2 (i:Int) 0 wT _ (kV.out _ ah) (kD.out _ ah) (jb.out _ ah) (ja.out _ ah) (kO.out _ ah) (kH.out _ ah)) fun w1 ax=>?_;have zc:=kC.out _ ax;have dB:=jr.out _ ax
 go_upto_region 4 with(fail)
 clear zc dB;have hO:=aa (fun(u:World) (h:Hid (Below w0.heap.size w0 u))=>And.intro (kC.out u h) (jr.out u h));refine jq [] ax (fun hHeld=>?_);refine aP 0 1 2 3 ?_;refine aP 4 5 6 7 ?_;refine aL 8 ?_;refine aL 9 ?_;refine gM ?_;clear hO;have dF:=hHeld;clear hHeld;have zc:=kC.out _ dF;have dB:=jr.out _ dF
 go_wp2_with fail
 clear zc dB;refine JN dF (Bg P Q G (nd:Int) Cs cs cn cc Ks ks kn kc hcn hkn hQ bO fO os n c K hs m d i hn hm hi him hb1 hb2 (eH hs i) (aa rfl) J9 yZ o jV yX hSo _ (kV.out _ dF) (kD.out _ dF) (jb.out _ dF) (ja.out _ dF) (kO.out _ dF) (kH.out _ dF)) fun w3 aW=>?_;have zc:=kC.out _ aW;have dB:=jr.out _ aW;rw[Cc.out]
 go_upto_region 8 with(fail)
 clear zc dB;have hO:=aa (fun(u:World) (h:Hid (Below w0.heap.size w0 u))=>And.intro (kC.out u h) (jr.out u h));refine jq [] aW (fun hHeld=>?_);refine aP 0 1 2 3 ?_;refine aP 4 5 6 7 ?_;refine aP 8 9 10 11 ?_;refine aL 12 ?_;refine aL 13 ?_;refine dh 14 fun K hK=>?_;go_simp;refine(F9 P Q G nd Cs cs cn cc Ks ks kn kc hcn hkn o.E1 o.E2 o.A o.na o.ca o.C o.Z o.nz o.cz o.L o.ps o.np o.cp qi (by omega) QN hr _ (OV.out _ hHeld)).mono ?_;rintro e wA ⟨rfl,bN⟩;rw[YO.out,Ri.out];refine hK.out _ _ (bJ hHeld bN) (fun hHeld=>?_);clear hK K;refine aP 15 16 17 18 ?_;refine aL 19 ?_;refine gM ?_;clear hO;have kU:=hHeld;clear hHeld;have zc:=kC.out _ kU;have dB:=jr.out _ kU;have jU:=nZ.out _ kU;have bT:=aj (ag ai.out kU.out) (cs:=#[.slice none 0 0, .slice none 0 0]) (Nat.le_add_right w.heap.size 3)
 go_wp2_with ((with_reducible show wpList _ _ _ (⟨none,_,_,_,_,_⟩::_) _ _);refine wpList_store_row rfl 52 _ _ rfl (w.heap.size+3) #[.slice none 0 0, .slice none 0 0] rfl rfl _ _ jU.out (by kernel_rfl) rfl (by simp[Value.oneCell']) ?_)
 have hrw:=setRow_heap _ _ _ #[.slice none 0 0, .slice none 0 0] _ _ jU.out;exact bodyPost_ret (v:= .tuple #[iA none 0 0 none 0 0, .int .i64 0, .int .i64 cE]) (bH (p:=8) (q:=9) (r:=10) (ty:=52) rfl _ _ ⟨w.heap.size+3,0,none⟩ _ _ _ rfl rfl rfl (run_loadVar_row _ _ _ _ _ _ _ hrw Tryz.underlying52 rfl (by kernel_rfl))) rfl (jB rfl bT)
end Go.Proofs.YtchcllcbknfikaaGreatDoor