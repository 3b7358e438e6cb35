/- Contracts and lemmas: RefD, Sml, Slk, Sha, Byt, DigA, DigB, DigC, LawKitD, LinA, LinB, LinC, OpR, OpP, OpE, Held, Many, Bx, Nwt, RInv. -/
import Derived.Deep.QuietTactic
import Derived.BigQuiet
import Derived.Deep.RegionHeld3
import Derived.WalkKit
import Derived.Laws.BitsAllLaws
import Derived.BigRegion
import Derived.Deep.WholeRow
import Derived.Deep.Cut
import Derived.ChangeMaps5
import Derived.Deep.Slices
import Derived.Test.YtchcllcbknfikaaGreatDoorTc1
set_option linter.unusedVariables false
set_option linter.unusedSimpArgs false
set_option maxRecDepth 100000
set_option maxHeartbeats 25600000
namespace Go.Proofs.YtchcllcbknfikaaGreatDoor
open Go.RowKit sH
theorem pY (a m r:Int)(hr:Hid (a%m=r))(h1:1≤m)(h2:m<2305843009213693952)(ha0: -9223372036854775808≤a)(ha:a<9223372036854775808)(w:World) :
  Calls Tryz.prog 55 #[.int .i64 a, .int .i64 m] w fun e' w'=>e' = .returned (.int .i64 r)∧w=w':=by
 have hm:((m:Int) == 0)=false:=by simp;omega
 have hr':=hr.out
 by_cases hneg:0≤a
 ·
  have h3:0≤a%m:=Int.emod_nonneg _ (by omega);have h4:a%m<m:=Int.emod_lt_of_pos _ (by omega);have h5:decide (a%m<0)=false:=by simp;omega
  clear hr';go_in;go_wp2;go_ret;exact⟨Kq hr.out,rfl⟩
 ·
  obtain⟨t,ht⟩:∃t,a.tmod m=t:=⟨_,rfl⟩
  have hb: -m<t∧t≤0:=by
   rw[←ht]
   have e:a.tmod m = - ((-a)%m):=by
    rw[←Int.neg_neg a,Int.neg_tmod,Int.neg_neg,Int.tmod_eq_emod_of_nonneg (by omega)]
   have h3:0≤(-a)%m:=Int.emod_nonneg _ (by omega);have h4:(-a)%m<m:=Int.emod_lt_of_pos _ (by omega)
   omega
  have hrt:r=if t<0 then t+m else t:=by
   rw[←hr'];have e:a=m*a.tdiv m+t:=by rw[←ht];exact(Int.mul_tdiv_add_tmod a m).symm
   have h6:a%m=t%m:=by rw[e,Int.mul_add_emod_self_left]
   rw[h6]
   split
   · rw[←Int.add_emod_right t m];exact Int.emod_eq_of_lt (by omega) (by omega)
   · exact Int.emod_eq_of_lt (by omega) (by omega)
  obtain⟨hb1,hb2⟩:=hb;have HW:wrap64 (a.tmod m)=t:=by rw[ht];exact IntWalk.wrap64_in _ (by omega)
  clear hr' hr
  by_cases hz:t<0
  ·
   rw[if_pos hz]at hrt;subst hrt;go_in;go_wp2;go_ret;exact⟨rfl,rfl⟩
  ·
   rw[if_neg hz]at hrt;subst hrt;have hz2:decide (r<0)=false:=by simp;omega
   go_in;go_wp2;go_ret;exact⟨rfl,rfl⟩
theorem di (P Q G:Int)(b:Bool)(hb:Hid (a_ P Q G=b))(hQ:Q<9223372036854775808)(w:World) :
  Calls Tryz.prog 18 #[gv P Q G] w (Rt w (.bool b)):=by
 have hb':=hb.out;unfold a_ at hb'
 by_cases h0:P<3
 ·
  obtain rfl:b=false:=by
   cases b with
   | false=>rfl
   | true=>exact absurd (bW hb.out).2.2 (by omega)
  exact NZ P Q G h0 w
 have h0':3≤P:=by omega
 by_cases h1:P<2305843009213693952
 ·
  by_cases h2:3≤Q
  ·
   by_cases h3:Q%2=1
   ·
    by_cases h6:(P-1)%Q=0
    ·
     by_cases h7:2≤G
     ·
      by_cases h8:G<P
      ·
       have Y3:Q<P:=by have:=Int.le_of_dvd (by omega) (Int.dvd_of_emod_eq_zero h6);omega
       cases h4:qc P with
       | true=>
        cases h5:qc Q with
        | true=>
         refine NP P Q G h0' h1 h2 h3 hQ h6 h7 h8 Y3 b h4 h5 ?_ w;rw[←hb']
         simp[h1,h2,h3,h4,h5,h6,h7,h8]
         show((pw G Q P == 1)=decide (pw G Q P=1))
         rfl
        | false=>
         obtain rfl:b=false:=by rw[←hb'];simp[h5]
         exact NQ P Q G h0' h1 h2 h3 hQ h6 h7 h8 Y3 h4 h5 w
       | false=>
        obtain rfl:b=false:=by rw[←hb'];simp[h4]
        exact NR P Q G h0' h1 h2 h3 hQ h6 h7 h8 Y3 h4 w
      ·
       obtain rfl:b=false:=by rw[←hb'];simp[h8]
       exact NS P Q G h0' h1 h2 h3 hQ h6 h7 (by omega) w
     ·
      obtain rfl:b=false:=by rw[←hb'];simp[h7]
      exact NT P Q G h0' h1 h2 h3 hQ h6 (by omega) w
    ·
     obtain rfl:b=false:=by rw[←hb'];simp[h6]
     exact NU P Q G h0' h1 h2 h3 hQ h6 w
   ·
    obtain rfl:b=false:=by rw[←hb'];simp[h3]
    exact NV P Q G h0' h1 h2 (show Q%2=0 by omega) w
  ·
   obtain rfl:b=false:=by rw[←hb'];simp[h2]
   exact NW P Q G h0' h1 (by omega) w
 ·
  obtain rfl:b=false:=by rw[←hb'];simp[h1]
  exact NY P Q G h0' (by omega) w
theorem aU (P Q G x:Int)(b:Bool)(hb:Hid (aN P Q x=b))(h1:P<2305843009213693952)(Fg:0≤Q)(hQ:Q<9223372036854775808)(w:World) :
  Calls Tryz.prog 103 #[gv P Q G, .int .i64 x] w (Rt w (.bool b)):=by
 by_cases hx:1≤x
 ·
  by_cases hx2:x<P
  ·
   obtain⟨y,hy⟩:∃y,pw x Q P=y:=⟨_,rfl⟩
   have g9:((y:Int) == 1)=b:=by
    rw[←hb.out,←hy,aN,Bool.eq_iff_iff]
    simp only[beq_iff_eq,decide_eq_true_eq]
    exact⟨fun h=>⟨by omega,by omega,h⟩,fun h=>h.2.2⟩
   have HX:=aa hy;clear hy hb;go_in
   go_wp2_with fail
   refine(mZ x Q P y HX (by omega) h1 (by omega) hx2 Fg hQ _).mono ?_;rintro e w' ⟨rfl,rfl⟩;go_wp2;go_ret;exact⟨rfl,af _ _⟩
  ·
   obtain rfl:b=false:=by rw[←hb.out];simp[aN];omega
   have d2:decide (x<P)=false:=by simp;omega
   go_in;go_wp2;go_ret;exact⟨rfl,af _ _⟩
 ·
  obtain rfl:b=false:=by rw[←hb.out];simp[aN];omega
  have d2:decide (1≤x)=false:=by simp;omega
  go_in;go_wp2;go_ret;exact⟨rfl,af _ _⟩
theorem C_ (P Q G a b r:Int)(hr:Hid (a*b%P=r))(h1:P<2305843009213693952)(ha0:0≤a)(ha:a<P)(hb0:0≤b)(hb:b<P)(w:World) :
  Calls Tryz.prog 43 #[gv P Q G, .int .i64 a, .int .i64 b] w (Rt w (.int .i64 r)):=by
 go_in
 go_wp2_with fail
 refine(gV a b P r hr h1 ha0 ha hb0 hb _).mono ?_;rintro e w' ⟨rfl,rfl⟩;go_wp2;go_ret;exact⟨rfl,af _ _⟩
theorem oV {P:Program} {f:FuncId} {args:Array Value} {w:World} {n:Nat} {v:Value}
  (h:Calls P f args (w.drewN n) fun e w'=>e = .returned v∧w.drewN n=w'):Calls P f args (w.drewN n) fun e w''=>e = .returned v∧∃m,w''=w.drewN m:=
 h.mono fun _ _ ⟨he,hm⟩=>⟨he,n,hm.symm⟩
theorem Bd (P Q G a k r:Int)(hr:Hid (pw a (k%Q) P=r))(h1:1≤P)(h2:P<2305843009213693952)(Fg:1≤Q)(hQ:Q<2305843009213693952)(ha0:0≤a)(ha:a<P)(hk0: -9223372036854775808≤k)(hk:k<9223372036854775808)(w:World) :
  Calls Tryz.prog 44 #[gv P Q G, .int .i64 a, .int .i64 k] w (Rt w (.int .i64 r)):=by
 have k0:0≤k%Q:=Int.emod_nonneg _ (by omega);have k1:k%Q<Q:=Int.emod_lt_of_pos _ (by omega);obtain⟨j,hj⟩:∃j,k%Q=j:=⟨_,rfl⟩;rw[hj]at k0 k1 hr;have HJ:=aa hj;clear hj;go_in;go_wp2
 go_quiet ((first | (go_at_call 55;exact oV (pY k Q j HJ Fg hQ hk0 hk _)) | (go_at_call 57;exact oV (mZ a j P r hr h1 h2 ha0 ha k0 (by omega) _))))
 go_wp2;go_ret;exact⟨rfl,eD _ _ _⟩
theorem cell_below {w w':World} {p:Addr} {v:Value} (h:w.cell? p=some v)(hb:Below w.heap.size w w'):w'.cell? p=some v:=(hb.cell (World.block_lt_of_cell? _ _ h)).trans h
theorem ji {f:Int→Bool} {xs:List Int} (h:xs.all f=true) {k:Nat} (hk:k<xs.length):f (xs.getD k 0)=true:=by
 rw[List.getD_eq_getElem?_getD,List.getElem?_eq_getElem hk];exact List.all_eq_true.1 h _ (List.getElem_mem hk)
abbrev z32:Array Value:=#[.int .u8 0, .int .u8 0, .int .u8 0, .int .u8 0, .int .u8 0, .int .u8 0, .int .u8 0, .int .u8 0, .int .u8 0, .int .u8 0, .int .u8 0, .int .u8 0, .int .u8 0, .int .u8 0, .int .u8 0, .int .u8 0, .int .u8 0, .int .u8 0, .int .u8 0, .int .u8 0, .int .u8 0, .int .u8 0, .int .u8 0, .int .u8 0, .int .u8 0, .int .u8 0, .int .u8 0, .int .u8 0, .int .u8 0, .int .u8 0, .int .u8 0, .int .u8 0]
def Own (w:World)(p:Addr)(v:Value):Prop:=w.cell? p=some v∧w.frozen? p=false
theorem Own.below {w w':World} {p:Addr} {v:Value} (h:Own w p v)(hb:Below w.heap.size w w'):Own w' p v:=
 ⟨cell_below h.1 hb,(hb.frozen (World.block_lt_of_cell? _ _ h.1)).trans h.2⟩
theorem dx {w:World} {cs:Array Value} {T:TypeId} {n j:Nat} {v:Value} (hn:w.heap.size=n)(hj:cs[j]? = some v):(w.alloc (.cells cs T)).cell? ⟨n,j,none⟩=some v:=by
 subst hn;exact(World.cell?_alloc_at _ _ _ _ rfl).trans hj
theorem wh {w:World} {cs:Array Value} {T:TypeId} {n j:Nat} {v:Value} (hn:w.heap.size=n)(hj:cs[j]? = some v):Own (w.alloc (.cells cs T)) ⟨n,j,none⟩ v:=by
 refine⟨dx hn hj, ?_⟩;subst hn;exact ay (heap_alloc_new w _) _
def abm (xs:List Int)(n:Nat)(w:World)(e:Ending)(w':World):Prop:=∃A c,e = .returned (.slice A n c)∧Sl w' A xs∧(0<xs.length→∃g,A=some ⟨g,0,none⟩∧w.heap.size≤g)∧Below w.heap.size w w'
theorem sl0 (w:World)(A:Option Addr):Sl w A []:=fun k hk=>absurd hk (by simp)
theorem iD.sl {w:World} {B:Nat} {v:Value} {xs:List Int} (h:iD w B v xs):∃A c,v = .slice A xs.length c∧Sl w A xs∧(0<xs.length→∃g,A=some ⟨g,0,none⟩∧B≤g):=by
 by_cases h0:0<xs.length
 ·
  obtain⟨g,cap,rfl,hg,hc⟩:=iD.cells h h0;exact⟨some ⟨g,0,none⟩,cap,rfl,fun k hk=>⟨g,0,rfl,by rw[Nat.zero_add];exact hc k hk⟩,fun _=>⟨g,rfl,hg⟩⟩
 ·
  have e:xs = []:=List.eq_nil_of_length_eq_zero (by omega);subst e;obtain⟨_,h2⟩:=h;rcases h2 with⟨hv,_⟩ | ⟨g,cap,cur,hv,_⟩
  · exact⟨none,0,hv,sl0 _ _,fun h=>absurd h (by simp)⟩
  · exact⟨_,cap,hv,sl0 _ _,fun h=>absurd h (by simp)⟩
theorem Sl.at0 {w:World} {A:Option Addr} {xs:List Int} (h:Sl w A xs)(h0:0<xs.length):∃b o,A=some ⟨b,o,none⟩∧∀j,j<xs.length→w.cell? ⟨b,o+j,none⟩=some (.int .i64 (xs.getD j 0)):=by
 obtain⟨b,o,rfl,_⟩:=h 0 h0
 exact⟨b,o,rfl,fun j hj=>by
  obtain⟨b',o',e,hc⟩:=h j hj
  cases e
  exact hc⟩
theorem BI (A:Option Addr)(xs:List Int)(n c:Nat)(hn:Hid (xs.length=n))(hbig:n<1000000)(w:World)(hA:Hid (Sl w A xs)) :
  Calls Tryz.prog 153 #[.slice A n c] w (abm xs n w):=by
 have hn':=hn.out
 by_cases h0:n=0
 ·
  have e1:=List.eq_nil_of_length_eq_zero (hn'.trans h0);subst e1;subst h0
  cases A with
  | none=>
   refine(Tryz.slices_Clone_int_nil 0 c w).mono ?_;rintro e w' ⟨rfl,rfl⟩;exact⟨none,0,rfl,sl0 _ _,fun h=>absurd h (by simp),Below.refl _ _⟩
  | some a=>
   refine(Tryz.slices_Clone_int_zero a c w).mono ?_;rintro e w' ⟨v',rfl,ho,_,hb⟩;obtain⟨B,cc,hv,hs,hg⟩:=iD.sl (xs:= []) ho;exact⟨B,cc,by rw[hv];rfl,hs,hg,hb⟩
 ·
  obtain⟨b1,o1,rfl,hc1⟩:=hA.out.at0 (by omega);refine(Tryz.slices_Clone_int b1 o1 n c xs w (by omega) (by omega) hc1).mono ?_;rintro e w' ⟨v',rfl,ho,_,hb⟩;rw[List.take_of_length_le (by omega),←hn']at ho;obtain⟨B,cc,hv,hs,hg⟩:=iD.sl (xs:=xs) ho;exact⟨B,cc,by rw[hv,hn'],hs,hg,hb⟩
end Go.Proofs.YtchcllcbknfikaaGreatDoor
namespace Go.Proofs.YtchcllcbknfikaaGreatDoor
open Go.RowKit
structure Kp (p:Prop):Prop where
 out:p
def jo (x:Int)(n:Nat):Int:=bits .or .u32 (x / 2 ^ n) (IntKind.u32.wrap (x*2 ^ (32-n)))
def Vz (x:Int):Int:=bits .xor .u32 (bits .xor .u32 (jo x 7) (jo x 18)) (x / 8)
def Vy (x:Int):Int:=bits .xor .u32 (bits .xor .u32 (jo x 17) (jo x 19)) (x / 1024)
def add32 (x y:Int):Int:=IntKind.u32.wrap (x+y)
def Np (l:List Int):Int:=add32 (add32 (add32 (l.getD (l.length-16) 0) (Vz (l.getD (l.length-15) 0))) (l.getD (l.length-7) 0)) (Vy (l.getD (l.length-2) 0))
def oN:Nat→List Int→List Int
 | 0,l=>l
 | n+1,l=>oN n l ++ [Np (oN n l)]
def rU (b:List Int)(i:Nat):Int:=b.getD i 0
def Fx (b:List Int)(i:Nat):Int:=((rU b (4*i)*256+rU b (4*i+1))*256+rU b (4*i+2))*256+rU b (4*i+3)
def dO (b:List Int)(n:Nat):List Int:=(List.range n).map (Fx b)
def dY (b:List Int):List Int:=oN 48 (dO b 16)
theorem gu (b:List Int)(n:Nat):(dO b n).length=n:=by simp[dO]
theorem zb (b:List Int)(n:Nat):dO b (n+1)=dO b n ++ [Fx b n]:=by simp[dO,List.range_succ]
theorem AQ (n:Nat)(l:List Int):(oN n l).length=l.length+n:=by
 induction n with
 | zero=>rfl
 | succ n ih=>rw[oN,List.length_append,ih];rfl
theorem kG (b:List Int):(dY b).length=64:=by rw[dY,AQ,gu]
structure St where
 (a b c d e f g h:Int)
def sbA (x:Int):Int:=bits .xor .u32 (bits .xor .u32 (jo x 2) (jo x 13)) (jo x 22)
def sbE (x:Int):Int:=bits .xor .u32 (bits .xor .u32 (jo x 6) (jo x 11)) (jo x 25)
def aab (x:Int):Int:=bits .xor .u32 4294967295 x
def chE (e f g:Int):Int:=bits .xor .u32 (bits .and .u32 e f) (bits .and .u32 (aab e) g)
def maA (a b c:Int):Int:=bits .xor .u32 (bits .xor .u32 (bits .and .u32 a b) (bits .and .u32 a c)) (bits .and .u32 b c)
def R3 (s:St)(k w:Int):Int:=add32 (add32 (add32 (add32 s.h (sbE s.e)) (chE s.e s.f s.g)) k) w
def ZN (s:St):Int:=add32 (sbA s.a) (maA s.a s.b s.c)
def ZO (s:St)(k w:Int):St:=⟨add32 (R3 s k w) (ZN s),s.a,s.b,s.c,add32 s.d (R3 s k w),s.e,s.f,s.g⟩
def KL:List Int:= [
  0x428a2f98,0x71374491,0xb5c0fbcf,0xe9b5dba5,0x3956c25b,0x59f111f1,0x923f82a4,0xab1c5ed5,
  0xd807aa98,0x12835b01,0x243185be,0x550c7dc3,0x72be5d74,0x80deb1fe,0x9bdc06a7,0xc19bf174,
  0xe49b69c1,0xefbe4786,0x0fc19dc6,0x240ca1cc,0x2de92c6f,0x4a7484aa,0x5cb0a9dc,0x76f988da,
  0x983e5152,0xa831c66d,0xb00327c8,0xbf597fc7,0xc6e00bf3,0xd5a79147,0x06ca6351,0x14292967,
  0x27b70a85,0x2e1b2138,0x4d2c6dfc,0x53380d13,0x650a7354,0x766a0abb,0x81c2c92e,0x92722c85,
  0xa2bfe8a1,0xa81a664b,0xc24b8b70,0xc76c51a3,0xd192e819,0xd6990624,0xf40e3585,0x106aa070,
  0x19a4c116,0x1e376c08,0x2748774c,0x34b0bcb5,0x391c0cb3,0x4ed8aa4a,0x5b9cca4f,0x682e6ff3,
  0x748f82ee,0x78a5636f,0x84c87814,0x8cc70208,0x90befffa,0xa4506ceb,0xbef9a3f7,0xc67178f2]
def st0:St:=⟨0x6a09e667,0xbb67ae85,0x3c6ef372,0xa54ff53a,0x510e527f,0x9b05688c,0x1f83d9ab,0x5be0cd19⟩
def zB (ws:List Int)(s:St):Nat→St
 | 0=>s
 | n+1=>ZO (zB ws s n) (KL.getD n 0) (ws.getD n 0)
def TQ (s t:St):St:=⟨add32 s.a t.a,add32 s.b t.b,add32 s.c t.c,add32 s.d t.d,add32 s.e t.e,add32 s.f t.f,add32 s.g t.g,add32 s.h t.h⟩
def Gn (s:St)(b:List Int):St:=TQ s (zB (dY b) s 64)
def gZ (p:List Int)(n:Nat):List Int:=(p.drop (64*n)).take 64
def mW (p:List Int):Nat→St
 | 0=>st0
 | n+1=>Gn (mW p n) (gZ p n)
def sU (n:Int):List Int:= [n / 72057594037927936%256,n / 281474976710656%256,n / 1099511627776%256,n / 4294967296%256,n / 16777216%256,n / 65536%256,n / 256%256,n%256]
def nK (n:Nat):Nat:=(119-n%64)%64
def pR (b:List Int):List Int:=b ++ [128]++List.replicate (nK b.length) 0++sU (8*b.length)
def St.list (s:St):List Int:= [s.a,s.b,s.c,s.d,s.e,s.f,s.g,s.h]
def Bq (v:Int):List Int:= [v / 16777216%256,v / 65536%256,v / 256%256,v%256]
def o_ (s:St):List Int:=Bq s.a++Bq s.b++Bq s.c++Bq s.d++Bq s.e++Bq s.f++Bq s.g++Bq s.h
def rA (b:List Int):List Int:=o_ (mW (pR b) ((pR b).length / 64))
def tagged (tag b:List Int):List Int:=rA (rA tag++rA tag++b)
def aF (l:List Int):Bool:=l.all fun x=>decide (0≤x)&&decide (x<256)
theorem g_ (n:Int):(sU n).length=8:=rfl
theorem iJ (b:List Int):(rA b).length=32:=rfl
theorem dR (t b:List Int):(tagged t b).length=32:=rfl
theorem tQ (b:List Int):(pR b).length=b.length+9+nK b.length:=by simp[pR,g_];omega
theorem Gg (b:List Int):(pR b).length%64=0:=by rw[tQ,nK];omega
theorem Br (n:Int):(decide (0≤n%256)&&decide (n%256<256))=true:=by simp;omega
theorem dS {a b:List Int} :aF (a++b)=(aF a&&aF b):=by simp[aF]
theorem yR (n:Int):aF (sU n)=true:=by simp[aF,sU,Br]
theorem Ja (n:Int):aF (Bq n)=true:=by simp[aF,Bq,Br]
theorem I_ (s:St):aF (o_ s)=true:=by simp only[o_,dS,Ja,Bool.and_self]
theorem jJ (b:List Int):aF (rA b)=true:=I_ _
theorem Bn {b:List Int} (h:aF b=true):aF (pR b)=true:=by
 simp only[pR,dS,h,yR,Bool.true_and,Bool.and_true]
 simp[aF]
theorem jH {l:List Int} (h:aF l=true)(i:Nat):0≤l.getD i 0∧l.getD i 0<256:=by
 by_cases hi:i<l.length
 ·
  have:=List.all_eq_true.1 h _ (List.getElem_mem hi);rw[List.getD_eq_getElem?_getD,List.getElem?_eq_getElem hi]
  simpa using this
 · rw[List.getD_eq_getElem?_getD,List.getElem?_eq_none (by omega)];simp
theorem Ht {l:List Int} (h:aF l=true)(n:Nat):aF (l.take n)=true:=
 List.all_eq_true.2 fun x hx=>List.all_eq_true.1 h x (List.mem_of_mem_take hx)
theorem Hu {l:List Int} (h:aF l=true)(n:Nat):aF (l.drop n)=true:=
 List.all_eq_true.2 fun x hx=>List.all_eq_true.1 h x (List.mem_of_mem_drop hx)
theorem vG {p:List Int} (h:aF p=true)(n:Nat):aF (gZ p n)=true:=Ht (Hu h _) _
theorem zw {p:List Int} {n:Nat} (h:64*n+64≤p.length):(gZ p n).length=64:=by simp[gZ];omega
theorem EK (a b:Int):bits .or .u32 a b=bits .or .u32 b a:=by
 simp only[bits]
 rw[BitVec.or_comm]
end Go.Proofs.YtchcllcbknfikaaGreatDoor
namespace Go.Proofs.YtchcllcbknfikaaGreatDoor
open Go.RowKit sH
def Sk (K:IntKind)(w:World)(A:Option Addr)(xs:List Int):Prop:=∀j,j<xs.length→∃b o,A=some ⟨b,o,none⟩∧w.cell? ⟨b,o+j,none⟩=some (.int K (xs.getD j 0))
variable {K : IntKind}
theorem sk0 (w:World)(A:Option Addr):Sk K w A []:=fun k hk=>absurd hk (by simp)
theorem Sk.below {w w':World} {A:Option Addr} {xs:List Int} (h:Sk K w A xs)(hb:Below w.heap.size w w'):Sk K w' A xs:=fun k hk=>by
 obtain⟨b,o,h1,h2⟩:=h k hk;exact⟨b,o,h1,(hb.cell (World.block_lt_of_cell? _ _ h2)).trans h2⟩
theorem Sk.at0 {w:World} {A:Option Addr} {xs:List Int} (h:Sk K w A xs)(h0:0<xs.length):∃b o,A=some ⟨b,o,none⟩∧∀j,j<xs.length→w.cell? ⟨b,o+j,none⟩=some (.int K (xs.getD j 0)):=by
 obtain⟨b,o,rfl,_⟩:=h 0 h0
 exact⟨b,o,rfl,fun j hj=>by
  obtain⟨b',o',e,hc⟩:=h j hj
  cases e
  exact hc⟩
theorem Sk.lt {w:World} {b o:Nat} {xs:List Int} (h:Sk K w (some ⟨b,o,none⟩) xs)(h0:0<xs.length):b<w.heap.size:=by
 obtain⟨b',o',e,hc⟩:=h 0 h0
 cases e
 exact World.block_lt_of_cell? _ _ hc
theorem Sk.cell {w:World} {b o:Nat} {xs:List Int} (h:Sk K w (some ⟨b,o,none⟩) xs) {j:Nat} (hj:j<xs.length):w.cell? ⟨b,o+j,none⟩=some (.int K (xs.getD j 0)):=by
 obtain⟨b',o',e,hc⟩:=h j hj
 cases e
 exact hc
theorem Sk.drop {w:World} {b o n:Nat} {xs:List Int} (h:Sk K w (some ⟨b,o,none⟩) xs):Sk K w (some ⟨b,o+n,none⟩) (xs.drop n):=fun j hj=>by
 rw[List.length_drop]at hj;refine⟨b,o+n,rfl, ?_⟩;rw[Nat.add_assoc,h.cell (j:=n+j) (by omega)]
 simp[List.getD_eq_getElem?_getD,List.getElem?_drop]
theorem Sk.take {w:World} {A:Option Addr} {n:Nat} {xs:List Int} (h:Sk K w A xs):Sk K w A (xs.take n):=fun j hj=>by
 rw[List.length_take]at hj;obtain⟨b,o,h1,h2⟩:=h j (by omega);refine⟨b,o,h1, ?_⟩;rw[h2]
 simp[List.getD_eq_getElem?_getD,List.getElem?_take_of_lt (show j<n by omega)]
theorem Sk.grown {w w1:World} {row:Option Nat} {A:Option Addr} {xs:List Int} (h:Sk K w A xs)(hg:w.grownBy w1 row)(hne:∀b o,A=some ⟨b,o,none⟩→0<xs.length→row≠some b):Sk K w1 A xs:=fun k hk=>by
 obtain⟨b,o,h1,h2⟩:=h k hk;exact⟨b,o,h1,hg.cell h2 (fun e=>hne b o h1 (by omega) e.symm)⟩
theorem Sk.nil_of {w:World} {A:Option Addr} {xs:List Int} (h:xs.length=0):Sk K w A xs:=fun k hk=>by omega
def aV (K:IntKind)(T:TypeId)(w:World)(base:Nat)(v:Value)(xs:List Int):Prop:=w.ownsRow base T 1 v xs.length (xs.map (Value.int K))
variable {T : TypeId}
theorem tT (w:World)(base:Nat):aV K T w base (.slice none 0 0) []:=World.ownsRow_nil _ _ _ _
theorem aV.app {w1:World} {base k:Nat} {v':Value} {xs ys:List Int} {m:Nat} (hk:k=xs.length)(hm:m=ys.length)
  (h:w1.ownsRow base T 1 v' (k+m) (xs.map (Value.int K)++ys.map (Value.int K))):aV K T w1 base v' (xs++ys):=by
 unfold aV;rw[List.length_append,List.map_append,←hk,←hm];exact h
theorem aV.below {w w1 wr:World} {B:Nat} {o:Obj} {v:Value} {xs:List Int} (h:aV K T wr B v xs)(hb:Below B w wr)(hB:B≤wr.heap.size)(hg:(wr.alloc o).grownBy w1 v.ownBlock):Below B w w1:=
 (hb.alloc hB o).grown hg (by simp;omega) (fun j hj=>(World.ownsRow.lt h j hj).1)
theorem aV.below0 {w w1 wr:World} {B:Nat} {v:Value} {xs:List Int} (h:aV K T wr B v xs)(hb:Below B w wr)(hB:B≤wr.heap.size)(hg:wr.grownBy w1 v.ownBlock):Below B w w1:=
 hb.grown hg (by omega) (fun j hj=>(World.ownsRow.lt h j hj).1)
theorem aV.cells {w:World} {B:Nat} {v:Value} {xs:List Int} (h:aV K T w B v xs)(hne:0<xs.length):∃g cap,v = .slice (some ⟨g,0,none⟩) xs.length cap∧B≤g∧xs.length≤cap∧cap≤maxLen∧Sk K w (some ⟨g,0,none⟩) xs:=by
 obtain⟨h1,h2⟩:=h;rcases h2 with⟨_,h0⟩ | ⟨g,cap,cur,rfl,hg,hh,hn,hc,hs,ht⟩
 · omega
 ·
  refine⟨g,cap,rfl,hg,hn,hc,fun j hj=>⟨g,0,rfl, ?_⟩⟩;rw[Nat.zero_add,au hh]
  have e:cur.toList[j]? = (xs.map (Value.int K))[j]? :=by
   rw[←ht,List.getElem?_take_of_lt (by omega)]
  rw[←Array.getElem?_toList,e,List.getElem?_map,List.getElem?_eq_getElem hj,List.getD_eq_getElem?_getD,List.getElem?_eq_getElem hj]
  rfl
theorem aV.sk {w:World} {B:Nat} {v:Value} {xs:List Int} (h:aV K T w B v xs):∃A c,v = .slice A xs.length c∧Sk K w A xs∧(0<xs.length→∃g,A=some ⟨g,0,none⟩∧B≤g)∧xs.length≤c:=by
 by_cases h0:0<xs.length
 ·
  obtain⟨g,cap,rfl,hg,hn,_,hc⟩:=aV.cells h h0;exact⟨some ⟨g,0,none⟩,cap,rfl,hc,fun _=>⟨g,rfl,hg⟩,hn⟩
 ·
  have e:xs = []:=List.eq_nil_of_length_eq_zero (by omega);subst e;obtain⟨_,h2⟩:=h;rcases h2 with⟨hv,_⟩ | ⟨g,cap,cur,hv,_⟩
  · exact⟨none,0,hv,sk0 _ _,fun h=>absurd h (by simp),by simp⟩
  · exact⟨_,cap,hv,sk0 _ _,fun h=>absurd h (by simp),by simp⟩
theorem aV.keep {w w':World} {B:Nat} {v:Value} {xs:List Int} (h:aV K T w B v xs)(hb:Below w.heap.size w w'):aV K T w' B v xs:=by
 obtain⟨h1,h2⟩:=h;refine⟨h1,h2.imp id ?_⟩;rintro ⟨g,cap,cur,rfl,hg,hh,rest⟩;exact⟨g,cap,cur,rfl,hg,(hb.block g (Array.getElem?_eq_some_iff.1 hh).1).trans hh,rest⟩
theorem aV.mono {w:World} {B B':Nat} {v:Value} {xs:List Int} (h:aV K T w B v xs)(hb:B'≤B):aV K T w B' v xs:=by
 obtain⟨h1,h2⟩:=h;refine⟨h1,h2.imp id ?_⟩;rintro ⟨g,cap,cur,rfl,hg,rest⟩;exact⟨g,cap,cur,rfl,by omega,rest⟩
theorem aV.kept {w w':World} {row:Option Nat} {B:Nat} {v:Value} {xs:List Int} (h:aV K T w B v xs)(hg:w.grownBy w' row)(hne:v.ownBlock=none∨v.ownBlock≠row):aV K T w' B v xs:=World.ownsRow.kept h hg hne
theorem aV.row {w:World} {B n:Nat} {v:Value} {xs:List Int} (h:aV K T w B v xs)(hn:xs.length=n):w.ownsRow B T 1 v n (xs.map (Value.int K)):=by
 subst hn;exact h
theorem aV.lt {w:World} {B:Nat} {v:Value} {xs:List Int} (h:aV K T w B v xs)(j:Nat)(hj:v.ownBlock=some j):B≤j∧j<w.heap.size:=World.ownsRow.lt h j hj
def BU (K:IntKind)(T:TypeId)(xs:List Int)(w:World)(e:Ending)(w':World):Prop:=∃v,e = .returned v∧aV K T w' w.heap.size v xs∧Below w.heap.size w w'
theorem Jy {xs ys:List Int} {j:Nat} (h:j<xs.length):(xs++ys).getD j 0=xs.getD j 0:=by
 simp[List.getD_eq_getElem?_getD,List.getElem?_append_left h]
theorem Jw {xs ys:List Int} {j:Nat} (h:xs.length≤j):(xs++ys).getD j 0=ys.getD (j-xs.length) 0:=by
 simp[List.getD_eq_getElem?_getD,List.getElem?_append_right h]
theorem take_one {xs:List Int} {k:Nat} (hk:k<xs.length):xs.take (k+1)=xs.take k ++ [xs.getD k 0]:=by
 rw[List.take_add_one,List.getElem?_eq_getElem hk,List.getD_eq_getElem?_getD,List.getElem?_eq_getElem hk]
 rfl
def arr (K:IntKind)(l:List Int):Array Value:=(l.map (Value.int K)).toArray
theorem dW (l:List Int):(arr K l).size=l.length:=by simp[arr]
def bS (K:IntKind)(T:TypeId)(w:World)(b:Nat)(l:List Int):Prop:=w.heap[b]? = some (.cells (arr K l) T (0,0))
theorem bS.below {w w':World} {b:Nat} {l:List Int} (h:bS K T w b l)(hb:Below w.heap.size w w'):bS K T w' b l:=
 (hb.block b (Array.getElem?_eq_some_iff.1 h).1).trans h
theorem bS.keepB {w w':World} {b B:Nat} {l:List Int} (h:bS K T w b l)(hlt:b<B)(hb:Below B w w'):bS K T w' b l:=(hb.block b hlt).trans h
theorem bS.lt {w:World} {b:Nat} {l:List Int} (h:bS K T w b l):b<w.heap.size:=(Array.getElem?_eq_some_iff.1 h).1
theorem Al {l:List Int} {j:Nat} (hj:j<l.length):(arr K l)[j]? = some (.int K (l.getD j 0)):=by
 simp[arr,List.getD_eq_getElem?_getD,List.getElem?_eq_getElem hj]
theorem bS.cell {w:World} {b j:Nat} {l:List Int} (h:bS K T w b l)(hj:j<l.length):w.cell? ⟨b,j,none⟩=some (.int K (l.getD j 0)):=(au h j).trans (Al hj)
theorem bS.free {w:World} {b:Nat} {l:List Int} (h:bS K T w b l)(j:Nat):w.frozen? ⟨b,j,none⟩=false:=ay h j
theorem TN {l:List Int} {j:Nat} {v:Int} :(arr K l).setIfInBounds j (.int K v)=arr K (l.set j v):=by
 apply Array.ext'
 simp[arr,List.map_set]
theorem bS.set {w:World} {b j:Nat} {l:List Int} {v:Int} (h:bS K T w b l):bS K T (w.setCell ⟨b,j,none⟩ (.int K v)) b (l.set j v):=by
 unfold bS;rw[heap_setCell_same w b j _ T _ h,TN]
theorem bS.set_ne {w:World} {b a j:Nat} {l:List Int} {v:Value} (h:bS K T w b l)(hne:b≠a):bS K T (w.setCell ⟨a,j,none⟩ v) b l:=
 (heap_setCell_other w _ b v hne).trans h
theorem bS.setRow {w:World} {b:Nat} {l l':List Int} (h:bS K T w b l):bS K T (w.setRow b (arr K l')) b l':=setRow_heap w b _ _ T _ h
theorem bS.setRow_ne {w:World} {b a:Nat} {l:List Int} {cs:Array Value} (h:bS K T w b l)(hne:b≠a):bS K T (w.setRow a cs) b l:=(setRow_other w a b cs hne).trans h
theorem bS.new (w:World)(l:List Int):bS K T (w.alloc (.cells (arr K l) T)) w.heap.size l:=heap_alloc_new _ _
theorem bS.old {w:World} {b:Nat} {l:List Int} (h:bS K T w b l)(o:Obj):bS K T (w.alloc o) b l:=(Below.heap_alloc w o b h.lt).trans h
theorem bS.drew {w:World} {b:Nat} {l:List Int} (h:bS K T w b l)(n:Nat):bS K T (w.drewN n) b l:=h.below (aI (Below.refl _ _) n)
theorem bS.sk {w:World} {b:Nat} {l:List Int} (h:bS K T w b l):Sk K w (some ⟨b,0,none⟩) l:=fun j hj=>⟨b,0,rfl,by rw[Nat.zero_add];exact h.cell hj⟩
theorem bS.grown {w w1:World} {row:Option Nat} {b:Nat} {l:List Int} (h:bS K T w b l)(hg:w.grownBy w1 row)(hne:row≠some b):bS K T w1 b l:=(hg.block b h.lt (Ne.symm hne)).trans h
theorem dG (l:List Int):(arr K l).all (·.oneCell')=true:=by simp[arr,Value.oneCell']
theorem aj {B b:Nat} {w0 w:World} {cs:Array Value} (h:Below B w0 w)(hb:B≤b):Below B w0 (w.setRow b cs):=
 h.trans ⟨rfl,rfl,rfl,by simp[World.setRow],fun k hk=>setRow_other w b k cs (by omega)⟩
end Go.Proofs.YtchcllcbknfikaaGreatDoor
namespace Go.Proofs.YtchcllcbknfikaaGreatDoor
open Go.RowKit
theorem abj:∀n:Nat,n<32→1≤n→bits .and .u64 (IntKind.u64.wrap (-(n:Int))) 31=32-(n:Int):=by decide
theorem jI (x:Int):IntKind.u32.wrap x=x%4294967296:=by simp[IntKind.wrap,IntKind.bits,IntKind.signed]
theorem RV (x m s:Int)(n:Nat)(hs:Hid (bits .and .u64 (IntKind.u64.wrap m) 31=s))(hn:Hid (s=32-n))(h0:0≤s)(h1:s≤31)(w:World) :
  Calls Tryz.prog 255 #[.int .u32 x, .int .i64 m] w fun e w'=>e = .returned (.int .u32 (jo x n))∧w=w':=by
 have g1:IntKind.u64.wrap (32-s)=32-s:=by simp[IntKind.wrap,IntKind.bits,IntKind.signed];omega
 have g2:0≤32-s:=by omega
 have hs':=hs.out
 have HR:Hid (bits .or .u32 (x*2 ^ s.toNat%4294967296) (x / 2 ^ (32-s).toNat)=jo x n):=aa (by
  have e1:s.toNat=32-n:=by have:=hn.out;omega
  have e2:(32-s).toNat=n:=by have:=hn.out;omega
  rw[e1,e2,jo,EK,jI])
 clear hs hn;go_in;go_wp2;go_ret;exact⟨by rw[HR.out];rfl,rfl⟩
theorem m_ (x N:Int)(n:Nat)(hN:N=n)(h1:1≤n)(h2:n<32)(w:World) :
  Calls Tryz.prog 237 #[.int .u32 x, .int .i64 N] w fun e w'=>e = .returned (.int .u32 (jo x n))∧w=w':=by
 subst hN;have HS:=aa (abj n h2 h1);have hm':wrap64 (-(n:Int)) = -(n:Int):=IntWalk.wrap64_in _ (by omega);go_in
 go_wp2_with fail
 refine(RV x _ _ n HS (aa rfl) (by omega) (by omega) _).mono ?_;rintro e w' ⟨rfl,rfl⟩;go_wp2;go_ret;exact⟨rfl,rfl⟩
theorem qH (x N:Int)(n:Nat)(hN:N=n)(h1:1≤n)(h2:n<32)(w:World) :
  Calls Tryz.prog 214 #[.int .u32 x, .int .i64 N] w fun e w'=>e = .returned (.int .u32 (jo x n))∧∃k,w'=w.drewN k:=by
 subst hN;have g2:(0:Int)≤32-n:=by omega
 have g3:(0:Int)≤n:=by omega
 have HR:Hid (bits .or .u32 (x / 2 ^ n) (x*2 ^ (32-n)%4294967296)=jo x n):=aa (by rw[jo,jI]);have hm:IntKind.i64.wrap (32-(n:Int))=32-n:=IntWalk.i64_in _ (by omega);have hm':wrap64 (32-(n:Int))=32-n:=IntWalk.wrap64_in _ (by omega);go_in;go_wp2
 go_quiet (fail)
 go_wp2;go_ret;exact⟨by rw[←HR.out];rfl,nq,rfl⟩
theorem LX (x N:Int)(h1:1≤N)(h2:N<32)(w:World) :
  Calls Tryz.prog 237 #[.int .u32 x, .int .i64 N] w fun e w'=>e = .returned (.int .u32 (jo x N.toNat))∧w=w':=
 m_ x N N.toNat (by omega) (by omega) (by omega) w
theorem Bb (x N:Int)(h1:1≤N)(h2:N<32)(w:World) :
  Calls Tryz.prog 214 #[.int .u32 x, .int .i64 N] w fun e w'=>e = .returned (.int .u32 (jo x N.toNat))∧∃k,w'=w.drewN k:=
 qH x N N.toNat (by omega) (by omega) (by omega) w
end Go.Proofs.YtchcllcbknfikaaGreatDoor
namespace Go.Proofs.YtchcllcbknfikaaGreatDoor
open Go.RowKit sH
theorem Sj {p c:Int} (h0:0≤p)(h1:p<16777216)(c0:0≤c)(c1:c<256):bits .or .u32 (p*256) c=p*256+c:=by
 obtain⟨P,rfl⟩:=Int.eq_ofNat_of_zero_le h0;obtain⟨C,rfl⟩:=Int.eq_ofNat_of_zero_le c0;have e1:((P:Int)*256)=((P*256:Nat):Int):=by omega
 rw[e1,u32_or _ _ (by omega) (by omega) (by omega) (by omega)];have e2:2 ^ 8*P+C=2 ^ 8*P ||| C:=Nat.two_pow_add_eq_or_of_lt (by omega) P
 have e3:P*256 ||| C=P*256+C:=by rw[show P*256=2 ^ 8*P by omega,←e2]
 simp only[Int.toNat_natCast]
 rw[e3]
 omega
def part (b:List Int)(i:Nat):Nat→Int
 | 0=>0
 | m+1=>part b i m*256+rU b (4*i+m)
theorem UF (b:List Int)(i:Nat):part b i 4=Fx b i:=by simp[part,Fx]
theorem Sd {b:List Int} (h:aF b=true)(i m:Nat):0≤part b i m:=by
 induction m with
 | zero=>exact Int.le_refl _
 | succ m ih=>have:=(jH h (4*i+m)).1;simp only[part,rU];omega
theorem Kw {b:List Int} (h:aF b=true)(i m:Nat)(hm:m≤3):part b i m<16777216:=by
 have h0:=jH h (4*i);have h1:=jH h (4*i+1);have h2:=jH h (4*i+2);rcases (show m=0∨m=1∨m=2∨m=3 by omega)with rfl | rfl | rfl | rfl
 · simp[part]
 · simp only[part,rU,Nat.add_zero];omega
 · simp only[part,rU,Nat.add_zero];omega
 · simp only[part,rU,Nat.add_zero];omega
def dL (n:Nat):List Int:=List.replicate n 0
theorem U9:(#[.int .u32 0, .int .u32 0, .int .u32 0, .int .u32 0, .int .u32 0, .int .u32 0, .int .u32 0, .int .u32 0, .int .u32 0, .int .u32 0, .int .u32 0, .int .u32 0, .int .u32 0, .int .u32 0, .int .u32 0, .int .u32 0, .int .u32 0, .int .u32 0, .int .u32 0, .int .u32 0, .int .u32 0, .int .u32 0, .int .u32 0, .int .u32 0, .int .u32 0, .int .u32 0, .int .u32 0, .int .u32 0, .int .u32 0, .int .u32 0, .int .u32 0, .int .u32 0, .int .u32 0, .int .u32 0, .int .u32 0, .int .u32 0, .int .u32 0, .int .u32 0, .int .u32 0, .int .u32 0, .int .u32 0, .int .u32 0, .int .u32 0, .int .u32 0, .int .u32 0, .int .u32 0, .int .u32 0, .int .u32 0, .int .u32 0, .int .u32 0, .int .u32 0, .int .u32 0, .int .u32 0, .int .u32 0, .int .u32 0, .int .u32 0, .int .u32 0, .int .u32 0, .int .u32 0, .int .u32 0, .int .u32 0, .int .u32 0, .int .u32 0, .int .u32 0]:Array Value)=arr .u32 (dL 64):=by rfl
def wz (l:List Int):List Int:=l++dL (64-l.length)
theorem IL {l:List Int} (h:l.length≤64):(wz l).length=64:=by simp[wz,dL];omega
theorem Nj {l:List Int} {x:Int} (h:l.length<64):(wz l).set l.length x=wz (l ++ [x]):=by
 obtain⟨m,hm⟩:∃m,64-l.length=m+1:=⟨63-l.length,by omega⟩;have hm2:64-(l ++ [x]).length=m:=by rw[List.length_append,List.length_singleton];omega
 rw[wz,wz,hm,hm2,dL,List.replicate_succ,List.set_append_right _ _ (Nat.le_refl _),Nat.sub_self,List.set_cons_zero]
 simp[dL]
theorem Zx {l:List Int} :(wz l).getD l.length 0=0:=by
 rw[wz,Jw (Nat.le_refl _),Nat.sub_self,dL,List.getD_eq_getElem?_getD,List.getElem?_replicate]
 split <;> rfl
theorem Vq {l:List Int} {j:Nat} (h:j<l.length):(wz l).getD j 0=l.getD j 0:=Jy h
theorem set_self {l:List Int} {k:Nat} {x:Int} (h:l.getD k 0=x):l.set k x=l:=by
 by_cases hk:k<l.length
 ·
  rw[List.getD_eq_getElem?_getD,List.getElem?_eq_getElem hk]at h;subst h;exact List.set_getElem_self hk
 · exact List.set_eq_of_length_le (by omega)
theorem GR {l:List Int} {k:Nat} {x:Int} (h:k<l.length):(l.set k x).getD k 0=x:=by
 simp[List.getD_eq_getElem?_getD,h]
theorem Nk (b:List Int):wz (oN 48 (dO b 16))=dY b:=by
 have h:=kG b;unfold dY at h ⊢;unfold wz;rw[h]
 simp[dL]
theorem Wz:(Tryz.prog.info? 247).map (·.size)=some 64:=by kernel_rfl
theorem rC (b:List Int):(Tryz.prog.info? 247).map (·.size)=some (arr .u32 (dY b)).size:=Wz.trans (congrArg some (by rw[dW,kG]))
theorem FY (b:List Int):(arr .u32 (dL 64)).size=(arr .u32 (dY b)).size:=by rw[dW,dW,kG];rfl
theorem LG (b o cap:Nat)(blk:List Int)(hlen:Hid (blk.length=64))(hby:Hid (aF blk=true))(w:World)(hs:Hid (Sk .u8 w (some ⟨b,o,none⟩) blk))(hcap:64≤cap)(hcm:cap≤9223372036854775807) :
  Calls Tryz.prog 236 #[.slice (some ⟨b,o,none⟩) 64 cap] w (Rt w (.agg (arr .u32 (dY blk)))):=by
 obtain⟨W,hW⟩:∃W,(w.alloc (.cells #[.int .u32 0, .int .u32 0, .int .u32 0, .int .u32 0, .int .u32 0, .int .u32 0, .int .u32 0, .int .u32 0, .int .u32 0, .int .u32 0, .int .u32 0, .int .u32 0, .int .u32 0, .int .u32 0, .int .u32 0, .int .u32 0, .int .u32 0, .int .u32 0, .int .u32 0, .int .u32 0, .int .u32 0, .int .u32 0, .int .u32 0, .int .u32 0, .int .u32 0, .int .u32 0, .int .u32 0, .int .u32 0, .int .u32 0, .int .u32 0, .int .u32 0, .int .u32 0, .int .u32 0, .int .u32 0, .int .u32 0, .int .u32 0, .int .u32 0, .int .u32 0, .int .u32 0, .int .u32 0, .int .u32 0, .int .u32 0, .int .u32 0, .int .u32 0, .int .u32 0, .int .u32 0, .int .u32 0, .int .u32 0, .int .u32 0, .int .u32 0, .int .u32 0, .int .u32 0, .int .u32 0, .int .u32 0, .int .u32 0, .int .u32 0, .int .u32 0, .int .u32 0, .int .u32 0, .int .u32 0, .int .u32 0, .int .u32 0, .int .u32 0, .int .u32 0] 247)).alloc (.cells #[.int .u32 0, .int .u32 0, .int .u32 0, .int .u32 0, .int .u32 0, .int .u32 0, .int .u32 0, .int .u32 0, .int .u32 0, .int .u32 0, .int .u32 0, .int .u32 0, .int .u32 0, .int .u32 0, .int .u32 0, .int .u32 0, .int .u32 0, .int .u32 0, .int .u32 0, .int .u32 0, .int .u32 0, .int .u32 0, .int .u32 0, .int .u32 0, .int .u32 0, .int .u32 0, .int .u32 0, .int .u32 0, .int .u32 0, .int .u32 0, .int .u32 0, .int .u32 0, .int .u32 0, .int .u32 0, .int .u32 0, .int .u32 0, .int .u32 0, .int .u32 0, .int .u32 0, .int .u32 0, .int .u32 0, .int .u32 0, .int .u32 0, .int .u32 0, .int .u32 0, .int .u32 0, .int .u32 0, .int .u32 0, .int .u32 0, .int .u32 0, .int .u32 0, .int .u32 0, .int .u32 0, .int .u32 0, .int .u32 0, .int .u32 0, .int .u32 0, .int .u32 0, .int .u32 0, .int .u32 0, .int .u32 0, .int .u32 0, .int .u32 0, .int .u32 0] 247)=W:=⟨_,rfl⟩;have cu:Hid (Below w.heap.size w W):=aa (by rw[←hW];exact aO (Below.refl _ _))
 have HB0:Hid (bS .u32 247 W (w.heap.size+1) (wz (dO blk 0))):=aa (by
  rw[←hW,U9]
  exact heap_alloc2_new _ _ _)
 have fH:Hid (bS .u32 247 W w.heap.size (dL 64)):=aa (by
  rw[←hW,U9]
  exact heap_alloc2_old _ _ _)
 have l8:Hid (W.heap.size=w.heap.size+2):=aa (by rw[←hW];simp);have HS:=aa hs.out;have HW:=aa hW;clear hW hs;go_in;go_wp2;rw[HW.out]
 go_loopw [12] (fun i wr=>∃k:Nat,k≤16∧i = .int .i64 k∧Hid (bS .u32 247 wr (w.heap.size+1) (wz (dO blk k)))∧Hid (Below (w.heap.size+1) W wr)) (fun i _=>16-(intOf i).toNat)
 case atStart=>exact⟨0,by omega,rfl,HB0,aa (Below.refl _ _)⟩
 case round=>
  obtain⟨k,hk,rfl,HB,aD⟩:=hrel
  by_cases hlt:k<16
  ·
   clear HW
   have CP:Hid (bS .u32 247 wr (w.heap.size+1) ((wz (dO blk k)).set k (part blk k 0))):=aa (by
    rw[set_self (by have:=Zx (l:=dO blk k);rwa [gu]at this)]
    exact HB.out)
   go_wp2
   go_loopw [23] (fun j u=>∃m:Nat,m≤4∧j = .int .i64 m∧Hid (bS .u32 247 u (w.heap.size+1) ((wz (dO blk k)).set k (part blk k m)))∧Hid (Below (w.heap.size+1) W u)) (fun j _=>4-(intOf j).toNat)
   case atStart=>exact⟨0,by omega,rfl,CP,aD⟩
   case round=>
    obtain⟨m,hm,rfl,wL,oJ⟩:=hrel
    by_cases hlm:m<4
    ·
     have hc0:=wL.out.cell (j:=k) (by rw[List.length_set,IL (by rw[gu];omega)];omega);rw[GR (by rw[IL (by rw[gu];omega)];omega)]at hc0;have hf0:=wL.out.free k;have hc1:=(HS.out.below (cu.out.trans (oJ.out.mono (Nat.le_succ _)))).cell (j:=4*k+m) (by have:=hlen.out;omega);obtain⟨c0,c1⟩:=jH hby.out (4*k+m);have hpn:part blk k (m+1)=part blk k m*256+blk.getD (4*k+m) 0:=rfl;have p0:=Sd hby.out k m;have p1:=Kw hby.out k m (by omega);obtain⟨c,hcc⟩:∃c,blk.getD (4*k+m) 0=c:=⟨_,rfl⟩;rw[hcc]at hc1 c0 c1 hpn;rw[←Nat.add_assoc]at hc1;obtain⟨p,hp⟩:∃p,part blk k m=p:=⟨_,rfl⟩;rw[hp]at hc0 p0 p1 hpn;have hor:=Sj p0 p1 c0 c1;obtain⟨q,hq⟩:∃q,p*256+c=q:=⟨_,rfl⟩;rw[hq]at hor hpn
     have HB2:Hid (bS .u32 247 (wr.setCell ⟨w.heap.size+1,k,none⟩ (.int .u32 q)) (w.heap.size+1) ((wz (dO blk k)).set k (part blk k (m+1)))):=aa (by
      rw[hpn];have h:=wL.out.set (j:=k) (v:=q)
      rwa [List.set_set]at h)
     have Ca:Hid (Below (w.heap.size+1) W (wr.setCell ⟨w.heap.size+1,k,none⟩ (.int .u32 q))):=aa (oJ.out.setCell (Nat.le_refl _) _);clear hcc hp hq hpn wL oJ;go_wp2
     go_roundw
     case rel=>exact⟨m+1,by omega,by go_num,HB2,Ca⟩
     case measure=>simp[intOf];omega
    ·
     obtain rfl:m=4:=by omega
     have HB2:Hid (bS .u32 247 wr (w.heap.size+1) (wz (dO blk (k+1)))):=aa (by
      have h:=wL.out;have e:=Nj (l:=dO blk k) (x:=Fx blk k) (by rw[gu];omega);rw[gu]at e;rw[UF,e,←zb]at h
      exact h)
     clear wL;go_wp2
     go_roundw
     case rel=>exact⟨k+1,by omega,by go_num,HB2,oJ⟩
     case measure=>simp[intOf];omega
  ·
   obtain rfl:k=16:=by omega
   clear HW hlt;have af2:Hid (bS .u32 247 wr (w.heap.size+1) (wz (oN (16-16) (dO blk 16)))):=aa (by rw[show 16-16=0 from rfl,oN];exact HB.out);clear HB;go_wp2;rw[show(((16:Nat):Int))=16 from rfl]
   go_loopw [7] (fun i u=>∃t:Nat,16≤t∧t≤64∧i = .int .i64 t∧Hid (bS .u32 247 u (w.heap.size+1) (wz (oN (t-16) (dO blk 16))))∧Hid (Below (w.heap.size+1) W u)) (fun i _=>64-(intOf i).toNat)
   case atStart=>exact⟨16,by omega,by omega,rfl,af2,aD⟩
   case round=>
    obtain⟨t,ht0,ht,rfl,QZ,oJ⟩:=hrel
    by_cases hlt:t<64
    ·
     obtain⟨L,hL⟩:∃L,oN (t-16) (dO blk 16)=L:=⟨_,rfl⟩;have hLn:L.length=t:=by rw[←hL,AQ,gu];omega
     have hwz:(wz L).length=64:=IL (by omega);rw[hL]at QZ;have Xk:=QZ.out.cell (j:=t-15) (by omega);have h2:=QZ.out.cell (j:=t-2) (by omega);have h16:=QZ.out.cell (j:=t-16) (by omega);have h7:=QZ.out.cell (j:=t-7) (by omega);have ht0':=QZ.out.cell (j:=t) (by omega);have hfr:=QZ.out.free t;rw[Vq (by omega)]at Xk h2 h16 h7
     have hnx:oN (t+1-16) (dO blk 16)=L ++ [add32 (add32 (add32 (L.getD (t-16) 0) (Vz (L.getD (t-15) 0))) (L.getD (t-7) 0)) (Vy (L.getD (t-2) 0))]:=by
      rw[show t+1-16=(t-16)+1 by omega,oN,hL,Np,hLn]
     obtain⟨Lu,e15⟩:∃x,L.getD (t-15) 0=x:=⟨_,rfl⟩;obtain⟨x2,e2⟩:∃x,L.getD (t-2) 0=x:=⟨_,rfl⟩;obtain⟨YW,e16⟩:∃x,L.getD (t-16) 0=x:=⟨_,rfl⟩;obtain⟨x7,e7⟩:∃x,L.getD (t-7) 0=x:=⟨_,rfl⟩;rw[e15]at Xk hnx;rw[e2]at h2 hnx;rw[e16]at h16 hnx;rw[e7]at h7 hnx;have IC:=aa hnx;have tC:=aa hLn;have i15:((t:Int)-15).toNat=t-15:=by omega
     have i2:((t:Int)-2).toNat=t-2:=by omega
     have i16:((t:Int)-16).toNat=t-16:=by omega
     have i7:((t:Int)-7).toNat=t-7:=by omega
     have j15:(0:Int)≤(t:Int)-15:=by omega
     have j2:(0:Int)≤(t:Int)-2:=by omega
     have j16:(0:Int)≤(t:Int)-16:=by omega
     have j7:(0:Int)≤(t:Int)-7:=by omega
     clear hnx e15 e2 e16 e7 hL hLn hwz;go_wp2
     go_quiet (fail)
     have Ca:=aa (aI oJ.out nq);have acm:=aa (QZ.out.drew nq);obtain⟨w2,hw2⟩:∃u,wr.drewN nq=u:=⟨_,rfl⟩;rw[hw2]at Ca acm;have HW2:=aa hw2;have g16:w2.cell? ⟨w.heap.size+1,t-16,none⟩=some (.int .u32 YW):=by rw[←hw2];simpa using h16
     have g7:w2.cell? ⟨w.heap.size+1,t-7,none⟩=some (.int .u32 x7):=by rw[←hw2];simpa using h7
     have gt:w2.cell? ⟨w.heap.size+1,t,none⟩=some (.int .u32 ((wz L).getD t 0)):=by rw[←hw2];simpa using ht0'
     have gf:w2.frozen? ⟨w.heap.size+1,t,none⟩=false:=by rw[←hw2];simpa using hfr
     clear hw2 Xk h2 h16 h7 ht0' hfr oJ QZ
     go_wp2_with fail
     rw[HW2.out];refine(m_ Lu 7 7 rfl (by decide) (by decide) _).mono ?_;rintro e w' ⟨rfl,rfl⟩
     go_wp2_with fail
     refine(m_ Lu 18 18 rfl (by decide) (by decide) _).mono ?_;rintro e w' ⟨rfl,rfl⟩
     go_wp2_with fail
     refine(m_ x2 17 17 rfl (by decide) (by decide) _).mono ?_;rintro e w' ⟨rfl,rfl⟩
     go_wp2_with fail
     refine(m_ x2 19 19 rfl (by decide) (by decide) _).mono ?_;rintro e w' ⟨rfl,rfl⟩;obtain⟨r7,WK⟩:∃r,jo Lu 7=r:=⟨_,rfl⟩;obtain⟨r18,Jo⟩:∃r,jo Lu 18=r:=⟨_,rfl⟩;obtain⟨r17,Jp⟩:∃r,jo x2 17=r:=⟨_,rfl⟩;obtain⟨r19,Jn⟩:∃r,jo x2 19=r:=⟨_,rfl⟩;rw[WK,Jo,Jp,Jn];obtain⟨s0,hs0⟩:∃r,bits .xor .u32 (bits .xor .u32 r7 r18) (Lu / 8)=r:=⟨_,rfl⟩;obtain⟨s1,hs1⟩:∃r,bits .xor .u32 (bits .xor .u32 r17 r19) (x2 / 1024)=r:=⟨_,rfl⟩;have ES0:Hid (Vz Lu=s0):=aa (by rw[Vz,WK,Jo,hs0]);have ES1:Hid (Vy x2=s1):=aa (by rw[Vy,Jp,Jn,hs1]);clear WK Jo Jp Jn;go_wp2;clear hs0 hs1;obtain⟨V,hV⟩:∃V,(YW+s0+x7+s1)%4294967296=V:=⟨_,rfl⟩;have HV:=aa hV
     have HN:Hid (oN (t+1-16) (dO blk 16)=L ++ [V]):=aa (by
      rw[IC.out,ES0.out,ES1.out,←hV]
      simp only[add32,jI]
      congr 2
      omega)
     have HB3:Hid (bS .u32 247 (w2.setCell ⟨w.heap.size+1,t,none⟩ (.int .u32 V)).drew (w.heap.size+1) (wz (oN (t+1-16) (dO blk 16)))):=aa (by
      rw[HN.out];have h:=acm.out.set (j:=t) (v:=V);have e:=Nj (l:=L) (x:=V) (by have:=tC.out;omega);rw[tC.out]at e;rw[e]at h
      exact h)
     have M3:Hid (Below (w.heap.size+1) W (w2.setCell ⟨w.heap.size+1,t,none⟩ (.int .u32 V)).drew):=aa (Ca.out.setCell (Nat.le_refl _) _).drew;clear hV
     go_region
     rw[HV.out];clear g16 g7 gt gf;go_wp2
     go_roundw
     case rel=>exact⟨t+1,by omega,by omega,by go_num,HB3,M3⟩
     case measure=>simp[intOf];omega
    ·
     have M4:Hid (bS .u32 247 wr (w.heap.size+1) (dY blk)):=aa (by
      have h:=QZ.out
      rwa [show t-16=48 by omega,Nk]at h)
     have Ve:Hid (bS .u32 247 wr w.heap.size (dL 64)):=aa (fH.out.keepB (Nat.lt_succ_self _) oJ.out);have gU:Hid (Below w.heap.size w (wr.setRow w.heap.size (arr .u32 (dY blk)))):=aa (aj (cu.out.trans (oJ.out.mono (Nat.le_succ _))) (Nat.le_refl _));have HRR:Hid (bS .u32 247 (wr.setRow w.heap.size (arr .u32 (dY blk))) w.heap.size (dY blk)):=aa (Ve.out.setRow);clear QZ
     go_wp2_with (first
      | ((with_reducible show wpList _ _ _ (⟨some 81,_,_,_,_,_⟩::_) _ _);refine wpList_load_row rfl 247 _ rfl (w.heap.size+1) rfl _ _ _ _ M4.out Tryz.underlying247 rfl (rC blk) ?_)
      | ((with_reducible show wpList _ _ _ (⟨none,_,_,_,_,_⟩::_) _ _);refine wpList_store_row rfl 247 _ _ rfl w.heap.size (arr .u32 (dY blk)) rfl rfl _ _ Ve.out (rC blk) (FY blk) (dG _) ?_))
     exact bodyPost_ret (v:= .agg (arr .u32 (dY blk))) (results_cell_row (p:=2) (ty:=247) rfl _ _ w.heap.size _ _ _ _ rfl HRR.out Tryz.underlying247 rfl (rC blk)) rfl ⟨rfl,gU.out⟩
def bB (w:World):Prop:=(∀k,k<64→w.cell? ⟨5,k,none⟩=some (.int .u32 (KL.getD k 0)))∧(∀k,k<8→w.cell? ⟨4,k,none⟩=some (.int .u32 (st0.list.getD k 0)))
theorem bB.below {w w':World} (h:bB w)(hb:Below w.heap.size w w'):bB w':=⟨fun k hk=>cell_below (h.1 k hk) hb,fun k hk=>cell_below (h.2 k hk) hb⟩
def uy (s v:List Int)(k:Nat):List Int:=(List.range 8).map fun j=>if j<k then add32 (s.getD j 0) (v.getD j 0)else s.getD j 0
theorem uw (s v:List Int)(k:Nat):(uy s v k).length=8:=by simp[uy]
theorem H8 {s v:List Int} {k:Nat} (h:k<8):(uy s v k).getD k 0=s.getD k 0:=by
 simp[uy,List.getD_eq_getElem?_getD,h]
theorem H6 {s v:List Int} {k:Nat} (h:k<8):(uy s v k).set k (add32 (s.getD k 0) (v.getD k 0))=uy s v (k+1):=by
 apply List.ext_getElem?
 intro i
 by_cases hi:i<8
 ·
  by_cases e:k=i
  · subst e;simp[uy,List.getElem?_set,h]
  ·
   have e2:(i<k+1)↔(i<k):=by omega
   simp[uy,List.getElem?_set,hi,e,e2]
 · rw[List.getElem?_eq_none (by rw[List.length_set,uw];omega),List.getElem?_eq_none (by rw[uw];omega)]
theorem DI {s v:List Int} (h:s.length=8):uy s v 0=s:=by
 apply List.ext_getElem?
 intro i
 by_cases hi:i<8
 · simp[uy,hi,h]
 · rw[List.getElem?_eq_none (by rw[uw];omega),List.getElem?_eq_none (by omega)]
theorem H9 (s v:St):uy s.list v.list 8=(TQ s v).list:=rfl
theorem TP (xa xb xc xd xe xf xg xh:Int):(#[.int .u32 xa, .int .u32 xb, .int .u32 xc, .int .u32 xd, .int .u32 xe, .int .u32 xf, .int .u32 xg, .int .u32 xh]:Array Value)=arr .u32 (St.mk xa xb xc xd xe xf xg xh).list:=rfl
theorem Zv:(#[.int .u32 0, .int .u32 0, .int .u32 0, .int .u32 0, .int .u32 0, .int .u32 0, .int .u32 0, .int .u32 0]:Array Value)=arr .u32 (dL 8):=rfl
theorem aan:(Tryz.prog.info? 229).map (·.size)=some 8:=by kernel_rfl
theorem mG (s:St):(Tryz.prog.info? 229).map (·.size)=some (arr .u32 s.list).size:=aan
theorem aao (xa xb xc xd xe xf xg xh:Int):∀k:Nat,k<8→∀w,(Instr.index 229 (.agg #[.int .u32 xa, .int .u32 xb, .int .u32 xc, .int .u32 xd, .int .u32 xe, .int .u32 xf, .int .u32 xg, .int .u32 xh]) (.int .i64 (k:Int))).run Tryz.prog w = .ok (.int .u32 ((St.mk xa xb xc xd xe xf xg xh).list.getD k 0)) w
 | 0,_=>fun w=>by kernel_rfl
 | 1,_=>fun w=>by kernel_rfl
 | 2,_=>fun w=>by kernel_rfl
 | 3,_=>fun w=>by kernel_rfl
 | 4,_=>fun w=>by kernel_rfl
 | 5,_=>fun w=>by kernel_rfl
 | 6,_=>fun w=>by kernel_rfl
 | 7,_=>fun w=>by kernel_rfl
 | k+8,h=>absurd h (by omega)
theorem U5 (e f g:Int):bits .xor .u32 (bits .and .u32 e f) (bits .and .u32 (bits .xor .u32 (if IntKind.u32.signed=true then -1 else IntKind.u32.max) e) g)=chE e f g:=rfl
theorem NF (e:Int):bits .xor .u32 (bits .xor .u32 (jo e 6) (jo e 11)) (jo e 25)=sbE e:=rfl
def VC (e f g h k w:Int):Int:=((h+sbE e+chE e f g+k)%4294967296+w)%4294967296
theorem UD (e f g h k w:Int):((h+sbE e+chE e f g+k)%4294967296+w)%4294967296=VC e f g h k w:=rfl
def ZL (a b c:Int):Int:=(sbA a+maA a b c)%4294967296
theorem Oa (a b c d e f g h k w:Int):ZO ⟨a,b,c,d,e,f,g,h⟩ k w=⟨(VC e f g h k w+ZL a b c)%4294967296,a,b,c,(d+VC e f g h k w)%4294967296,e,f,g⟩:=by
 have hx:R3 ⟨a,b,c,d,e,f,g,h⟩ k w=VC e f g h k w:=by
  simp only[R3,VC,add32,jI]
  omega
 simp only[ZO,hx,ZN,ZL,add32,jI]
theorem D9 {P:Program} {f:FuncId} {args:Array Value} {w:World} {n:Nat} {v:Value}
  (h:Calls P f args (w.drewN n) fun e w'=>e = .returned v∧w.drewN n=w'):Calls P f args (w.drewN n) fun e w''=>e = .returned v∧∃m,w''=w.drewN m:=
 h.mono fun _ _ ⟨he,hm⟩=>⟨he,n,hm.symm⟩
theorem Sv (s:St)(b o cap:Nat)(blk:List Int)(hlen:Hid (blk.length=64))(hby:Hid (aF blk=true))(w:World)(hs:Hid (Sk .u8 w (some ⟨b,o,none⟩) blk))(hcap:64≤cap)(hcm:cap≤9223372036854775807)(hv:Hid (bB w)) :
  Calls Tryz.prog 221 #[.agg (arr .u32 s.list), .slice (some ⟨b,o,none⟩) 64 cap] w (Rt w (.agg (arr .u32 (Gn s blk).list))):=by
 obtain⟨xa,xb,xc,xd,xe,xf,xg,xh⟩:=s;rw[←TP];obtain⟨W,hW⟩:∃W,(w.alloc (.cells #[.int .u32 xa, .int .u32 xb, .int .u32 xc, .int .u32 xd, .int .u32 xe, .int .u32 xf, .int .u32 xg, .int .u32 xh] 229)).alloc (.cells #[.int .u32 0, .int .u32 0, .int .u32 0, .int .u32 0, .int .u32 0, .int .u32 0, .int .u32 0, .int .u32 0] 229)=W:=⟨_,rfl⟩;have cu:Hid (Below w.heap.size w W):=aa (by rw[←hW];exact aO (Below.refl _ _))
 have HB0:Hid (bS .u32 229 W w.heap.size (St.mk xa xb xc xd xe xf xg xh).list):=aa (by
  rw[←hW,TP]
  exact heap_alloc2_old _ _ _)
 have HZ0:Hid (bS .u32 229 W (w.heap.size+1) (dL 8)):=aa (by
  rw[←hW,Zv]
  exact heap_alloc2_new _ _ _)
 have HS:=aa (hs.out.below cu.out);have HV:=aa (hv.out.below cu.out);have HW:=aa hW;have l8:Hid (w.heap.size+2=W.heap.size):=aa (by rw[←hW];simp);clear hW hs hv;go_in
 go_wp2_with fail
 rw[HW.out];refine(LG b o cap blk hlen hby _ HS hcap hcm).mono ?_;rintro e w1 ⟨rfl,hb1⟩;have HB1:=aa (HB0.out.below hb1);have HZ1:=aa (HZ0.out.below hb1);have qV:=aa (HV.out.below hb1);have abE:Hid (w.heap.size+2≤w1.heap.size):=aa (by have:=hb1.size;have:=l8.out;omega);have u_:=aa (ag cu.out hb1);clear hb1 HW
 go_wp2_with ((with_reducible show wpList _ _ _ (⟨none,_,_,_,_,_⟩::_) _ _);refine wpList_store_row rfl 247 _ _ rfl w1.heap.size (arr .u32 (dY blk)) rfl rfl _ _ (heap_alloc_new _ _) (rC blk) (FY blk) (dG _) ?_)
 rw[World.setRow_alloc_new];have YR:=aa (ag u_.out (af w1 (.cells (arr .u32 (dY blk)) 247)));have HB2:=aa (HB1.out.below (af w1 (.cells (arr .u32 (dY blk)) 247)));have HZ2:=aa (HZ1.out.below (af w1 (.cells (arr .u32 (dY blk)) 247)));have zN:=aa (qV.out.below (af w1 (.cells (arr .u32 (dY blk)) 247)));have HW2:Hid (bS .u32 247 (w1.alloc (.cells (arr .u32 (dY blk)) 247)) w1.heap.size (dY blk)):=aa (bS.new _ _);obtain⟨W2,hW2⟩:∃u,w1.alloc (.cells (arr .u32 (dY blk)) 247)=u:=⟨_,rfl⟩;have abD:Hid (w1.heap.size<W2.heap.size):=aa (by rw[←hW2];simp);rw[hW2]at YR HB2 HZ2 zN HW2 ⊢;clear hW2 HB1 HZ1 qV u_ HB0 HZ0 HV HS
 obtain⟨g0,g1,g2,g3,g4,g5,g6,g7⟩:W2.cell? ⟨w.heap.size,0,none⟩=some (.int .u32 xa)∧W2.cell? ⟨w.heap.size,1,none⟩=some (.int .u32 xb)∧W2.cell? ⟨w.heap.size,2,none⟩=some (.int .u32 xc)∧W2.cell? ⟨w.heap.size,3,none⟩=some (.int .u32 xd)∧W2.cell? ⟨w.heap.size,4,none⟩=some (.int .u32 xe)∧W2.cell? ⟨w.heap.size,5,none⟩=some (.int .u32 xf)∧W2.cell? ⟨w.heap.size,6,none⟩=some (.int .u32 xg)∧W2.cell? ⟨w.heap.size,7,none⟩=some (.int .u32 xh):=
  ⟨HB2.out.cell (j:=0) (show 0<8 by decide),HB2.out.cell (j:=1) (show 1<8 by decide),HB2.out.cell (j:=2) (show 2<8 by decide),HB2.out.cell (j:=3) (show 3<8 by decide),HB2.out.cell (j:=4) (show 4<8 by decide),HB2.out.cell (j:=5) (show 5<8 by decide),HB2.out.cell (j:=6) (show 6<8 by decide),HB2.out.cell (j:=7) (show 7<8 by decide)⟩
 obtain⟨ws,hws⟩:∃l,dY blk=l:=⟨_,rfl⟩;have HWS:Kp (dY blk=ws):=⟨hws⟩;have Lf:Hid (ws.length=64):=aa (by rw[←hws,kG]);rw[hws]at HW2;rw[hws];clear hws;go_wp2
 go_quiet (fail)
 have Ll:=aa (aI (Below.refl W2.heap.size W2) nq);clear g0 g1 g2 g3 g4 g5 g6 g7;go_wp2
 go_loopw [6,7,8,9,10,11,12,13,37] (fun a b c d e f g h i u=>∃(k:Nat) (ya yb yc yd ye yf yg yh:Int),k≤64∧i = .int .i64 k∧a = .int .u32 ya∧b = .int .u32 yb∧c = .int .u32 yc∧d = .int .u32 yd∧e = .int .u32 ye∧f = .int .u32 yf∧g = .int .u32 yg∧h = .int .u32 yh∧Hid (zB ws ⟨xa,xb,xc,xd,xe,xf,xg,xh⟩ k=⟨ya,yb,yc,yd,ye,yf,yg,yh⟩)∧Hid (Below W2.heap.size W2 u)) (fun _ _ _ _ _ _ _ _ i _=>64-(intOf i).toNat)
 case atStart=>exact⟨0,xa,xb,xc,xd,xe,xf,xg,xh,by omega,rfl,rfl,rfl,rfl,rfl,rfl,rfl,rfl,rfl,aa rfl,Ll⟩
 case round=>
  obtain⟨k,ya,yb,yc,yd,ye,yf,yg,yh,hk,rfl,rfl,rfl,rfl,rfl,rfl,rfl,rfl,rfl,HR,oJ⟩:=hrel
  by_cases hlt:k<64
  ·
   have hk0:=(zN.out.below oJ.out).1 k hlt;have hk1:=(HW2.out.below oJ.out).cell (j:=k) (by have:=Lf.out;omega);have hnx:zB ws ⟨xa,xb,xc,xd,xe,xf,xg,xh⟩ (k+1)=ZO ⟨ya,yb,yc,yd,ye,yf,yg,yh⟩ (KL.getD k 0) (ws.getD k 0):=by rw[zB,HR.out]
   obtain⟨kc,ekc⟩:∃x,KL.getD k 0=x:=⟨_,rfl⟩;obtain⟨wc,ewc⟩:∃x,ws.getD k 0=x:=⟨_,rfl⟩;rw[ekc]at hk0 hnx;rw[ewc]at hk1 hnx;have IC:=aa hnx;clear hnx ekc ewc
   go_wp2_with fail
   go_quiet ((go_at_call 237;exact D9 (LX _ _ (by decide) (by decide) _)))
   rw[U5,NF,UD];obtain⟨X,hX⟩:∃X,VC ye yf yg yh kc wc=X:=⟨_,rfl⟩;rw[hX];have HX:=aa hX;have Ca:=aa (aI oJ.out nq);obtain⟨w3,hw3⟩:∃u,wr.drewN nq=u:=⟨_,rfl⟩;rw[hw3]at Ca ⊢;clear hX hw3 hk0 hk1 oJ
   go_wp2_with fail
   refine(m_ ya 2 2 rfl (by decide) (by decide) _).mono ?_;rintro e w' ⟨rfl,rfl⟩
   go_wp2_with fail
   refine(m_ ya 13 13 rfl (by decide) (by decide) _).mono ?_;rintro e w' ⟨rfl,rfl⟩
   go_wp2_with fail
   refine(m_ ya 22 22 rfl (by decide) (by decide) _).mono ?_;rintro e w' ⟨rfl,rfl⟩;obtain⟨r2,hr2⟩:∃r,jo ya 2=r:=⟨_,rfl⟩;obtain⟨r13,WM⟩:∃r,jo ya 13=r:=⟨_,rfl⟩;obtain⟨r22,WL⟩:∃r,jo ya 22=r:=⟨_,rfl⟩;rw[hr2,WM,WL];obtain⟨Y,hY⟩:∃Y,ZL ya yb yc=Y:=⟨_,rfl⟩;have HY:Kp ((bits .xor .u32 (bits .xor .u32 r2 r13) r22+bits .xor .u32 (bits .xor .u32 (bits .and .u32 ya yb) (bits .and .u32 ya yc)) (bits .and .u32 yb yc))%4294967296=Y):=⟨by rw[←hY,←hr2,←WM,←WL];rfl⟩;have QA:=aa hY
   have HR2:Hid (zB ws ⟨xa,xb,xc,xd,xe,xf,xg,xh⟩ (k+1)=⟨(X+Y)%4294967296,ya,yb,yc,(yd+X)%4294967296,ye,yf,yg⟩):=aa (by
    rw[IC.out,Oa,HX.out,QA.out])
   clear hr2 WM WL hY IC
   go_wp2_with fail
   go_roundw
   case rel=>exact⟨k+1,_,_,_,_,_,_,_,_,by omega,by go_num,rfl,rfl,rfl,rfl,rfl,rfl,rfl,rfl,by rw[HY.out];exact HR2,Ca⟩
   case measure=>simp[intOf];omega
  ·
   have jU:Kp (zB (dY blk) ⟨xa,xb,xc,xd,xe,xf,xg,xh⟩ 64=⟨ya,yb,yc,yd,ye,yf,yg,yh⟩):=⟨by
    have h:=HR.out
    rwa [show k=64 by omega,←HWS.out]at h⟩
   have HB3:Hid (bS .u32 229 wr w.heap.size (uy (St.mk xa xb xc xd xe xf xg xh).list (St.mk ya yb yc yd ye yf yg yh).list 0)):=aa (by
    rw[DI rfl]
    exact HB2.out.below oJ.out)
   have HZ3:=aa (HZ2.out.below oJ.out);have afZ:=aa (ag YR.out oJ.out);clear HR oJ HB2 HZ2 YR HW2 zN Lf HWS Ll;go_wp2
   go_loopw [109] (fun i u=>∃m:Nat,m≤8∧i = .int .i64 m∧Hid (bS .u32 229 u w.heap.size (uy (St.mk xa xb xc xd xe xf xg xh).list (St.mk ya yb yc yd ye yf yg yh).list m))∧Hid (bS .u32 229 u (w.heap.size+1) (dL 8))∧Hid (Below w.heap.size w u)) (fun i _=>8-(intOf i).toNat)
   case atStart=>exact⟨0,by omega,rfl,HB3,HZ3,afZ⟩
   case round=>
    obtain⟨m,hm,rfl,wL,HZm,oJ⟩:=hrel
    by_cases hlm:m<8
    ·
     have hi:=aao ya yb yc yd ye yf yg yh m hlm;have hc:=wL.out.cell (j:=m) (by rw[uw];exact hlm);have hf:=wL.out.free m;rw[H8 hlm]at hc;obtain⟨s0,e0⟩:∃x,(St.mk xa xb xc xd xe xf xg xh).list.getD m 0=x:=⟨_,rfl⟩;obtain⟨v0,e1⟩:∃x,(St.mk ya yb yc yd ye yf yg yh).list.getD m 0=x:=⟨_,rfl⟩;have hst:=H6 (s:=(St.mk xa xb xc xd xe xf xg xh).list) (v:=(St.mk ya yb yc yd ye yf yg yh).list) hlm;rw[e0,e1,add32,jI]at hst;rw[e0]at hc;rw[e1]at hi
     have l5:Hid (bS .u32 229 (wr.setCell ⟨w.heap.size,m,none⟩ (.int .u32 ((s0+v0)%4294967296))) w.heap.size (uy (St.mk xa xb xc xd xe xf xg xh).list (St.mk ya yb yc yd ye yf yg yh).list (m+1))):=aa (by
      rw[←hst]
      exact wL.out.set)
     have HZ4:Hid (bS .u32 229 (wr.setCell ⟨w.heap.size,m,none⟩ (.int .u32 ((s0+v0)%4294967296))) (w.heap.size+1) (dL 8)):=aa (HZm.out.set_ne (by omega));have l9:Hid (Below w.heap.size w (wr.setCell ⟨w.heap.size,m,none⟩ (.int .u32 ((s0+v0)%4294967296)))):=aa (oJ.out.setCell (Nat.le_refl _) _);clear hst e0 e1 wL HZm oJ;go_wp2
     go_roundw
     case rel=>exact⟨m+1,by omega,by go_num,l5,HZ4,l9⟩
     case measure=>simp[intOf];omega
    ·
     obtain⟨T,hT⟩:∃T,TQ ⟨xa,xb,xc,xd,xe,xf,xg,xh⟩ ⟨ya,yb,yc,yd,ye,yf,yg,yh⟩=T:=⟨_,rfl⟩
     have M4:Hid (bS .u32 229 wr w.heap.size T.list):=aa (by
      have h:=wL.out
      rwa [show m=8 by omega,H9,hT]at h)
     have HT:Kp (Gn ⟨xa,xb,xc,xd,xe,xf,xg,xh⟩ blk=T):=⟨by rw[Gn,jU.out,hT]⟩;have HRR:Hid (bS .u32 229 (wr.setRow (w.heap.size+1) (arr .u32 T.list)) (w.heap.size+1) T.list):=aa HZm.out.setRow;have gU:Hid (Below w.heap.size w (wr.setRow (w.heap.size+1) (arr .u32 T.list))):=aa (aj oJ.out (Nat.le_succ _));clear hT jU wL
     go_wp2_with (first
      | ((with_reducible show wpList _ _ _ (⟨some 120,_,_,_,_,_⟩::_) _ _);refine wpList_load_row rfl 229 _ rfl w.heap.size rfl _ _ _ _ M4.out Tryz.underlying229 rfl (mG T) ?_)
      | ((with_reducible show wpList _ _ _ (⟨none,_,_,_,_,_⟩::_) _ _);refine wpList_store_row rfl 229 _ _ rfl (w.heap.size+1) (arr .u32 T.list) rfl rfl _ _ HZm.out (mG T) rfl (dG _) ?_))
     rw[HT.out];exact bodyPost_ret (v:= .agg (arr .u32 T.list)) (results_cell_row (p:=4) (ty:=229) rfl _ _ (w.heap.size+1) _ _ _ _ rfl HRR.out Tryz.underlying229 rfl (mG T)) rfl ⟨rfl,gU.out⟩
end Go.Proofs.YtchcllcbknfikaaGreatDoor
namespace Go.Proofs.YtchcllcbknfikaaGreatDoor
open Go.ChangeShapes Go.WideShapes Go.ChangeAt Go.RowKit sH
theorem PG:Tryz.prog.globalNamed "specie/digest.constants" = some 5:=by kernel_rfl
theorem JA:(Tryz.prog.globals[5]?).map (·.type)=some 247:=by kernel_rfl
theorem PE:Tryz.prog.globalNamed "specie/digest.start" = some 4:=by kernel_rfl
theorem Jz:(Tryz.prog.globals[4]?).map (·.type)=some 229:=by kernel_rfl
theorem JS:Tryz.prog.cellsOf 247=64:=by kernel_rfl
theorem JQ:Tryz.prog.cellsOf 229=8:=by kernel_rfl
theorem Ho:Tryz.prog.cellsOf 209=1:=by kernel_rfl
theorem Cu {W:World} (h:laidMetH Tryz.prog [("math/bits.deBruijn64tab",Rows.laid_math_bits_deBruijn64tab),("specie/prime.bases",Rows.laid_specie_prime_bases),("specie/digest.constants",Rows.laid_specie_digest_constants),("specie/digest.start",Rows.laid_specie_digest_start)] W):Vars W∧bB W:=by
 have h1:laidMet Tryz.prog [("math/bits.deBruijn64tab",Rows.laid_math_bits_deBruijn64tab),("specie/prime.bases",Rows.laid_specie_prime_bases),("specie/digest.constants",Rows.laid_specie_digest_constants),("specie/digest.start",Rows.laid_specie_digest_start)] W:=h;have t1:Lib.TabIs Tryz.prog W "math/bits.deBruijn64tab" .u8 (Lib.deBruijn64tab.map Int.ofNat):=Lib.tabIs_of_head (rest:= [("specie/prime.bases",Rows.laid_specie_prime_bases),("specie/digest.constants",Rows.laid_specie_digest_constants),("specie/digest.start",Rows.laid_specie_digest_start)]) aaS PD Tryz.underlying205 Tryz.underlying5 K_ P_ h1;have t2:Lib.TabIs Tryz.prog W "specie/prime.bases" .u64 [2,3,5,7,11,13,17,19,23,29,31,37]:=Lib.tabIs_of_head (rest:= [("specie/digest.constants",Rows.laid_specie_digest_constants),("specie/digest.start",Rows.laid_specie_digest_start)]) PI JB Tryz.underlying172 Tryz.underlying162 P7 JU h1.tail;have t3:Lib.TabIs Tryz.prog W "specie/digest.constants" .u32 KL:=Lib.tabIs_of_head (rest:= [("specie/digest.start",Rows.laid_specie_digest_start)]) PG JA Tryz.underlying247 Tryz.underlying209 Ho JS h1.tail.tail;have t4:Lib.TabIs Tryz.prog W "specie/digest.start" .u32 st0.list:=Lib.tabIs_of_head (rest:= []) PE Jz Tryz.underlying229 Tryz.underlying209 Ho JQ h1.tail.tail.tail;refine⟨⟨fun k hk=>?_,fun j hj=>?_⟩,fun k hk=>?_,fun k hk=>?_⟩
 · rw[t2.cell PI k hk];rfl
 ·
  rw[t1.cell aaS j (by simpa using hj)];rw[List.getD_eq_getElem?_getD,List.getD_eq_getElem?_getD,List.getElem?_map];rw[List.getElem?_eq_getElem hj]
  rfl
 · rw[t3.cell PG k hk]
 · rw[t4.cell PE k hk]
def OO:Obj→Obj
 | .cells _ t frozen=> .cells (KL.map fun n=>Value.int .u32 n).toArray t frozen
 | o=>o
def OM:Obj→Obj
 | .cells _ t frozen=> .cells (st0.list.map fun n=>Value.int .u32 n).toArray t frozen
 | o=>o
noncomputable def vU (os:Os):World:=
 { World.holding Tryz.prog os ⟨#[],#[], []⟩with heap:=((((World.holding Tryz.prog os ⟨#[],#[], []⟩).heap.modify 0 OQ).modify 3 Ws).modify 5 OO).modify 4 OM }
end Go.Proofs.YtchcllcbknfikaaGreatDoor
namespace Go.Proofs.YtchcllcbknfikaaGreatDoor
open Go.RowKit sH
theorem Eo (P Q G x:Int)(b:Bool)(hb:Hid (aN P Q x=b))(h1:P<2305843009213693952)(Fg:0≤Q)(hQ:Q<9223372036854775808)(w:World) :
  Calls Tryz.prog 268 #[gv P Q G, .int .i64 x] w (Rt w (.bool b)):=by
 by_cases hx:x<1
 ·
  obtain rfl:b=false:=by rw[←hb.out];simp[aN];omega
  go_in;go_wp2;go_ret;exact⟨rfl,af _ _⟩
 ·
  by_cases hx2:P≤x
  ·
   obtain rfl:b=false:=by rw[←hb.out];simp[aN];omega
   go_in;go_wp2;go_ret;exact⟨rfl,af _ _⟩
  ·
   have d1:decide (x<1)=false:=by simp;omega
   have d2:decide (P≤x)=false:=by simp;omega
   obtain⟨y,hy⟩:∃y,pw x Q P=y:=⟨_,rfl⟩
   have g9:((y:Int) == 1)=b:=by
    rw[←hb.out,←hy,aN,Bool.eq_iff_iff]
    simp only[beq_iff_eq,decide_eq_true_eq]
    exact⟨fun h=>⟨by omega,by omega,h⟩,fun h=>h.2.2⟩
   have HX:=aa hy;clear hy hb;go_in
   go_wp2_with fail
   refine(Bj x Q P (by omega) h1 (by omega) (by omega) Fg hQ _).mono ?_;rintro e w' ⟨rfl,n3,rfl⟩;rw[HX.out];go_wp2;go_ret;exact⟨rfl,eD _ _ _⟩
def jc (Q x:Int):Bool:=decide (0≤x)&&decide (x<Q)
theorem NI (P Q G:Int)(a:Nat)(h1:P<2305843009213693952)(Fg:0≤Q)(hQ:Q<9223372036854775808)(W:World)(hx:Hid (qz W a P Q G)) :
  Says 267 #[.pointer (some ⟨a,0,none⟩)] (fun x=> !aN P Q x) W:=fun x w1 hb=>by
 show Calls Tryz.prog 267 #[.int .i64 x, .pointer (some ⟨a,0,none⟩)] w1 fun e w'=>e = .returned (.bool (!aN P Q x))∧Below w1.heap.size w1 w'
 obtain⟨c0,c1,c2⟩:=hx.out.below hb;obtain⟨r,hr⟩:∃r,aN P Q x=r:=⟨_,rfl⟩;have HR:=aa hr;rw[hr];clear hr hb;go_in
 go_wp2_with fail
 refine(Eo P Q G x r HR h1 Fg hQ _).mono ?_;rintro e w2 ⟨rfl,hb0⟩;go_wp2;go_ret;exact⟨rfl,hb0⟩
theorem NH (P Q G:Int)(a:Nat)(W:World)(hx:Hid (qz W a P Q G)) :
  Says 258 #[.pointer (some ⟨a,0,none⟩)] (fun x=> !jc Q x) W:=fun x w1 hb=>by
 show Calls Tryz.prog 258 #[.int .i64 x, .pointer (some ⟨a,0,none⟩)] w1 fun e w'=>e = .returned (.bool (!jc Q x))∧Below w1.heap.size w1 w'
 obtain⟨c0,c1,c2⟩:=hx.out.below hb
 by_cases h0:x<0
 ·
  have e:jc Q x=false:=by simp[jc];omega
  rw[e];have d0:decide (x<0)=true:=by simp;omega
  clear hb e;go_in;go_wp2;go_ret;exact⟨rfl,Below.refl _ _⟩
 ·
  have d0:decide (x<0)=false:=by simp;omega
  obtain⟨t,ht⟩:∃t,decide (Q≤x)=t:=⟨_,rfl⟩
  have e:jc Q x = !t:=by
   rw[←ht,jc,decide_eq_true (show(0:Int)≤x by omega),Bool.true_and,←decide_not];exact decide_eq_decide.2 (by omega)
  rw[e,Bool.not_not];clear hb e;go_in;go_wp2;go_ret;exact⟨by first | rfl | rw[ht],Below.refl _ _⟩
theorem uu {f:Int→Bool} {xs:List Int} :(xs.any fun x=> !f x) = !(xs.all f):=by
 induction xs with
 | nil=>rfl
 | cons x xs ih=>rw[List.any_cons,List.all_cons,ih,Bool.not_and]
theorem lS (P Q G:Int)(A:Option Addr)(xs:List Int)(n c:Nat)(r:Bool)(hr:Hid (xs.all (aN P Q)=r))(hn:Hid (xs.length=n))(hbig:Hid (n<1000000))(h1:P<2305843009213693952)(Fg:0≤Q)(hQ:Q<9223372036854775808)(w:World)(hs:Hid (Sl w A xs)) :
  Calls Tryz.prog 256 #[gv P Q G, .slice A n c] w (Rt w (.bool r)):=by
 have HX0:=aa (bD w P Q G);have Lh:=aa (hs.out.below (af w (bg P Q G)));have XX:=aa (NI P Q G w.heap.size h1 Fg hQ _ HX0);have HP:Hid ((xs.any fun x=> !aN P Q x) = !r):=aa (by rw[uu,hr.out]);clear hs;go_in
 go_wp2_with fail
 refine(XA (.pointer (some ⟨w.heap.size,0,none⟩)) (fun x=> !aN P Q x) (!r) A xs n c HP hn hbig _ Lh XX).mono ?_;rintro e w1 ⟨rfl,hb0⟩;have hb1:=ag (af _ _) hb0;clear hb0;go_wp2;go_ret;exact⟨by simp,hb1⟩
theorem mX (P Q G:Int)(A:Option Addr)(xs:List Int)(n c:Nat)(r:Bool)(hr:Hid (xs.all (jc Q)=r))(hn:Hid (xs.length=n))(hbig:Hid (n<1000000))(w:World)(hs:Hid (Sl w A xs)) :
  Calls Tryz.prog 240 #[gv P Q G, .slice A n c] w (Rt w (.bool r)):=by
 have HX0:=aa (bD w P Q G);have Lh:=aa (hs.out.below (af w (bg P Q G)));have XX:=aa (NH P Q G w.heap.size _ HX0);have HP:Hid ((xs.any fun x=> !jc Q x) = !r):=aa (by rw[uu,hr.out]);clear hs;go_in
 go_wp2_with fail
 refine(Xz (.pointer (some ⟨w.heap.size,0,none⟩)) (fun x=> !jc Q x) (!r) A xs n c HP hn hbig _ Lh XX).mono ?_;rintro e w1 ⟨rfl,hb0⟩;have hb1:=ag (af _ _) hb0;clear hb0;go_wp2;go_ret;exact⟨by simp,hb1⟩
structure Row where
 p:Option Addr
 n:Nat
 c:Nat
 xs:List Int
abbrev Row.val (r:Row):Value:= .slice r.p r.n r.c
abbrev dI:Row:=⟨none,0,0, []⟩
def BQ (w:World)(r:Row):Prop:=r.xs.length=r.n∧Sl w r.p r.xs
theorem BQ.below {w w':World} {r:Row} (h:BQ w r)(hb:Below w.heap.size w w'):BQ w' r:=⟨h.1,h.2.below hb⟩
def Rw (w:World)(A:Option Addr)(rs:List Row):Prop:=∀k,k<rs.length→(∃b o,A=some ⟨b,o,none⟩∧w.cell? ⟨b,o+k,none⟩=some (rs.getD k dI).val)∧BQ w (rs.getD k dI)
theorem Rw.below {w w':World} {A:Option Addr} {rs:List Row} (h:Rw w A rs)(hb:Below w.heap.size w w'):Rw w' A rs:=fun k hk=>by
 obtain⟨⟨b,o,h1,h2⟩,h3⟩:=h k hk;exact⟨⟨b,o,h1,(hb.cell (World.block_lt_of_cell? _ _ h2)).trans h2⟩,h3.below hb⟩
def Qv (g:FuncId)(caps:Array Value)(p:Row→Bool)(W:World):Prop:=
 ∀(r:Row) (w1:World),Below W.heap.size W w1→BQ w1 r→Calls Tryz.prog g (#[r.val]++caps) w1 fun e w'=>e = .returned (.bool (p r))∧Below w1.heap.size w1 w'
theorem MO {f:Row→Bool} {xs:List Row} {k:Nat} (hk:k<xs.length)(h:f (xs.getD k dI)=false):(xs.drop k).any f=(xs.drop (k+1)).any f:=by
 rw[List.drop_eq_getElem_cons hk,List.any_cons];rw[List.getD_eq_getElem?_getD,List.getElem?_eq_getElem hk]at h
 simp at h
 rw[h,Bool.false_or]
theorem Qp {f:Row→Bool} {xs:List Row} {k:Nat} (hk:k<xs.length)(h:f (xs.getD k dI)=true):(xs.drop k).any f=true:=by
 rw[List.drop_eq_getElem_cons hk,List.any_cons];rw[List.getD_eq_getElem?_getD,List.getElem?_eq_getElem hk]at h
 simp at h
 rw[h,Bool.true_or]
def TV (p:Row→Bool)(xs:List Row)(w:World)(e:Ending)(w':World):Prop:=∃i:Int,e = .returned (.int .i64 i)∧decide (0≤i)=xs.any p∧Below w.heap.size w w'
theorem SN (c0:Value)(c1:Value)(p:Row→Bool)(A:Option Addr)(xs:List Row)(n c:Nat)(hn:Hid (xs.length=n))(hbig:Hid (n<1000000))(w:World)(hs:Hid (Rw w A xs))(hp:Hid (Qv 257 #[c0,c1] p w)) :
  Calls Tryz.prog 187 #[.slice A n c, .func (.func 257) #[] #[c0,c1]] w (TV p xs w):=by
 have hn0:n<1000000:=hbig.out;go_in;go_wp2
 go_loopw [8] (fun i wr=>∃k:Nat,k≤n∧i = .int .i64 k∧Hid (xs.any p=(xs.drop k).any p)∧Hid (Below w.heap.size w wr)) (fun i _=>n-(intOf i).toNat)
 case atStart=>exact⟨0,by omega,rfl,aa rfl,aa (Below.refl _ _)⟩
 case round=>
  obtain⟨k,hk,rfl,HR,aD⟩:=hrel
  by_cases hlt:k<n
  ·
   have hkl:k<xs.length:=by rw[hn.out];exact hlt
   obtain⟨⟨b,o,hA,hi⟩,hok⟩:=hs.out.below aD.out k hkl;subst hA
   cases hpx:p (xs.getD k dI)with
   | false=>
    have HN:Hid (xs.any p=(xs.drop (k+1)).any p):=aa (HR.out.trans (MO hkl hpx));obtain⟨x,hx⟩:∃x,xs.getD k dI=x:=⟨_,rfl⟩;rw[hx]at hi hpx hok;have HC:=aa (hp.out x wr aD.out hok);have BX:=aa hpx;obtain⟨xp,xn,xc,xl⟩:=x
    dsimp only[Row.val]at hi
    clear hx hkl hpx HR hok
    go_wp2_with fail
    refine HC.out.mono ?_;rintro e w2 ⟨rfl,hb0⟩;rw[BX.out];have HB2:=aa (ag aD.out hb0);clear hb0;go_wp2
    go_roundw
    case rel=>exact⟨k+1,by omega,by go_num,HN,HB2⟩
    case measure=>simp[intOf];omega
   | true=>
    have HN:Hid (decide ((0:Int)≤(k:Int))=xs.any p):=aa (by rw[HR.out,Qp hkl hpx];simp);obtain⟨x,hx⟩:∃x,xs.getD k dI=x:=⟨_,rfl⟩;rw[hx]at hi hpx hok;have HC:=aa (hp.out x wr aD.out hok);have BX:=aa hpx;obtain⟨xp,xn,xc,xl⟩:=x
    dsimp only[Row.val]at hi
    clear hx hkl hpx HR hok
    go_wp2_with fail
    refine HC.out.mono ?_;rintro e w2 ⟨rfl,hb0⟩;rw[BX.out];have HB2:=aa (ag aD.out hb0);clear hb0;go_wp2;go_ret;exact⟨k,rfl,HN.out,HB2.out⟩
  ·
   obtain rfl:k=n:=by omega
   have HN:Hid (decide ((0:Int)≤(-1:Int))=xs.any p):=aa (by rw[HR.out,←hn.out];simp);clear HR hlt;go_wp2;go_ret;exact⟨-1,rfl,HN.out,aD.out⟩
theorem Xx (c0:Value)(c1:Value)(p:Row→Bool)(r:Bool)(A:Option Addr)(xs:List Row)(n c:Nat)(hr:Hid (xs.any p=r))(hn:Hid (xs.length=n))(hbig:Hid (n<1000000))(w:World)(hs:Hid (Rw w A xs))(hp:Hid (Qv 257 #[c0,c1] p w)) :
  Calls Tryz.prog 154 #[.slice A n c, .func (.func 257) #[] #[c0,c1]] w (Rt w (.bool r)):=by
 go_in
 go_wp2_with fail
 refine(SN c0 c1 p A xs n c hn hbig _ hs hp).mono ?_;rintro e w1 ⟨i,rfl,hi,hb1⟩;have hd:decide ((0:Int)≤i)=r:=hi.trans hr.out;clear hi;go_wp2;go_ret;exact⟨by first | rfl | (rw[←hd]) | simp[hd],hb1⟩
abbrev iY (Y:Option Addr)(yn yc:Nat)(B:Option Addr)(bn bc:Nat):Value:= .agg #[.slice Y yn yc, .slice B bn bc]
abbrev lK (Y:Option Addr)(yn yc:Nat)(B:Option Addr)(bn bc:Nat):Obj:= .cells #[.slice Y yn yc, .slice B bn bc] 189
def rX (w:World)(a:Nat)(u v:Value):Prop:=w.cell? ⟨a,0,none⟩=some u∧w.cell? ⟨a,1,none⟩=some v
theorem rX.below {w w':World} {a:Nat} {u v:Value} (h:rX w a u v)(hb:Below w.heap.size w w'):rX w' a u v:=
 ⟨(hb.cell (World.block_lt_of_cell? _ _ h.1)).trans h.1,(hb.cell (World.block_lt_of_cell? _ _ h.2)).trans h.2⟩
theorem F_ (w:World)(T:TypeId)(u v:Value):rX (w.alloc (.cells #[u,v] T)) w.heap.size u v:=⟨World.cell?_alloc_at _ _ _ _ rfl,World.cell?_alloc_at _ _ _ _ rfl⟩
theorem ek (w:World)(o:Obj)(T:TypeId)(u v:Value):rX ((w.alloc o).alloc (.cells #[u,v] T)) (w.heap.size+1) u v:=by
 have e:(w.alloc o).heap.size=w.heap.size+1:=by simp
 rw[←e];exact F_ _ _ _ _
theorem Rw.at {w:World} {b o:Nat} {rs:List Row} (h:Rw w (some ⟨b,o,none⟩) rs) {k:Nat} (hk:k<rs.length):w.cell? ⟨b,o+k,none⟩=some (rs.getD k dI).val:=by
 obtain⟨⟨b',o',h1,h2⟩,_⟩:=h k hk
 cases h1
 exact h2
theorem Rw.head {w:World} {b o:Nat} {rs:List Row} {p:Option Addr} {n c:Nat} {xs:List Int} (h:Rw w (some ⟨b,o,none⟩) rs)(hk:0<rs.length)(e:rs.getD 0 dI=⟨p,n,c,xs⟩):w.cell? ⟨b,o,none⟩=some (.slice p n c):=by
 have h2:=h.at hk;rw[e,Nat.add_zero]at h2;exact h2
theorem Rw.some {w:World} {B:Option Addr} {rs:List Row} (h:Rw w B rs)(hk:0<rs.length):∃b o,B=some ⟨b,o,none⟩:=by
 obtain⟨⟨b,o,h1,_⟩,_⟩:=h 0 hk;exact⟨b,o,h1⟩
def oU (P Q:Int)(n:Nat)(r:Row):Bool:=decide (r.n=n)&&r.xs.all (aN P Q)
def iG (rows:List Row):Nat:=(rows.getD 0 dI).n
def fM (P Q G:Int)(ys:List Int)(rows:List Row):Bool:=
 a_ P Q G&&(decide (1≤ys.length)&&(decide (ys.length≤8)&&(decide (rows.length=ys.length)&&(ys.all (aN P Q)&&(decide (1≤iG rows)&&(decide (iG rows≤12)&&rows.all (oU P Q (iG rows))))))))
theorem mO (Y:Option Addr)(yn yc:Nat)(B:Option Addr)(rows:List Row)(bn bc n:Nat)(hbn:Hid (rows.length=bn))(hpos:0<bn)(hn:Hid (iG rows=n))(w:World)(hB:Hid (Rw w B rows)) :
  Calls Tryz.prog 239 #[iY Y yn yc B bn bc] w (Rt w (.int .i64 n)):=by
 obtain⟨b,o,rfl⟩:=hB.out.some (by rw[hbn.out];exact hpos);obtain⟨R,hR⟩:∃R,rows.getD 0 dI=R:=⟨_,rfl⟩;obtain⟨p,n0,k,xs⟩:=R;obtain rfl:n0=n:=by rw[←hn.out,iG,hR]
 have hc:=(hB.out.below (af w (lK Y yn yc (some ⟨b,o,none⟩) bn bc))).head (by rw[hbn.out];exact hpos) hR;clear hR hB hn;go_in;go_wp2;go_ret;exact⟨rfl,af _ _⟩
theorem iB (Y:Option Addr)(yn yc:Nat)(B:Option Addr)(rows:List Row)(bn bc n:Nat)(hbn:Hid (rows.length=bn))(hpos:0<bn)(hn:Hid (iG rows=n))(w:World)(hB:Hid (Rw w B rows)) :
  Calls Tryz.prog 226 #[iY Y yn yc B bn bc] w (Rt w (.int .i64 n)):=by
 obtain⟨b,o,rfl⟩:=hB.out.some (by rw[hbn.out];exact hpos);obtain⟨R,hR⟩:∃R,rows.getD 0 dI=R:=⟨_,rfl⟩;obtain⟨p,n0,k,xs⟩:=R;obtain rfl:n0=n:=by rw[←hn.out,iG,hR]
 have hc:=(hB.out.below (af w (lK Y yn yc (some ⟨b,o,none⟩) bn bc))).head (by rw[hbn.out];exact hpos) hR;clear hR hB hn;go_in;go_wp2;go_ret;exact⟨rfl,af _ _⟩
theorem RJ (P Q G:Int)(n a g:Nat)(h1:P<2305843009213693952)(Fg:0≤Q)(hQ:Q<9223372036854775808)(aij:n≤12)(W:World)(hn:Hid (W.cell? ⟨a,0,none⟩=some (.int .i64 n)))(hx:Hid (qz W g P Q G)) :
  Qv 257 #[.pointer (some ⟨a,0,none⟩), .pointer (some ⟨g,0,none⟩)] (fun r=> !oU P Q n r) W:=fun r w1 hb hok=>by
 obtain⟨p,m,c,xs⟩:=r;show Calls Tryz.prog 257 #[.slice p m c, .pointer (some ⟨a,0,none⟩), .pointer (some ⟨g,0,none⟩)] w1 fun e w'=>e = .returned (.bool (!oU P Q n ⟨p,m,c,xs⟩))∧Below w1.heap.size w1 w';obtain⟨c0,c1,c2⟩:=hx.out.below hb;have ca:=cell_below hn.out hb;have hl:xs.length=m:=hok.1;have HS:Hid (Sl w1 p xs):=aa hok.2
 by_cases hm:m=n
 ·
  subst hm;obtain⟨r,hr⟩:∃r,xs.all (aN P Q)=r:=⟨_,rfl⟩;have e:oU P Q m ⟨p,m,c,xs⟩=r:=by simp[oU,hr]
  rw[e];have HR:=aa hr;have HL:=aa hl;clear hr hb hok e hl;go_in
  go_wp2_with fail
  refine(lS P Q G p xs m c r HR HL (aa (by omega)) h1 Fg hQ _ HS).mono ?_;rintro e w2 ⟨rfl,hb0⟩;go_wp2;go_ret;exact⟨rfl,hb0⟩
 ·
  have e:oU P Q n ⟨p,m,c,xs⟩=false:=by simp[oU,hm]
  rw[e];have hne:((m:Int) != (n:Int))=true:=by simp;omega
  clear hb hok e hl;go_in;go_wp2;go_ret;exact⟨rfl,Below.refl _ _⟩
theorem EM {f:Row→Bool} {xs:List Row} :(xs.any fun x=> !f x) = !(xs.all f):=by
 induction xs with
 | nil=>rfl
 | cons x xs ih=>rw[List.any_cons,List.all_cons,ih,Bool.not_and]
theorem mF (P Q G:Int)(Y:Option Addr)(ys:List Int)(yn yc:Nat)(B:Option Addr)(rows:List Row)(bn bc:Nat)(r:Bool)(hr:Hid (fM P Q G ys rows=r))(hyn:Hid (ys.length=yn))(hbn:Hid (rows.length=bn))(hQ:Q<9223372036854775808)(w:World)(hv:Hid (Vars w))(hY:Hid (Sl w Y ys))(hB:Hid (Rw w B rows)) :
  Calls Tryz.prog 238 #[gv P Q G,iY Y yn yc B bn bc] w (Rt w (.bool r)):=by
 obtain⟨w0,hW⟩:∃W,(w.alloc (bg P Q G)).alloc (lK Y yn yc B bn bc)=W:=⟨_,rfl⟩;have ai:Hid (Below w.heap.size w w0):=aa (by rw[←hW];exact aO (Below.refl _ _));have HX0:Hid (qz w0 w.heap.size P Q G):=aa (by rw[←hW];exact(bD w P Q G).below (af _ _));have fH:Hid (rX w0 (w.heap.size+1) (.slice Y yn yc) (.slice B bn bc)):=aa (by rw[←hW];exact ek _ _ _ _ _);have zL:Hid (Sl w0 Y ys):=aa (hY.out.below ai.out);have qU:Hid (Rw w0 B rows):=aa (hB.out.below ai.out);have qW:Hid (Vars w0):=aa (hv.out.below ai.out);have HW:=aa hW;clear hW hY hv;have hr':=hr.out;rw[fM,hyn.out,hbn.out]at hr'
 cases hval:a_ P Q G with
 | false=>
  obtain rfl:r=false:=by rw[←hr',hval,Bool.false_and]
  have mR:=aa hval;clear hr hr' hval hB;go_in
  go_wp2_with fail
  rw[HW.out]
  go_wp2_with fail
  refine(dQ P Q G false mR hQ _ qW).mono ?_;rintro e w1 ⟨rfl,hb0⟩;have hb1:=ag (ai.out) hb0;have qV:=aa (qW.out.below hb0);have tq:=aa (HX0.out.below hb0);have HR1:=aa (fH.out.below hb0);have zK:=aa (zL.out.below hb0);have qy:=aa (qU.out.below hb0);clear hb0;obtain⟨c0,c1,c2⟩:=tq.out;obtain⟨d0,d1⟩:=HR1.out;go_wp2;go_ret;exact⟨rfl,hb1⟩
 | true=>
  obtain⟨hp2,hp,hq3,Dl⟩:=bW hval;have mR:=aa hval;rw[hval,Bool.true_and]at hr';clear hval
  by_cases h1:yn<1
  ·
   obtain rfl:r=false:=by rw[←hr',decide_eq_false (show ¬1≤yn by omega)];rfl
   have aeC:decide ((yn:Int)<1)=true:=by simp;omega
   clear hr hr' hB;go_in
   go_wp2_with fail
   rw[HW.out]
   go_wp2_with fail
   refine(dQ P Q G true mR hQ _ qW).mono ?_;rintro e w1 ⟨rfl,hb0⟩;have hb1:=ag (ai.out) hb0;have qV:=aa (qW.out.below hb0);have tq:=aa (HX0.out.below hb0);have HR1:=aa (fH.out.below hb0);have zK:=aa (zL.out.below hb0);have qy:=aa (qU.out.below hb0);clear hb0;obtain⟨c0,c1,c2⟩:=tq.out;obtain⟨d0,d1⟩:=HR1.out;go_wp2;go_ret;exact⟨rfl,hb1⟩
  ·
   rw[decide_eq_true (show 1≤yn by omega),Bool.true_and]at hr';have aeC:decide ((yn:Int)<1)=false:=by simp;omega
   by_cases h2:8<yn
   ·
    obtain rfl:r=false:=by rw[←hr',decide_eq_false (show ¬yn≤8 by omega)];rfl
    have aeB:decide ((8:Int)<(yn:Int))=true:=by simp;omega
    clear hr hr' hB;go_in
    go_wp2_with fail
    rw[HW.out]
    go_wp2_with fail
    refine(dQ P Q G true mR hQ _ qW).mono ?_;rintro e w1 ⟨rfl,hb0⟩;have hb1:=ag (ai.out) hb0;have qV:=aa (qW.out.below hb0);have tq:=aa (HX0.out.below hb0);have HR1:=aa (fH.out.below hb0);have zK:=aa (zL.out.below hb0);have qy:=aa (qU.out.below hb0);clear hb0;obtain⟨c0,c1,c2⟩:=tq.out;obtain⟨d0,d1⟩:=HR1.out;go_wp2;go_ret;exact⟨rfl,hb1⟩
   ·
    rw[decide_eq_true (show yn≤8 by omega),Bool.true_and]at hr';have aeB:decide ((8:Int)<(yn:Int))=false:=by simp;omega
    by_cases h3:¬bn=yn
    ·
     obtain rfl:r=false:=by rw[←hr',decide_eq_false h3];rfl
     have aa_:((bn:Int) != (yn:Int))=true:=by simp;omega
     clear hr hr' hB;go_in
     go_wp2_with fail
     rw[HW.out]
     go_wp2_with fail
     refine(dQ P Q G true mR hQ _ qW).mono ?_;rintro e w1 ⟨rfl,hb0⟩;have hb1:=ag (ai.out) hb0;have qV:=aa (qW.out.below hb0);have tq:=aa (HX0.out.below hb0);have HR1:=aa (fH.out.below hb0);have zK:=aa (zL.out.below hb0);have qy:=aa (qU.out.below hb0);clear hb0;obtain⟨c0,c1,c2⟩:=tq.out;obtain⟨d0,d1⟩:=HR1.out;go_wp2;go_ret;exact⟨rfl,hb1⟩
    ·
     rw[decide_eq_true (show bn=yn by omega),Bool.true_and]at hr';have aa_:((bn:Int) != (yn:Int))=false:=by simp;omega
     obtain rfl:bn=yn:=by omega
     clear aa_ h3
     cases h4:ys.all (aN P Q)with
     | false=>
      obtain rfl:r=false:=by rw[←hr',h4];rfl
      have HE:=aa h4;clear hr hr' hB h4;go_in
      go_wp2_with fail
      rw[HW.out]
      go_wp2_with fail
      refine(dQ P Q G true mR hQ _ qW).mono ?_;rintro e w1 ⟨rfl,hb0⟩;have hb1:=ag (ai.out) hb0;have qV:=aa (qW.out.below hb0);have tq:=aa (HX0.out.below hb0);have HR1:=aa (fH.out.below hb0);have zK:=aa (zL.out.below hb0);have qy:=aa (qU.out.below hb0);clear hb0;obtain⟨c0,c1,c2⟩:=tq.out;obtain⟨d0,d1⟩:=HR1.out
      go_wp2_with fail
      refine(lS P Q G Y ys bn yc false HE hyn (aa (by omega)) hp (by omega) hQ _ zK).mono ?_;rintro e w2 ⟨rfl,hb0⟩;have hb2:=ag hb1 hb0;have zN:=aa (qV.out.below hb0);have Cn:=aa (tq.out.below hb0);have HR2:=aa (HR1.out.below hb0);have QA:=aa (zK.out.below hb0);have ES:=aa (qy.out.below hb0);clear c0 c1 c2 d0 d1 hb0;obtain⟨c0,c1,c2⟩:=Cn.out;obtain⟨d0,d1⟩:=HR2.out;go_wp2;go_ret;exact⟨rfl,hb2⟩
     | true=>
      have HE:=aa h4;rw[h4,Bool.true_and]at hr';obtain⟨b0,o0,rfl⟩:=hB.out.some (by rw[hbn.out];omega);obtain⟨R,hR⟩:∃R,rows.getD 0 dI=R:=⟨_,rfl⟩;obtain⟨p0,n0,k0,x0⟩:=R;have hN:iG rows=n0:=by rw[iG,hR]
      rw[hN]at hr';have hpos:0<rows.length:=by rw[hbn.out];omega
      have agE:0<bn:=by omega
      have HR_:=aa hR;clear hR h4 hB hN
      by_cases h5:n0<1
      ·
       obtain rfl:r=false:=by rw[←hr',decide_eq_false (show ¬1≤n0 by omega)];rfl
       have d5:decide ((n0:Int)<1)=true:=by simp;omega
       clear hr hr';go_in
       go_wp2_with fail
       rw[HW.out]
       go_wp2_with fail
       refine(dQ P Q G true mR hQ _ qW).mono ?_;rintro e w1 ⟨rfl,hb0⟩;have hb1:=ag (ai.out) hb0;have qV:=aa (qW.out.below hb0);have tq:=aa (HX0.out.below hb0);have HR1:=aa (fH.out.below hb0);have zK:=aa (zL.out.below hb0);have qy:=aa (qU.out.below hb0);clear hb0;obtain⟨c0,c1,c2⟩:=tq.out;obtain⟨d0,d1⟩:=HR1.out
       go_wp2_with fail
       refine(lS P Q G Y ys bn yc true HE hyn (aa (by omega)) hp (by omega) hQ _ zK).mono ?_;rintro e w2 ⟨rfl,hb0⟩;have hb2:=ag hb1 hb0;have zN:=aa (qV.out.below hb0);have Cn:=aa (tq.out.below hb0);have HR2:=aa (HR1.out.below hb0);have QA:=aa (zK.out.below hb0);have ES:=aa (qy.out.below hb0);clear c0 c1 c2 d0 d1 hb0;obtain⟨c0,c1,c2⟩:=Cn.out;obtain⟨d0,d1⟩:=HR2.out;have hc0:=ES.out.head hpos HR_.out;have hq:Below w2.heap.size w2 (w2.alloc (.cells #[.int .i64 n0] 3)):=af _ _;have bT:=ag hb2 hq;clear hq;go_wp2;go_ret;exact⟨rfl,bT⟩
      ·
       rw[decide_eq_true (show 1≤n0 by omega),Bool.true_and]at hr';have d5:decide ((n0:Int)<1)=false:=by simp;omega
       by_cases h6:12<n0
       ·
        obtain rfl:r=false:=by rw[←hr',decide_eq_false (show ¬n0≤12 by omega)];rfl
        have d6:decide ((12:Int)<(n0:Int))=true:=by simp;omega
        clear hr hr';go_in
        go_wp2_with fail
        rw[HW.out]
        go_wp2_with fail
        refine(dQ P Q G true mR hQ _ qW).mono ?_;rintro e w1 ⟨rfl,hb0⟩;have hb1:=ag (ai.out) hb0;have qV:=aa (qW.out.below hb0);have tq:=aa (HX0.out.below hb0);have HR1:=aa (fH.out.below hb0);have zK:=aa (zL.out.below hb0);have qy:=aa (qU.out.below hb0);clear hb0;obtain⟨c0,c1,c2⟩:=tq.out;obtain⟨d0,d1⟩:=HR1.out
        go_wp2_with fail
        refine(lS P Q G Y ys bn yc true HE hyn (aa (by omega)) hp (by omega) hQ _ zK).mono ?_;rintro e w2 ⟨rfl,hb0⟩;have hb2:=ag hb1 hb0;have zN:=aa (qV.out.below hb0);have Cn:=aa (tq.out.below hb0);have HR2:=aa (HR1.out.below hb0);have QA:=aa (zK.out.below hb0);have ES:=aa (qy.out.below hb0);clear c0 c1 c2 d0 d1 hb0;obtain⟨c0,c1,c2⟩:=Cn.out;obtain⟨d0,d1⟩:=HR2.out;have hc0:=ES.out.head hpos HR_.out;have hq:Below w2.heap.size w2 (w2.alloc (.cells #[.int .i64 n0] 3)):=af _ _;have bT:=ag hb2 hq;clear hq;go_wp2;go_ret;exact⟨rfl,bT⟩
       ·
        rw[decide_eq_true (show n0≤12 by omega),Bool.true_and]at hr';have d6:decide ((12:Int)<(n0:Int))=false:=by simp;omega
        have HP:Hid ((rows.any fun x=> !oU P Q n0 x) = !r):=aa (by rw[EM,hr']);clear hr hr';go_in
        go_wp2_with fail
        rw[HW.out]
        go_wp2_with fail
        refine(dQ P Q G true mR hQ _ qW).mono ?_;rintro e w1 ⟨rfl,hb0⟩;have hb1:=ag (ai.out) hb0;have qV:=aa (qW.out.below hb0);have tq:=aa (HX0.out.below hb0);have HR1:=aa (fH.out.below hb0);have zK:=aa (zL.out.below hb0);have qy:=aa (qU.out.below hb0);clear hb0;obtain⟨c0,c1,c2⟩:=tq.out;obtain⟨d0,d1⟩:=HR1.out
        go_wp2_with fail
        refine(lS P Q G Y ys bn yc true HE hyn (aa (by omega)) hp (by omega) hQ _ zK).mono ?_;rintro e w2 ⟨rfl,hb0⟩;have hb2:=ag hb1 hb0;have zN:=aa (qV.out.below hb0);have Cn:=aa (tq.out.below hb0);have HR2:=aa (HR1.out.below hb0);have QA:=aa (zK.out.below hb0);have ES:=aa (qy.out.below hb0);clear c0 c1 c2 d0 d1 hb0;obtain⟨c0,c1,c2⟩:=Cn.out;obtain⟨d0,d1⟩:=HR2.out;have hc0:=ES.out.head hpos HR_.out;have hq:Below w2.heap.size w2 (w2.alloc (.cells #[.int .i64 n0] 3)):=af _ _;have hcn:(w2.alloc (.cells #[.int .i64 n0] 3)).cell? ⟨w2.heap.size,0,none⟩=some (.int .i64 n0):=World.cell?_alloc_at _ _ _ _ rfl;have HXn:=aa (Cn.out.below hq);have HWn:=aa (ES.out.below hq);have ad7:=ag hb2 hq;have hRn:=HR2.out.below hq;obtain⟨d2,d3⟩:=hRn;have XX:=aa (RJ P Q G n0 w2.heap.size w.heap.size hp (by omega) hQ (by omega) _ (aa hcn) HXn);have Zn:=aa (Xx (.pointer (some ⟨w2.heap.size,0,none⟩)) (.pointer (some ⟨w.heap.size,0,none⟩)) (fun x=> !oU P Q n0 x) (!r) (some ⟨b0,o0,none⟩) rows bn bc HP hbn (aa (by omega)) _ HWn XX);clear hq
        go_wp2_with fail
        refine Zn.out.mono ?_;rintro e w9 ⟨rfl,hb0⟩;have bT:=ag ad7 hb0;clear hb0;go_wp2;go_ret;exact⟨by simp,bT⟩
end Go.Proofs.YtchcllcbknfikaaGreatDoor
namespace Go.Proofs.YtchcllcbknfikaaGreatDoor
open Go.ChangeShapes Go.WideShapes Go.ChangeAt Go.RowKit sH
section
variable {H : Type} {enc : TypeId × Value → H} {w : World} {base : Nat} {held : Bool}
end
section
variable {H : Type} {enc : TypeId × Value → H} {w : World} {base : Nat} {held : Bool}
theorem Hq:Tryz.prog.cellsOf 24=1:=by kernel_rfl
theorem open_row {n:Nat} {cs:List Value} {x:DataW H × List MemPlace} (h:DataW.trod enc Tryz.prog w base (fun _=>true) held n 24 cs=some x) :
  ∃R:Row,cs = [R.val]∧BQ w R:=by
 rcases open_ints Tryz.underlying24 Tryz.underlying3 nG h with⟨rfl,_⟩ | ⟨a,len,cap,zs,rfl,_,hlc,_,hz,_,hcell,_⟩
 · exact⟨dI,rfl,rfl,fun k hk=>absurd hk (by simp)⟩
 ·
  simp at hz
  refine⟨⟨some a,len,cap,zs.take len⟩,rfl,by show(zs.take len).length=len;rw[List.length_take];omega,fun k hk=>?_⟩
  dsimp only at hk ⊢
  rw[List.length_take]at hk;obtain⟨b,off,rfl,hc⟩:=ints_at hcell (by omega);refine⟨b,off,rfl, ?_⟩;rw[hc k (by omega),List.getD_eq_getElem?_getD,List.getD_eq_getElem?_getD,List.getElem?_take_of_lt (by omega)]
end
theorem BK:Tryz.prog.cellsOf 54=3:=by kernel_rfl
section
variable {H : Type} {enc : TypeId × Value → H} {w : World} {base : Nat} {held : Bool}
end
theorem Qe:Tryz.prog.cellsOf 99=5:=by kernel_rfl
section
variable {H : Type} {enc : TypeId × Value → H} {w : World} {base : Nat} {held : Bool}
end
end Go.Proofs.YtchcllcbknfikaaGreatDoor
namespace Go.Proofs.YtchcllcbknfikaaGreatDoor
open Go
section
variable {P : Program} {ops : Array Oper} {Q : Exit → Act → World → Prop} {md : Region.Mode} {S : World → Prop} {E : List Nat}
def nI (P:Program)(md:Region.Mode)(ops:Array Oper)(Q:Exit→Act→World→Prop)(S:World→Prop)(E:List Nat):Nat→Array Bool→Act→World→Prop
 | 0,listed,a,w=>Region.ready md ops listed = []∧Q .normal a w
 | fuel+1,listed,a,w=>
  (Region.ready md ops listed = []→Q .normal a w) ∧
  ∀i∈Region.ready md ops listed,wpOp P ops Q i (fun a' w'=>(i ∉ E→S w')∧nI P md ops Q S E fuel (listed.setIfInBounds i true) a' w') a w
theorem AL:∀(fuel:Nat) (listed:Array Bool) (a:Act) (w:World),nI P md ops Q S E fuel listed a w→wpAny P md ops Q fuel listed a w
 | 0,_,_,_,h=>h
 | fuel+1,_,_,_,h=>⟨h.1,fun i hi=>wpOp_mono (fun a' w' h'=>AL fuel _ a' w' h'.2) (h.2 i hi)⟩
def BH (md:Region.Mode)(ops:Array Oper)(i:Nat):List Nat:=
 (List.range ops.size).foldl (fun C x=>if ((ops[x]?).map (·.after.any fun e=>Region.binds md e&&(e.on == i || C.contains e.on))).getD false then x::C else C) []
def vv (md:Region.Mode)(ops:Array Oper)(listed:Array Bool)(i:Nat)(E:List Nat):Bool:=
 (E.all fun s=>(BH md ops i).contains s)&&(BH md ops i).all fun x=> !listed.getD x true&&((ops[x]?).map (·.after.any fun e=>Region.binds md e&&(e.on == i || (BH md ops i).contains e.on))).getD false
def Late (md:Region.Mode)(ops:Array Oper)(C:List Nat)(listed:Array Bool)(i:Nat):Prop:=
 ∀x∈C,listed.getD x true=false∧∃o,ops[x]? = some o∧∃e∈o.after,Region.binds md e=true∧(e.on=i∨e.on∈C)
theorem Bw {listed:Array Bool} {i:Nat} (h:vv md ops listed i E=true):(∀s∈E,s∈BH md ops i)∧Late md ops (BH md ops i) listed i:=by
 unfold vv at h;rw[Bool.and_eq_true]at h;refine⟨fun s hs=>by simpa using List.all_eq_true.1 h.1 s hs,fun x hx=>?_⟩;have h2:=List.all_eq_true.1 h.2 x hx;rw[Bool.and_eq_true]at h2;refine⟨by simpa using h2.1, ?_⟩;have h3:=h2.2
 cases ho:ops[x]? with
 | none=>rw[ho]at h3;simp at h3
 | some o=>
  rw[ho]at h3
  simp only[Option.map_some,Option.getD_some]at h3
  obtain⟨e,he,hb⟩:=Array.any_eq_true'.1 h3
  simp only[Bool.and_eq_true,Bool.or_eq_true,beq_iff_eq]at hb
  exact⟨o,rfl,e,he,hb.1,hb.2.imp id (by simp)⟩
theorem Late.not_ready {C:List Nat} {listed:Array Bool} {i j:Nat} (h:Late md ops C listed i)(hi:listed.getD i true=false)(hj:j∈Region.ready md ops listed):j ∉ C:=fun hc=>by
 obtain⟨_,o,ho,e,he,hb,h4⟩:=h j hc;obtain⟨_,o',ho',hall⟩:=mem_ready.1 hj;rw[ho]at ho'
 cases ho'
 have h5:=hall e he hb
 have h6:listed.getD e.on true=false:=by
  rcases h4 with h4 | h4
  · rw[h4];exact hi
  · exact(h _ h4).1
 rcases Nat.lt_or_ge e.on listed.size with h' | h'
 · simp[h']at h5 h6;rw[h6]at h5;cases h5
 · simp[Array.getElem?_eq_none h']at h5
theorem Late.step {C:List Nat} {listed:Array Bool} {i j:Nat} (h:Late md ops C listed i)(hj:j ∉ C):Late md ops C (listed.setIfInBounds j true) i:=fun x hx=>by
 obtain⟨h1,h2⟩:=h x hx;have hne:j≠x:=fun e=>hj (by rw[e];exact hx);exact⟨by rw[getD_set_ne true hne];exact h1,h2⟩
theorem LC {i:Nat} {oi:Oper} {v:Value} {C:List Nat} (hs:∀s∈E,s∈C)(hi:ops[i]? = some oi)(hsel:∀(j:Nat) (o:Oper) cs b,ops[j]? = some o→o.op ≠ .select cs b)
  (hQ:∀c a w,Q (.panic c) (a.put oi.dst v) w→Q (.panic c) a w) :
  ∀(fuel:Nat) (listed:Array Bool) (a:Act) (w:World),
   (∀j oj,ops[j]? = some oj→j≠i→listed.getD j true=false→(∀e∈oj.after,Region.binds md e=true→e.on≠i)→oi.apart ops oj=true) →
   Late md ops C listed i→i∈Region.ready md ops listed→YieldsIf P ops S oi v a→S w →
   nI P md ops Q S E fuel (listed.setIfInBounds i true) (a.put oi.dst v) w→nI P md ops Q S E (fuel+1) listed a w:=by
 intro fuel
 induction fuel with
 | zero=>
  intro listed a w _ _ hr hy hS H;refine⟨fun h=>(by rw[h]at hr;cases hr),fun j hj=>?_⟩
  by_cases hji:j=i
  · subst hji;exact hy.wpOp hi hS ⟨fun _=>hS,H⟩
  ·
   have:=ready_mono hj hji;rw[H.1]at this
   cases this
 | succ fuel ih=>
  intro listed a w hfree UO hr hy hS H;refine⟨fun h=>(by rw[h]at hr;cases hr),fun j hj=>?_⟩
  by_cases hji:j=i
  · subst hji;exact hy.wpOp hi hS ⟨fun _=>hS,H⟩
  ·
   have h1:=H.2 j (ready_mono hj hji);have adX:=(mem_ready.1 hr).1;have hjC:=UO.not_ready adX hj;have hjs:j ∉ E:=fun e=>hjC (hs j e);obtain⟨hjun,oj,hoj,hall⟩:=mem_ready.1 hj
   have hnot:∀e∈oj.after,Region.binds md e=true→e.on≠i:=fun e he hb heq=>by
    have h1:=hall e he hb;have h0:=(mem_ready.1 hr).1;rw[heq]at h1;rcases Nat.lt_or_ge i listed.size with h' | h'
    · simp[h']at h0 h1;rw[h0]at h1;cases h1
    · simp[Array.getElem?_eq_none h']at h1
   have h2:=wpOp_putIf hoj (hfree j oj hoj hji hjun hnot) (fun cs b=>hsel i oi cs b hi) (fun cs b=>hsel j oj cs b hoj) hQ hy h1
   have hfree':∀k ok,ops[k]? = some ok→k≠i→(listed.setIfInBounds j true).getD k true=false →
     (∀e∈ok.after,Region.binds md e=true→e.on≠i)→oi.apart ops ok=true:=fun k ok hk hki hun hno=>by
    refine hfree k ok hk hki ?_ hno
    by_cases hjk:j=k
    · subst hjk;exact hjun
    · rw[getD_set_ne true hjk]at hun;exact hun
   refine wpOp_mono (fun a' w' h3=>⟨fun _=>h3.2.1 hjs,ih (listed.setIfInBounds j true) a' w' hfree' (UO.step hjC) (ready_mono hr (Ne.symm hji)) h3.1 (h3.2.1 hjs) ?_⟩) h2;rw[Array.setIfInBounds_comm _ _ hji];exact h3.2.2
theorem mU {i:Nat} {oi:Oper} {v:Value} {fuel:Nat} {listed:Array Bool} {a:Act} {w:World} (hi:ops[i]? = some oi)
  (hs:Region.noSelect ops=true) (hf:Region.free md ops listed i=true) (hr:(Region.ready md ops listed).contains i=true) (hl:vv md ops listed i E=true)
  (hQ:∀c a w,Q (.panic c) (a.put oi.dst v) w→Q (.panic c) a w) (hy:YieldsIf P ops S oi v a) (hS:S w)
  (h:nI P md ops Q S E fuel (listed.setIfInBounds i true) (a.put oi.dst v) w):nI P md ops Q S E (fuel+1) listed a w:=
 LC (Bw hl).1 hi (Region.noSelect_spec hs) hQ fuel listed a w (Region.free_spec hi hf) (Bw hl).2 (by simpa using hr) hy hS h
theorem Rn {i:Nat} {o:Oper} {fuel:Nat} {listed:Array Bool} {a:Act} {w:World} (hr:Region.ready md ops listed = [i])(ho:ops[i]? = some o)
  (h:∀K':Act→World→Prop,Shut (∀a w,S w→(S w→nI P md ops Q S E fuel (listed.setIfInBounds i true) a w)→K' a w)→if Region.wanted o (yielded ops a.tmps)=true then Oper.wp P o a w K' Q else K' (a.put o.dst undef) w) :
  nI P md ops Q S E (fuel+1) listed a w:=
 ⟨fun h0=>absurd (hr▸h0) (by simp),fun j hj=>by
  rw[hr]at hj;obtain rfl:j=i:=by simpa using hj
  exact wpOp_step ho (fun K' hK=>h K' (fun a w hS hW=>hK a w ⟨fun _=>hS,hW hS⟩))⟩
theorem qq1 {α:Type _} {xs:List α} {i:Nat} (h:i<xs.toArray.size):xs.toArray[i]=xs[i]'(by simpa using h):=rfl
theorem qq2 {α:Type _} (a:α)(l:List α)(h:0<(a::l).length):getElem (a::l) 0 h=a:=rfl
theorem qq3 {α:Type _} (a:α)(l:List α)(i:Nat)(h:i+1<(a::l).length):getElem (a::l) (i+1) h=getElem l i (Nat.lt_of_succ_lt_succ h):=rfl
theorem qq4 {α:Type _} (l:List α)(i:Nat)(a:α):l.toArray.setIfInBounds i a=(l.set i a).toArray:=List.setIfInBounds_toArray l i a
theorem qq5 {α:Type _} {x:α} {xs:List α} {a:α} :(x::xs).set 0 a=a::xs:=rfl
theorem qq6 {α:Type _} {x:α} {xs:List α} {i:Nat} {a:α} :(x::xs).set (i+1) a=x::xs.set i a:=rfl
theorem tkV (i:Nat) {oi:Oper} {v:Value} {fuel:Nat} {listed:Array Bool} {a:Act} {w:World} (h:nI P md ops Q S E fuel (listed.setIfInBounds i true) (a.put oi.dst v) w)(hi:ops[i]? = some oi:=by rfl)
  (hs:Region.noSelect ops=true:=by kernel_rfl) (hf:Region.free md ops listed i=true:=by kernel_rfl) (hr:(Region.ready md ops listed).contains i=true:=by kernel_rfl) (hl:vv md ops listed i E=true:=by kernel_rfl)
  (hQ:∀c a w,Q (.panic c) (a.put oi.dst v) w→Q (.panic c) a w:=by exact fun _ _ _ h=>h) (hw:Region.wanted oi (yielded ops a.tmps)=true:=by rfl)
  (hy:∀w,S w→(execOp a.eval oi).run P w = .ok (.value v) w:=by intro wS hSw;(try dsimp only at hSw);go_simp <;> with_reducible rfl) (hS:S w:=by assumption):nI P md ops Q S E (fuel+1) listed a w:=
 mU hi hs hf hr hl hQ (Or.inl ⟨hw,hy⟩) hS h
theorem tkU (i:Nat) {oi:Oper} {fuel:Nat} {listed:Array Bool} {a:Act} {w:World} (h:nI P md ops Q S E fuel (listed.setIfInBounds i true) (a.put oi.dst undef) w)(hi:ops[i]? = some oi:=by rfl)
  (hs:Region.noSelect ops=true:=by kernel_rfl) (hf:Region.free md ops listed i=true:=by kernel_rfl) (hr:(Region.ready md ops listed).contains i=true:=by kernel_rfl) (hl:vv md ops listed i E=true:=by kernel_rfl)
  (hQ:∀c a w,Q (.panic c) (a.put oi.dst undef) w→Q (.panic c) a w:=by exact fun _ _ _ h=>h) (hw:Region.wanted oi (yielded ops a.tmps)=false:=by rfl) (hS:S w:=by assumption):nI P md ops Q S E (fuel+1) listed a w:=
 mU hi hs hf hr hl hQ (Or.inr ⟨hw,rfl⟩) hS h
theorem Rm {i1 i2:Nat} {o1 o2:Oper} {fuel:Nat} {listed:Array Bool} {a:Act} {w:World} (hr:Region.ready md ops listed = [i1,i2])(ho1:ops[i1]? = some o1)(ho2:ops[i2]? = some o2)
  (h1:∀K':Act→World→Prop,Shut (∀a w,S w→(S w→nI P md ops Q S E fuel (listed.setIfInBounds i1 true) a w)→K' a w)→if Region.wanted o1 (yielded ops a.tmps)=true then Oper.wp P o1 a w K' Q else K' (a.put o1.dst undef) w)
  (h2:∀K':Act→World→Prop,Shut (∀a w,S w→(S w→nI P md ops Q S E fuel (listed.setIfInBounds i2 true) a w)→K' a w)→if Region.wanted o2 (yielded ops a.tmps)=true then Oper.wp P o2 a w K' Q else K' (a.put o2.dst undef) w) :
  nI P md ops Q S E (fuel+1) listed a w:=
 ⟨fun h0=>absurd (hr▸h0) (by simp),fun j hj=>by
  rw[hr]at hj;rcases (by simpa using hj:j=i1∨j=i2)with rfl | rfl
  · exact wpOp_step ho1 (fun K' hK=>h1 K' (fun a w hS hW=>hK a w ⟨fun _=>hS,hW hS⟩))
  · exact wpOp_step ho2 (fun K' hK=>h2 K' (fun a w hS hW=>hK a w ⟨fun _=>hS,hW hS⟩))⟩
theorem Nl {i:Nat} {o:Oper} {fuel:Nat} {listed:Array Bool} {a:Act} {w:World} (hr:Region.ready md ops listed = [i])(hE:i∈E)(ho:ops[i]? = some o)
  (h:∀K':Act→World→Prop,Shut (∀a w,nI P md ops Q S E fuel (listed.setIfInBounds i true) a w→K' a w)→if Region.wanted o (yielded ops a.tmps)=true then Oper.wp P o a w K' Q else K' (a.put o.dst undef) w) :
  nI P md ops Q S E (fuel+1) listed a w:=
 ⟨fun h0=>absurd (hr▸h0) (by simp),fun j hj=>by
  rw[hr]at hj;obtain rfl:j=i:=by simpa using hj
  exact wpOp_step ho (fun K' hK=>h K' (fun a w hW=>hK a w ⟨fun h=>absurd hE h,hW⟩))⟩
theorem Fw {i1 i2:Nat} {o1 o2:Oper} {fuel:Nat} {listed:Array Bool} {a:Act} {w:World} (hr:Region.ready md ops listed = [i1,i2])(hE1:i1∈E)(hE2:i2∈E)(ho1:ops[i1]? = some o1)(ho2:ops[i2]? = some o2)
  (h1:∀K':Act→World→Prop,Shut (∀a w,nI P md ops Q S E fuel (listed.setIfInBounds i1 true) a w→K' a w)→if Region.wanted o1 (yielded ops a.tmps)=true then Oper.wp P o1 a w K' Q else K' (a.put o1.dst undef) w)
  (h2:∀K':Act→World→Prop,Shut (∀a w,nI P md ops Q S E fuel (listed.setIfInBounds i2 true) a w→K' a w)→if Region.wanted o2 (yielded ops a.tmps)=true then Oper.wp P o2 a w K' Q else K' (a.put o2.dst undef) w) :
  nI P md ops Q S E (fuel+1) listed a w:=
 ⟨fun h0=>absurd (hr▸h0) (by simp),fun j hj=>by
  rw[hr]at hj;rcases (by simpa using hj:j=i1∨j=i2)with rfl | rfl
  · exact wpOp_step ho1 (fun K' hK=>h1 K' (fun a w hW=>hK a w ⟨fun h=>absurd hE1 h,hW⟩))
  · exact wpOp_step ho2 (fun K' hK=>h2 K' (fun a w hW=>hK a w ⟨fun h=>absurd hE2 h,hW⟩))⟩
theorem Nn {listed:Array Bool} {a:Act} {w:World} (hr:Region.ready md ops listed = [])(h:Q .normal a w):∀fuel,nI P md ops Q S E fuel listed a w
 | 0=>⟨hr,h⟩
 | _+1=>⟨fun _=>h,by rw[hr];simp⟩
theorem bV {id:Nat} {a:Act} {w:World} (hm:P.follows .mixedOrders=true)(hS:S w.drew)
  (h:S w.drew→nI P .any ops Q S E ops.size (Array.replicate ops.size false) a w.drew):(Code.region id ops true).wp P Q a w:=
 wp_region_any hm (AL _ _ _ _ (h hS))
end
section
variable {P : Program} {ops : Array Oper} {Q : Exit → Act → World → Prop} {md : Region.Mode} {S : World → Prop} {E : List Nat}
theorem LB {fuel:Nat} {listed:Array Bool} {a:Act} {w:World} (h:∀(T:Nat→Array Bool→Act→World→Prop) (a0:Act),T=nI P md ops Q S E→a0=a→T fuel listed a0 w):nI P md ops Q S E fuel listed a w:=h _ _ rfl rfl
end
end Go.Proofs.YtchcllcbknfikaaGreatDoor
namespace Go.Proofs.YtchcllcbknfikaaGreatDoor
open Go.RowKit sH
theorem iW {b c u:World} (h:Hid (Below b.heap.size b c))(h2:Hid (Below c.heap.size c u)):Hid (Below b.heap.size b u):=aa (ag h.out h2.out)
theorem bJ {b c u:World} (h:Hid (Below b.heap.size b c))(h2:Below c.heap.size c u):Hid (Below b.heap.size b u):=aa (ag h.out h2)
theorem bb2 {a b u u2:World} (h:Hid (Below a.heap.size a u∧Below b.heap.size b u))(q:Below u.heap.size u u2):Hid (Below a.heap.size a u2∧Below b.heap.size b u2):=aa ⟨ag h.out.1 q,ag h.out.2 q⟩
theorem bb3 {a b c u u2:World} (h:Hid (Below a.heap.size a u∧Below b.heap.size b u∧Below c.heap.size c u))(q:Below u.heap.size u u2):Hid (Below a.heap.size a u2∧Below b.heap.size b u2∧Below c.heap.size c u2):=aa ⟨ag h.out.1 q,ag h.out.2.1 q,ag h.out.2.2 q⟩
theorem bb4 {a b c d u u2:World} (h:Hid (Below a.heap.size a u∧Below b.heap.size b u∧Below c.heap.size c u∧Below d.heap.size d u))(q:Below u.heap.size u u2):Hid (Below a.heap.size a u2∧Below b.heap.size b u2∧Below c.heap.size c u2∧Below d.heap.size d u2):=aa ⟨ag h.out.1 q,ag h.out.2.1 q,ag h.out.2.2.1 q,ag h.out.2.2.2 q⟩
theorem JN {P:Program} {f:Nat} {args:Array Value} {b w:World} {E0:Ending} {Q:Ending→World→Prop} (hB:Hid (Below b.heap.size b w))(h:Calls P f args w fun e w'=>e=E0∧Below w.heap.size w w')(k:∀w',Hid (Below b.heap.size b w')→Q E0 w'):Calls P f args w Q:=
 h.mono (fun e w' he=>by obtain⟨rfl,hb⟩:=he;exact k w' (bJ hB hb))
theorem fe {P:Program} {f:Nat} {args:Array Value} {b w:World} {E0:Ending} {Q:Ending→World→Prop} {C:World→Prop} (kC:Hid (∀u,Hid (Below b.heap.size b u)→C u))(hB:Hid (Below b.heap.size b w))(h:Calls P f args w fun e w'=>e=E0∧Below w.heap.size w w')(k:∀w',Hid (Below b.heap.size b w')→C w'→Q E0 w'):Calls P f args w Q:=
 JN hB h (fun w' h'=>k w' h' (kC.out _ h'))
theorem PZ {P:Program} {f:Nat} {args:Array Value} {b c w:World} {E0:Ending} {Q:Ending→World→Prop} (hB:Hid (Below b.heap.size b w))(hC:Hid (Below c.heap.size c w))(h:Calls P f args w fun e w'=>e=E0∧Below w.heap.size w w')(k:∀w',Hid (Below b.heap.size b w')→Hid (Below c.heap.size c w')→Q E0 w'):Calls P f args w Q:=
 h.mono (fun e w' he=>by obtain⟨rfl,hb⟩:=he;exact k w' (bJ hB hb) (bJ hC hb))
theorem um {P:Program} {f:Nat} {args:Array Value} {b c d w:World} {E0:Ending} {Q:Ending→World→Prop} (hB:Hid (Below b.heap.size b w))(hC:Hid (Below c.heap.size c w))(hD:Hid (Below d.heap.size d w))(h:Calls P f args w fun e w'=>e=E0∧Below w.heap.size w w')(k:∀w',Hid (Below b.heap.size b w')→Hid (Below c.heap.size c w')→Hid (Below d.heap.size d w')→Q E0 w'):Calls P f args w Q:=
 h.mono (fun e w' he=>by obtain⟨rfl,hb⟩:=he;exact k w' (bJ hB hb) (bJ hC hb) (bJ hD hb))
theorem bI (b:World):Hid (Below b.heap.size b b):=aa (Below.refl _ _)
theorem fo {w w0:World} (φ:World→Prop)(hb:Hid (Below w.heap.size w w0))(h:Hid (φ w))(st:∀ {u},φ w→Below w.heap.size w u→φ u):Hid (∀u:World,Hid (Below w0.heap.size w0 u)→Hid (φ u)):=
 aa (fun u hu=>aa (st h.out (ag hb.out hu.out)))
theorem nQ {w:World} (φ:World→Prop)(h:φ w)(st:∀ {u},φ w→Below w.heap.size w u→φ u):Hid (∀u:World,Hid (Below w.heap.size w u)→Hid (φ u)):=
 aa (fun u hu=>aa (st h hu.out))
theorem mkS {w w0:World} {A:Option Addr} {xs:List Int} (hb:Hid (Below w.heap.size w w0))(h:Hid (Sl w A xs)):Hid (∀u:World,Hid (Below w0.heap.size w0 u)→Hid (Sl u A xs)):=fo (fun u=>Sl u A xs) hb h (·.below)
theorem mkV {w w0:World} (hb:Hid (Below w.heap.size w w0))(h:Hid (Vars w)):Hid (∀u:World,Hid (Below w0.heap.size w0 u)→Hid (Vars u)):=fo (fun u=>Vars u) hb h (·.below)
theorem oF {w w0:World} (hb:Hid (Below w.heap.size w w0))(h:Hid (bB w)):Hid (∀u:World,Hid (Below w0.heap.size w0 u)→Hid (bB u)):=fo (fun u=>bB u) hb h (·.below)
theorem Cj {w0:World} (b:Nat) {o:Obj} (h:w0.heap[b]? = some o):Hid (∀u:World,Hid (Below w0.heap.size w0 u)→Hid (u.heap[b]? = some o)):=aa (fun u hu=>aa ((hu.out.block b (Array.getElem?_eq_some_iff.1 h).1).trans h))
theorem mkc {w0:World} {p:Addr} {v:Value} (h:w0.cell? p=some v):Hid (∀u:World,Hid (Below w0.heap.size w0 u)→u.cell? p=some v):=aa (fun u hu=>cell_below h hu.out)
theorem f_ {w w0 u:World} (h:Hid (Below w.heap.size w w0))(h2:Hid (Below w0.heap.size w0 u)):Below w.heap.size w u:=ag h.out h2.out
def BO (u:World)(b:Nat)(o:Obj):Prop:=∃c T,o = .cells c T∧∀(j:Nat) v,c[j]? = some v→Own u ⟨b,j,none⟩ v
theorem BO.new (w:World)(c:Array Value)(T:TypeId):BO (w.alloc (.cells c T)) w.heap.size (.cells c T):=⟨c,T,rfl,fun _ _ h=>wh rfl h⟩
theorem BO.below {u u2:World} {b:Nat} {o:Obj} (h:BO u b o)(hb:Below u.heap.size u u2):BO u2 b o:=by
 obtain⟨c,T,e,h⟩:=h;exact⟨c,T,e,fun j v hj=>(h j v hj).below hb⟩
theorem BO.get {u:World} {b:Nat} {c:Array Value} {T:TypeId} (h:BO u b (.cells c T))(j:Nat) {v:Value} (hj:c[j]? = some v):Own u ⟨b,j,none⟩ v:=by
 obtain⟨c',T',e,h⟩:=h
 cases e
 exact h j v hj
theorem sZ {c:Array Value} {T:TypeId} (u:World)(b:Nat)(h:BO u b (.cells c T)):True:=trivial
theorem bq1 {a0:Value} {r:List Value} {T:TypeId} (u:World)(b:Nat)(h:BO u b (.cells (a0::r).toArray T)):u.cell? ⟨b,0,none⟩=some a0:=(h.get 0 (by simp)).1
theorem qx {a0 a1:Value} {r:List Value} {T:TypeId} (u:World)(b:Nat)(h:BO u b (.cells (a0::a1::r).toArray T)):u.cell? ⟨b,0,none⟩=some a0∧u.cell? ⟨b,1,none⟩=some a1:=⟨(h.get 0 (by simp)).1,(h.get 1 (by simp)).1⟩
theorem rV {a0 a1 a2:Value} {r:List Value} {T:TypeId} (u:World)(b:Nat)(h:BO u b (.cells (a0::a1::a2::r).toArray T)):u.cell? ⟨b,0,none⟩=some a0∧u.cell? ⟨b,1,none⟩=some a1∧u.cell? ⟨b,2,none⟩=some a2:=⟨(h.get 0 (by simp)).1,(h.get 1 (by simp)).1,(h.get 2 (by simp)).1⟩
theorem bq4 {a0 a1 a2 a3:Value} {r:List Value} {T:TypeId} (u:World)(b:Nat)(h:BO u b (.cells (a0::a1::a2::a3::r).toArray T)):u.cell? ⟨b,0,none⟩=some a0∧u.cell? ⟨b,1,none⟩=some a1∧u.cell? ⟨b,2,none⟩=some a2∧u.cell? ⟨b,3,none⟩=some a3:=⟨(h.get 0 (by simp)).1,(h.get 1 (by simp)).1,(h.get 2 (by simp)).1,(h.get 3 (by simp)).1⟩
theorem vF {a0 a1 a2 a3 a4:Value} {r:List Value} {T:TypeId} (u:World)(b:Nat)(h:BO u b (.cells (a0::a1::a2::a3::a4::r).toArray T)):u.cell? ⟨b,0,none⟩=some a0∧u.cell? ⟨b,1,none⟩=some a1∧u.cell? ⟨b,2,none⟩=some a2∧u.cell? ⟨b,3,none⟩=some a3∧u.cell? ⟨b,4,none⟩=some a4:=⟨(h.get 0 (by simp)).1,(h.get 1 (by simp)).1,(h.get 2 (by simp)).1,(h.get 3 (by simp)).1,(h.get 4 (by simp)).1⟩
theorem zq {a0 a1 a2 a3 a4 a5 a6 a7 a8:Value} {r:List Value} {T:TypeId} (u:World)(b:Nat)(h:BO u b (.cells (a0::a1::a2::a3::a4::a5::a6::a7::a8::r).toArray T)):u.cell? ⟨b,0,none⟩=some a0∧u.cell? ⟨b,1,none⟩=some a1∧u.cell? ⟨b,2,none⟩=some a2∧u.cell? ⟨b,3,none⟩=some a3∧u.cell? ⟨b,4,none⟩=some a4∧u.cell? ⟨b,5,none⟩=some a5∧u.cell? ⟨b,6,none⟩=some a6∧u.cell? ⟨b,7,none⟩=some a7∧u.cell? ⟨b,8,none⟩=some a8:=⟨(h.get 0 (by simp)).1,(h.get 1 (by simp)).1,(h.get 2 (by simp)).1,(h.get 3 (by simp)).1,(h.get 4 (by simp)).1,(h.get 5 (by simp)).1,(h.get 6 (by simp)).1,(h.get 7 (by simp)).1,(h.get 8 (by simp)).1⟩
theorem bp0 {c:Array Value} {T:TypeId} (u:World)(b:Nat)(R:Prop)(h:BO u b (.cells c T))(r:R):R:=r
theorem sG {a0 a1:Value} {r:List Value} {T:TypeId} (u:World)(b:Nat)(R:Prop)(h:BO u b (.cells (a0::a1::r).toArray T))(g:R):u.cell? ⟨b,0,none⟩=some a0∧u.cell? ⟨b,1,none⟩=some a1∧R:=⟨(h.get 0 (by simp)).1,(h.get 1 (by simp)).1,g⟩
theorem fq {a0 a1 a2:Value} {r:List Value} {T:TypeId} (u:World)(b:Nat)(R:Prop)(h:BO u b (.cells (a0::a1::a2::r).toArray T))(g:R):u.cell? ⟨b,0,none⟩=some a0∧u.cell? ⟨b,1,none⟩=some a1∧u.cell? ⟨b,2,none⟩=some a2∧R:=⟨(h.get 0 (by simp)).1,(h.get 1 (by simp)).1,(h.get 2 (by simp)).1,g⟩
theorem bp4 {a0 a1 a2 a3:Value} {r:List Value} {T:TypeId} (u:World)(b:Nat)(R:Prop)(h:BO u b (.cells (a0::a1::a2::a3::r).toArray T))(g:R):u.cell? ⟨b,0,none⟩=some a0∧u.cell? ⟨b,1,none⟩=some a1∧u.cell? ⟨b,2,none⟩=some a2∧u.cell? ⟨b,3,none⟩=some a3∧R:=⟨(h.get 0 (by simp)).1,(h.get 1 (by simp)).1,(h.get 2 (by simp)).1,(h.get 3 (by simp)).1,g⟩
theorem MN {a0 a1 a2 a3 a4:Value} {r:List Value} {T:TypeId} (u:World)(b:Nat)(R:Prop)(h:BO u b (.cells (a0::a1::a2::a3::a4::r).toArray T))(g:R):u.cell? ⟨b,0,none⟩=some a0∧u.cell? ⟨b,1,none⟩=some a1∧u.cell? ⟨b,2,none⟩=some a2∧u.cell? ⟨b,3,none⟩=some a3∧u.cell? ⟨b,4,none⟩=some a4∧R:=⟨(h.get 0 (by simp)).1,(h.get 1 (by simp)).1,(h.get 2 (by simp)).1,(h.get 3 (by simp)).1,(h.get 4 (by simp)).1,g⟩
theorem bp9 {a0 a1 a2 a3 a4 a5 a6 a7 a8:Value} {r:List Value} {T:TypeId} (u:World)(b:Nat)(R:Prop)(h:BO u b (.cells (a0::a1::a2::a3::a4::a5::a6::a7::a8::r).toArray T))(g:R):u.cell? ⟨b,0,none⟩=some a0∧u.cell? ⟨b,1,none⟩=some a1∧u.cell? ⟨b,2,none⟩=some a2∧u.cell? ⟨b,3,none⟩=some a3∧u.cell? ⟨b,4,none⟩=some a4∧u.cell? ⟨b,5,none⟩=some a5∧u.cell? ⟨b,6,none⟩=some a6∧u.cell? ⟨b,7,none⟩=some a7∧u.cell? ⟨b,8,none⟩=some a8∧R:=⟨(h.get 0 (by simp)).1,(h.get 1 (by simp)).1,(h.get 2 (by simp)).1,(h.get 3 (by simp)).1,(h.get 4 (by simp)).1,(h.get 5 (by simp)).1,(h.get 6 (by simp)).1,(h.get 7 (by simp)).1,(h.get 8 (by simp)).1,g⟩
theorem st1 {c0:Array Value} {T0:TypeId} {C0:World→Nat→Prop} (o0:Obj)(h0:∀u b,BO u b (.cells c0 T0)→C0 u b)(w:World)(q0:o0 = .cells c0 T0:=by rfl):∃w0,Hid ((w.alloc o0)=w0)∧Hid (Below w.heap.size w w0)∧Hid (∀u:World,Hid (Below w0.heap.size w0 u)→C0 u (w.heap.size)):=by
 subst q0;have p0:BO ((w.alloc (.cells c0 T0))) (w.heap.size) (.cells c0 T0):=BO.new w c0 T0;exact⟨_,aa rfl,aa (af _ _),aa (fun u h=>h0 _ _ (p0.below h.out))⟩
theorem st2 {c0 c1:Array Value} {T0 T1:TypeId} {C0:World→Nat→Prop→Prop} {C1:World→Nat→Prop} (o0:Obj)(h0:∀u b R,BO u b (.cells c0 T0)→R→C0 u b R)(o1:Obj)(h1:∀u b,BO u b (.cells c1 T1)→C1 u b)(w:World)(q0:o0 = .cells c0 T0:=by rfl)(q1:o1 = .cells c1 T1:=by rfl):∃w0,Hid (((w.alloc o0).alloc o1)=w0)∧Hid (Below w.heap.size w w0)∧Hid (∀u:World,Hid (Below w0.heap.size w0 u)→C0 u (w.heap.size) (C1 u (w.heap.size+1))):=by
 subst q0 q1;have p0:BO (((w.alloc (.cells c0 T0)).alloc (.cells c1 T1))) (w.heap.size) (.cells c0 T0):=BO.below (BO.new w c0 T0) (af _ _);have p1:BO (((w.alloc (.cells c0 T0)).alloc (.cells c1 T1))) (w.heap.size+1) (.cells c1 T1):=(show(w.alloc (.cells c0 T0)).heap.size=w.heap.size+1 by simp)▸BO.new (w.alloc (.cells c0 T0)) c1 T1;exact⟨_,aa rfl,aa (ag (af _ _) (af _ _)),aa (fun u h=>h0 _ _ _ (p0.below h.out) (h1 _ _ (p1.below h.out)))⟩
theorem qD {c0 c1 c2:Array Value} {T0 T1 T2:TypeId} {C0:World→Nat→Prop→Prop} {C1:World→Nat→Prop→Prop} {C2:World→Nat→Prop} (o0:Obj)(h0:∀u b R,BO u b (.cells c0 T0)→R→C0 u b R)(o1:Obj)(h1:∀u b R,BO u b (.cells c1 T1)→R→C1 u b R)(o2:Obj)(h2:∀u b,BO u b (.cells c2 T2)→C2 u b)(w:World)(q0:o0 = .cells c0 T0:=by rfl)(q1:o1 = .cells c1 T1:=by rfl)(q2:o2 = .cells c2 T2:=by rfl):∃w0,Hid ((((w.alloc o0).alloc o1).alloc o2)=w0)∧Hid (Below w.heap.size w w0)∧Hid (∀u:World,Hid (Below w0.heap.size w0 u)→C0 u (w.heap.size) (C1 u (w.heap.size+1) (C2 u (w.heap.size+2)))):=by
 subst q0 q1 q2;have p0:BO ((((w.alloc (.cells c0 T0)).alloc (.cells c1 T1)).alloc (.cells c2 T2))) (w.heap.size) (.cells c0 T0):=BO.below (BO.below (BO.new w c0 T0) (af _ _)) (af _ _);have p1:BO ((((w.alloc (.cells c0 T0)).alloc (.cells c1 T1)).alloc (.cells c2 T2))) (w.heap.size+1) (.cells c1 T1):=BO.below ((show(w.alloc (.cells c0 T0)).heap.size=w.heap.size+1 by simp)▸BO.new (w.alloc (.cells c0 T0)) c1 T1) (af _ _);have p2:BO ((((w.alloc (.cells c0 T0)).alloc (.cells c1 T1)).alloc (.cells c2 T2))) (w.heap.size+2) (.cells c2 T2):=(show((w.alloc (.cells c0 T0)).alloc (.cells c1 T1)).heap.size=w.heap.size+2 by simp)▸BO.new ((w.alloc (.cells c0 T0)).alloc (.cells c1 T1)) c2 T2;exact⟨_,aa rfl,aa (ag (ag (af _ _) (af _ _)) (af _ _)),aa (fun u h=>h0 _ _ _ (p0.below h.out) (h1 _ _ _ (p1.below h.out) (h2 _ _ (p2.below h.out))))⟩
theorem Ch {c0 c1 c2 c3:Array Value} {T0 T1 T2 T3:TypeId} {C0:World→Nat→Prop→Prop} {C1:World→Nat→Prop→Prop} {C2:World→Nat→Prop→Prop} {C3:World→Nat→Prop} (o0:Obj)(h0:∀u b R,BO u b (.cells c0 T0)→R→C0 u b R)(o1:Obj)(h1:∀u b R,BO u b (.cells c1 T1)→R→C1 u b R)(o2:Obj)(h2:∀u b R,BO u b (.cells c2 T2)→R→C2 u b R)(o3:Obj)(h3:∀u b,BO u b (.cells c3 T3)→C3 u b)(w:World)(q0:o0 = .cells c0 T0:=by rfl)(q1:o1 = .cells c1 T1:=by rfl)(q2:o2 = .cells c2 T2:=by rfl)(q3:o3 = .cells c3 T3:=by rfl):∃w0,Hid (((((w.alloc o0).alloc o1).alloc o2).alloc o3)=w0)∧Hid (Below w.heap.size w w0)∧Hid (∀u:World,Hid (Below w0.heap.size w0 u)→C0 u (w.heap.size) (C1 u (w.heap.size+1) (C2 u (w.heap.size+2) (C3 u (w.heap.size+3))))):=by
 subst q0 q1 q2 q3;have p0:BO (((((w.alloc (.cells c0 T0)).alloc (.cells c1 T1)).alloc (.cells c2 T2)).alloc (.cells c3 T3))) (w.heap.size) (.cells c0 T0):=BO.below (BO.below (BO.below (BO.new w c0 T0) (af _ _)) (af _ _)) (af _ _);have p1:BO (((((w.alloc (.cells c0 T0)).alloc (.cells c1 T1)).alloc (.cells c2 T2)).alloc (.cells c3 T3))) (w.heap.size+1) (.cells c1 T1):=BO.below (BO.below ((show(w.alloc (.cells c0 T0)).heap.size=w.heap.size+1 by simp)▸BO.new (w.alloc (.cells c0 T0)) c1 T1) (af _ _)) (af _ _);have p2:BO (((((w.alloc (.cells c0 T0)).alloc (.cells c1 T1)).alloc (.cells c2 T2)).alloc (.cells c3 T3))) (w.heap.size+2) (.cells c2 T2):=BO.below ((show((w.alloc (.cells c0 T0)).alloc (.cells c1 T1)).heap.size=w.heap.size+2 by simp)▸BO.new ((w.alloc (.cells c0 T0)).alloc (.cells c1 T1)) c2 T2) (af _ _);have p3:BO (((((w.alloc (.cells c0 T0)).alloc (.cells c1 T1)).alloc (.cells c2 T2)).alloc (.cells c3 T3))) (w.heap.size+3) (.cells c3 T3):=(show(((w.alloc (.cells c0 T0)).alloc (.cells c1 T1)).alloc (.cells c2 T2)).heap.size=w.heap.size+3 by simp)▸BO.new (((w.alloc (.cells c0 T0)).alloc (.cells c1 T1)).alloc (.cells c2 T2)) c3 T3;exact⟨_,aa rfl,aa (ag (ag (ag (af _ _) (af _ _)) (af _ _)) (af _ _)),aa (fun u h=>h0 _ _ _ (p0.below h.out) (h1 _ _ _ (p1.below h.out) (h2 _ _ _ (p2.below h.out) (h3 _ _ (p3.below h.out)))))⟩
theorem pO {c:Array Value} {T:TypeId} {C:World→Nat→Prop} (o:Obj)(e:∀u b,BO u b (.cells c T)→C u b)(w:World)(q:o = .cells c T:=by rfl):∃w2,w.alloc o=w2∧Hid (Below w.heap.size w w2)∧Hid (w2.heap.size=w.heap.size+1)∧Hid (w2.heap[w.heap.size]? = some o)∧Hid (∀u:World,Hid (Below w2.heap.size w2 u)→C u w.heap.size):=by
 subst q;exact⟨_,rfl,aa (af _ _),aa (by simp),aa (heap_alloc_new _ _),aa (fun u h=>e _ _ ((BO.new w c T).below h.out))⟩
theorem qq:(∀ {α:Type} (xs:List α) (i:Nat) (h:i<xs.toArray.size),xs.toArray[i]=xs[i]'(by simpa using h))∧(∀ {α:Type} (a:α) (l:List α) (h:0<(a::l).length),getElem (a::l) 0 h=a) ∧
  (∀ {α:Type} (a:α) (l:List α) (i:Nat) (h:i+1<(a::l).length),getElem (a::l) (i+1) h=getElem l i (Nat.lt_of_succ_lt_succ h)) ∧
  (∀(a:Act) (d:Tmp) (v:Value),a.put (some d) v = { a with tmps:=a.tmps.setIfInBounds d v })∧(∀(a:Act) (v:Value),a.put none v=a) ∧
  (∀ {α:Type} (l:List α) (i:Nat) (a:α),l.toArray.setIfInBounds i a=(l.set i a).toArray)∧(∀ {α:Type} (x:α) (xs:List α) (a:α),(x::xs).set 0 a=a::xs)∧(∀ {α:Type} (x:α) (xs:List α) (i:Nat) (a:α),(x::xs).set (i+1) a=x::xs.set i a) ∧
  (∀a b:Value,cond true a b=a)∧(∀a b:Value,cond false a b=b):=
 ⟨fun _ _ _=>rfl,fun _ _ _=>rfl,fun _ _ _ _=>rfl,fun _ _ _=>rfl,fun _ _=>rfl,fun l i a=>List.setIfInBounds_toArray l i a,fun _ _ _=>rfl,fun _ _ _ _=>rfl,fun _ _=>rfl,fun _ _=>rfl⟩
section
variable {P : Program} {ops : Array Oper} {Q : Exit → Act → World → Prop} {md : Region.Mode} {S : World → Prop} {E : List Nat}
theorem aL (i:Nat) {oi:Oper} {v:Value} {fuel:Nat} {listed l2:Array Bool} {a a2:Act} {w:World} (h:nI P md ops Q S E fuel l2 a2 w)(hi:ops[i]? = some oi:=by rfl)
  (hs:Region.noSelect ops=true:=by kernel_rfl) (hf:Region.free md ops listed i=true:=by kernel_rfl) (hr:(Region.ready md ops listed).contains i=true:=by kernel_rfl) (hl:vv md ops listed i E=true:=by kernel_rfl)
  (hQ:∀c a w,Q (.panic c) (a.put oi.dst v) w→Q (.panic c) a w:=by exact fun _ _ _ h=>h) (hw:Region.wanted oi (yielded ops a.tmps)=true:=by rfl)
  (hy:∀w,S w→(execOp a.eval oi).run P w = .ok (.value v) w:=by intro wS hSw;have zS:=hO.out wS hSw;go_simp <;> with_reducible rfl) (hS:S w:=by assumption) (hn:listed.setIfInBounds i true=l2∧a.put oi.dst v=a2:=by refine⟨?_, ?_⟩ <;> (try simp only[qq]) <;> rfl):nI P md ops Q S E (fuel+1) listed a w:=
 mU hi hs hf hr hl hQ (Or.inl ⟨hw,hy⟩) hS (hn.1▸hn.2▸h)
theorem b_ (i:Nat) {oi:Oper} {v:Value} {fuel:Nat} {listed l2:Array Bool} {a a2:Act} {w:World} (h:nI P md ops Q S E fuel l2 a2 w)(hi:ops[i]? = some oi:=by rfl)
  (hs:Region.noSelect ops=true:=by kernel_rfl) (hf:Region.free md ops listed i=true:=by kernel_rfl) (hr:(Region.ready md ops listed).contains i=true:=by kernel_rfl) (hl:vv md ops listed i E=true:=by kernel_rfl)
  (hQ:∀c a w,Q (.panic c) (a.put oi.dst v) w→Q (.panic c) a w:=by exact fun _ _ _ h=>h) (hw:Region.wanted oi (yielded ops a.tmps)=true:=by rfl)
  (hy:∀w,S w→(execOp a.eval oi).run P w = .ok (.value v) w:=by intro wS hSw;(try dsimp only at hSw);go_simp <;> with_reducible rfl) (hS:S w:=by assumption) (hn:listed.setIfInBounds i true=l2∧a.put oi.dst v=a2:=by refine⟨?_, ?_⟩ <;> (try simp only[qq]) <;> rfl):nI P md ops Q S E (fuel+1) listed a w:=
 mU hi hs hf hr hl hQ (Or.inl ⟨hw,hy⟩) hS (hn.1▸hn.2▸h)
theorem Cf (i:Nat) {oi:Oper} (v:Value) {fuel:Nat} {listed l2:Array Bool} {a a2:Act} {w:World} (hi:ops[i]? = some oi)(hy:∀w,S w→(execOp a.eval oi).run P w = .ok (.value v) w)(h:nI P md ops Q S E fuel l2 a2 w)
  (hs:Region.noSelect ops=true:=by kernel_rfl) (hf:Region.free md ops listed i=true:=by kernel_rfl) (hr:(Region.ready md ops listed).contains i=true:=by kernel_rfl) (hl:vv md ops listed i E=true:=by kernel_rfl)
  (hQ:∀c a w,Q (.panic c) (a.put oi.dst v) w→Q (.panic c) a w:=by exact fun _ _ _ h=>h) (hw:Region.wanted oi (yielded ops a.tmps)=true:=by rfl) (hS:S w:=by assumption) (hn:listed.setIfInBounds i true=l2∧a.put oi.dst v=a2:=by refine⟨?_, ?_⟩ <;> (try simp only[qq]) <;> rfl):nI P md ops Q S E (fuel+1) listed a w:=
 mU hi hs hf hr hl hQ (Or.inl ⟨hw,hy⟩) hS (hn.1▸hn.2▸h)
theorem lC (i:Nat) {oi:Oper} {fuel:Nat} {listed l2:Array Bool} {a a2:Act} {w:World} (h:nI P md ops Q S E fuel l2 a2 w)(hi:ops[i]? = some oi:=by rfl)
  (hs:Region.noSelect ops=true:=by kernel_rfl) (hf:Region.free md ops listed i=true:=by kernel_rfl) (hr:(Region.ready md ops listed).contains i=true:=by kernel_rfl) (hl:vv md ops listed i E=true:=by kernel_rfl)
  (hQ:∀c a w,Q (.panic c) (a.put oi.dst undef) w→Q (.panic c) a w:=by exact fun _ _ _ h=>h) (hw:Region.wanted oi (yielded ops a.tmps)=false:=by rfl) (hS:S w:=by assumption) (hn:listed.setIfInBounds i true=l2∧a.put oi.dst undef=a2:=by refine⟨?_, ?_⟩ <;> (try simp only[qq]) <;> rfl):nI P md ops Q S E (fuel+1) listed a w:=
 mU hi hs hf hr hl hQ (Or.inr ⟨hw,rfl⟩) hS (hn.1▸hn.2▸h)
theorem dh (i:Nat) {o:Oper} {fuel:Nat} {listed:Array Bool} {a:Act} {w:World}
  (h:∀K':Act→World→Prop,Shut (∀a w,S w→(S w→nI P md ops Q S E fuel (listed.setIfInBounds i true) a w)→K' a w)→if Region.wanted o (yielded ops a.tmps)=true then Oper.wp P o a w K' Q else K' (a.put o.dst undef) w)
  (hr:Region.ready md ops listed = [i]:=by kernel_rfl) (ho:ops[i]? = some o:=by rfl):nI P md ops Q S E (fuel+1) listed a w:=Rn hr ho h
def M6 (md:Region.Mode)(ops:Array Oper)(E:List Nat)(l:Array Bool)(i:Nat):Bool:=Region.noSelect ops&&(Region.free md ops l i&&((Region.ready md ops l).contains i&&vv md ops l i E))
theorem KA {i : Nat} {o : Oper} {v : Value} {fuel : Nat} {l l2 : Array Bool} {a a2 : Act} {w : World} (g : ops[i]? = some o) (c : M6 md ops E l i = true) (hw : Region.wanted o (yielded ops a.tmps) = true) (y : ∀ w, S w → (execOp a.eval o).run P w = .ok (.value v) w) (hS : S w) (n : l.setIfInBounds i true = l2 ∧ a.put o.dst v = a2)
    (q:∀d v c a w,Q (.panic c) (Act.put a d v) w→Q (.panic c) a w) (h:nI P md ops Q S E fuel l2 a2 w):nI P md ops Q S E (fuel+1) l a w:=by
  simp only[M6,Bool.and_eq_true]at c
  obtain⟨rfl,rfl⟩:=n;exact mU g c.1 c.2.1 c.2.2.1 c.2.2.2 (q _ _) (Or.inl ⟨hw,y⟩) hS h
theorem KC {i : Nat} {o : Oper} {fuel : Nat} {l l2 : Array Bool} {a a2 : Act} {w : World} (g : ops[i]? = some o) (c : M6 md ops E l i = true) (hw : Region.wanted o (yielded ops a.tmps) = false) (hS : S w) (n : l.setIfInBounds i true = l2 ∧ a.put o.dst undef = a2)
    (q:∀d v c a w,Q (.panic c) (Act.put a d v) w→Q (.panic c) a w) (h:nI P md ops Q S E fuel l2 a2 w):nI P md ops Q S E (fuel+1) l a w:=by
  simp only[M6,Bool.and_eq_true]at c
  obtain⟨rfl,rfl⟩:=n;exact mU g c.1 c.2.1 c.2.2.1 c.2.2.2 (q _ _) (Or.inr ⟨hw,rfl⟩) hS h
theorem eO (i0 i1 i2 i3 : Nat) {o0 o1 o2 o3 : Oper} {fuel : Nat} {l0 l1 l2 l3 l4 : Array Bool} {a0 a1 a2 a3 a4 : Act} {w : World} (h : nI P md ops Q S E fuel l4 a4 w)
    (g0:ops[i0]? = some o0:=by rfl) (c0:M6 md ops E l0 i0=true:=by kernel_rfl) (w0:Region.wanted o0 (yielded ops a0.tmps)=false:=by rfl) (n0:l0.setIfInBounds i0 true=l1∧a0.put o0.dst undef=a1:=by refine⟨?_, ?_⟩ <;> (try simp only[qq]) <;> rfl)
    (g1:ops[i1]? = some o1:=by rfl) (c1:M6 md ops E l1 i1=true:=by kernel_rfl) (w1:Region.wanted o1 (yielded ops a1.tmps)=false:=by rfl) (n1:l1.setIfInBounds i1 true=l2∧a1.put o1.dst undef=a2:=by refine⟨?_, ?_⟩ <;> (try simp only[qq]) <;> rfl)
    (g2:ops[i2]? = some o2:=by rfl) (c2:M6 md ops E l2 i2=true:=by kernel_rfl) (w2:Region.wanted o2 (yielded ops a2.tmps)=false:=by rfl) (n2:l2.setIfInBounds i2 true=l3∧a2.put o2.dst undef=a3:=by refine⟨?_, ?_⟩ <;> (try simp only[qq]) <;> rfl)
    (g3:ops[i3]? = some o3:=by rfl) (c3:M6 md ops E l3 i3=true:=by kernel_rfl) (w3:Region.wanted o3 (yielded ops a3.tmps)=false:=by rfl) (n3:l3.setIfInBounds i3 true=l4∧a3.put o3.dst undef=a4:=by refine⟨?_, ?_⟩ <;> (try simp only[qq]) <;> rfl)
    (S0:S w:=by assumption) (q:∀d v c a w,Q (.panic c) (Act.put a d v) w→Q (.panic c) a w:=by first | exact fun _ _ _ _ _ h=>h | (intro d v c a w h;cases d <;> exact h)):nI P md ops Q S E (fuel+4) l0 a0 w:=KC g0 c0 w0 S0 n0 q (KC g1 c1 w1 S0 n1 q (KC g2 c2 w2 S0 n2 q (KC g3 c3 w3 S0 n3 q h)))
theorem aP (i0 i1 i2 i3 : Nat) {o0 o1 o2 o3 : Oper} {v0 v1 v2 v3 : Value} {fuel : Nat} {l0 l1 l2 l3 l4 : Array Bool} {a0 a1 a2 a3 a4 : Act} {w : World} (h : nI P md ops Q S E fuel l4 a4 w)
    (g0:ops[i0]? = some o0:=by rfl) (c0:M6 md ops E l0 i0=true:=by kernel_rfl) (w0:Region.wanted o0 (yielded ops a0.tmps)=true:=by rfl) (y0:∀w,S w→(execOp a0.eval o0).run P w = .ok (.value v0) w:=by intro wS hSw;have zS:=hO.out wS hSw;go_simp <;> with_reducible rfl) (n0:l0.setIfInBounds i0 true=l1∧a0.put o0.dst v0=a1:=by refine⟨?_, ?_⟩ <;> (try simp only[qq]) <;> rfl)
    (g1:ops[i1]? = some o1:=by rfl) (c1:M6 md ops E l1 i1=true:=by kernel_rfl) (w1:Region.wanted o1 (yielded ops a1.tmps)=true:=by rfl) (y1:∀w,S w→(execOp a1.eval o1).run P w = .ok (.value v1) w:=by intro wS hSw;have zS:=hO.out wS hSw;go_simp <;> with_reducible rfl) (n1:l1.setIfInBounds i1 true=l2∧a1.put o1.dst v1=a2:=by refine⟨?_, ?_⟩ <;> (try simp only[qq]) <;> rfl)
    (g2:ops[i2]? = some o2:=by rfl) (c2:M6 md ops E l2 i2=true:=by kernel_rfl) (w2:Region.wanted o2 (yielded ops a2.tmps)=true:=by rfl) (y2:∀w,S w→(execOp a2.eval o2).run P w = .ok (.value v2) w:=by intro wS hSw;have zS:=hO.out wS hSw;go_simp <;> with_reducible rfl) (n2:l2.setIfInBounds i2 true=l3∧a2.put o2.dst v2=a3:=by refine⟨?_, ?_⟩ <;> (try simp only[qq]) <;> rfl)
    (g3:ops[i3]? = some o3:=by rfl) (c3:M6 md ops E l3 i3=true:=by kernel_rfl) (w3:Region.wanted o3 (yielded ops a3.tmps)=true:=by rfl) (y3:∀w,S w→(execOp a3.eval o3).run P w = .ok (.value v3) w:=by intro wS hSw;have zS:=hO.out wS hSw;go_simp <;> with_reducible rfl) (n3:l3.setIfInBounds i3 true=l4∧a3.put o3.dst v3=a4:=by refine⟨?_, ?_⟩ <;> (try simp only[qq]) <;> rfl)
    (S0:S w:=by assumption) (q:∀d v c a w,Q (.panic c) (Act.put a d v) w→Q (.panic c) a w:=by first | exact fun _ _ _ _ _ h=>h | (intro d v c a w h;cases d <;> exact h)):nI P md ops Q S E (fuel+4) l0 a0 w:=KA g0 c0 w0 y0 S0 n0 q (KA g1 c1 w1 y1 S0 n1 q (KA g2 c2 w2 y2 S0 n2 q (KA g3 c3 w3 y3 S0 n3 q h)))
theorem oz (i:Nat) {o:Oper} {fuel:Nat} {listed:Array Bool} {a:Act} {w:World}
  (h:∀K':Act→World→Prop,Shut (∀a w,nI P md ops Q S E fuel (listed.setIfInBounds i true) a w→K' a w)→if Region.wanted o (yielded ops a.tmps)=true then Oper.wp P o a w K' Q else K' (a.put o.dst undef) w)
  (hr:Region.ready md ops listed = [i]:=by kernel_rfl) (hE:i∈E:=by simp) (ho:ops[i]? = some o:=by rfl):nI P md ops Q S E (fuel+1) listed a w:=Nl hr hE ho h
theorem gM {fuel:Nat} {listed:Array Bool} {a:Act} {w:World} (h:Q .normal a w)(hr:Region.ready md ops listed = []:=by kernel_rfl):nI P md ops Q S E fuel listed a w:=Nn hr h fuel
theorem uG {id:Nat} {a:Act} {w:World} (B:World→Prop)(E:List Nat)(hS:Hid (B w.drew))(h:Hid (B w.drew)→nI P .any ops Q (fun u=>Hid (B u)) E ops.size (Array.replicate ops.size false) a w.drew)
  (hm:P.follows .mixedOrders=true:=by kernel_rfl):(Code.region id ops true).wp P Q a w:=bV hm hS h
theorem jq {id:Nat} {a:Act} {w b:World} (E:List Nat)(hS:Hid (Below b.heap.size b w))(h:Hid (Below b.heap.size b w.drew)→nI P .any ops Q (fun u=>Hid (Below b.heap.size b u)) E ops.size (Array.replicate ops.size false) a w.drew)
  (hm:P.follows .mixedOrders=true:=by kernel_rfl):(Code.region id ops true).wp P Q a w:=bV hm (bJ hS (Below.refl _ _).drew) h
end
namespace sH
def Cg (q a b:Int):Prop:=∃t,a=b+q*t
theorem Cg.refl (q a:Int):Cg q a a:=⟨0,by simp⟩
theorem Cg.symm {q a b:Int} (h:Cg q a b):Cg q b a:=by obtain⟨t,h⟩:=h;exact⟨-t,by rw[h];grind⟩
theorem Cg.trans {q a b c:Int} (h:Cg q a b)(h2:Cg q b c):Cg q a c:=by obtain⟨t,h⟩:=h;obtain⟨s,h2⟩:=h2;exact⟨s+t,by rw[h,h2];grind⟩
theorem Cg.add {q a b c d:Int} (h:Cg q a b)(h2:Cg q c d):Cg q (a+c) (b+d):=by obtain⟨t,h⟩:=h;obtain⟨s,h2⟩:=h2;exact⟨s+t,by rw[h,h2];grind⟩
theorem Cg.mul {q a b c d:Int} (h:Cg q a b)(h2:Cg q c d):Cg q (a*c) (b*d):=by obtain⟨t,h⟩:=h;obtain⟨s,h2⟩:=h2;exact⟨b*s+d*t+q*s*t,by rw[h,h2];grind⟩
theorem Cg.mod (q a:Int):Cg q (a%q) a:=⟨-(a / q),by have:=Int.emod_add_mul_ediv a q;grind⟩
theorem Cg.of_eq {q a b:Int} (h:a=b):Cg q a b:=h▸Cg.refl q a
theorem Cg.eq {q a b:Int} (h:Cg q a b):a%q=b%q:=by obtain⟨t,h⟩:=h;rw[h,Int.add_mul_emod_self_left]
def gp (xs:Nat→Int)(x:Int):Nat→Int
 | 0=>1
 | m+1=>gp xs x m*(x-xs m)
def Un (q a:Int):Prop:=∃y,Cg q (y*a) 1
theorem Un.mul {q a b:Int} (h:Un q a)(h2:Un q b):Un q (a*b):=by
 obtain⟨y,h⟩:=h;obtain⟨z,h2⟩:=h2;exact⟨y*z,(Cg.of_eq (by grind)).trans ((h.mul h2).trans (Cg.of_eq (by grind)))⟩
def pv:List Int→Int→Int
 | [],_=>0
 | c::t,x=>c+x*pv t x
def hv (q:Int):List Int→Int→Int
 | [],_=>0
 | c::t,x=>(hv q t x*x%q+c)%q
end sH
open Go.RowKit sH
def uA (a m x:Int):Prop:=0≤x∧x<m∧(x*a%m=1∨(x=0∧∀y,y*a%m≠1))
theorem Es {a m x y:Int} (hx:uA a m x)(hy:uA a m y):x=y:=by
 obtain⟨x0,x1,hx⟩:=hx;obtain⟨y0,y1,hy⟩:=hy;rcases hx with hx | ⟨rfl,hx⟩
 ·
  rcases hy with hy | ⟨rfl,hy⟩
  ·
   have h1:x*(y*a)%m=x%m:=by rw[Int.mul_emod,hy,Int.mul_one,Int.emod_emod_of_dvd _ (Int.dvd_refl m)]
   have h2:x*(y*a)%m=y%m:=by
    rw[show x*(y*a)=y*(x*a) by rw[←Int.mul_assoc,←Int.mul_assoc,Int.mul_comm x y],Int.mul_emod,hx,Int.mul_one,Int.emod_emod_of_dvd _ (Int.dvd_refl m)]
   have h3:=h1.symm.trans h2
   rwa [Int.emod_eq_of_lt x0 x1,Int.emod_eq_of_lt y0 y1]at h3
  · exact absurd hx (hy x)
 ·
  rcases hy with hy | ⟨rfl,hy⟩
  · exact absurd hy (hx y)
  · rfl
theorem OE {a m d:Int} (h1:d ∣ a)(h2:d ∣ m)(h0:0<d)(hne:d≠1)(y:Int):y*a%m≠1:=by
 intro h;have h3:d ∣ y*a:=Int.dvd_mul_of_dvd_right h1;have h4:d ∣ m*(y*a / m):=Int.dvd_mul_of_dvd_left h2;have h5:d ∣ y*a-m*(y*a / m):=Int.dvd_sub h3 h4;have h6:y*a-m*(y*a / m)=1:=by have:=Int.emod_add_mul_ediv (y*a) m;omega
 rw[h6]at h5;have:=Int.le_of_dvd (by omega) h5
 omega
def TR (a m:Int)(w:World)(e:Ending)(w':World):Prop:=
 ∃x r:Int,e = .returned (.tuple #[.int .i64 x, .int .i64 r])∧uA a m x∧∃n,w'=w.drewN n
theorem Nq (a m:Int)(h1:2≤m)(h2:m<2305843009213693952)(ha0:0≤a)(ha:a<m)(w:World) :
  Calls Tryz.prog 148 #[.int .i64 a, .int .i64 m] w (TR a m w):=by
 have hc:=aa (yP (by omega) h2 ha0 ha ha0 ha);go_in
 go_wp2_with (go_at_call 96;refine(lF _ _ _ _).mono ?_;rintro e w' ⟨rfl,rfl⟩;rw[hc.out])
 refine(BG a m (by omega) h2 ha0 ha _).mono ?_;rintro e w' ⟨d,x,k,rfl,hx0,hx1,hd1,hd2,hd0,hd,hk,n,rfl⟩
 by_cases GM:d=1
 ·
  have h1d:(d == 1)=true:=by simp[GM]
  have h1n:(d != 1)=false:=by simp[GM]
  have HX:Hid (uA a m x):=aa ⟨hx0,hx1, .inl (by rw[hk,GM,Int.add_mul_emod_self_left];exact jG h1)⟩;clear hk hd1 hd2 hd0 hd GM;go_wp2;go_ret2;exact⟨x,0,rfl,HX.out,n,rfl⟩
 ·
  have h1d:(d == 1)=false:=by simp[GM]
  have h1n:(d != 1)=true:=by simp[GM]
  have HX:Hid (uA a m 0):=aa ⟨by omega,by omega, .inr ⟨rfl,OE hd1 hd2 hd0 GM⟩⟩;clear hk hd1 hd2 hd0 hd GM;go_wp2;go_ret2;exact⟨0,10,rfl,HX.out,n,rfl⟩
theorem C8 (a:Int)(ha0:0≤a)(ha:a<9223372036854775808)(w:World) :
  Calls Tryz.prog 191 #[.int .i64 a] w fun e w'=>e = .returned (.int .u64 a)∧w=w':=by
 have h1:decide (a<0)=false:=by simp;omega
 have h2:IntKind.u64.wrap a=a:=by rw[IntKind.wrap_u64];omega
 go_in;go_wp2;go_ret;exact⟨rfl,rfl⟩
def y9 (a m x y:Int):Prop:=0≤x∧0≤y∧x≤m∧y≤m∧(0<x∨0<y)∧(∀c,(c ∣ x∧c ∣ y)↔(c ∣ a∧c ∣ m))
theorem zk {a m x y:Int} (h:y9 a m x y)(hy:0<y):y9 a m y (x%y):=by
 obtain⟨h1,h2,h3,h4,h5,h6⟩:=h;have e1:0≤x%y:=Int.emod_nonneg _ (by omega);have e2:x%y<y:=Int.emod_lt_of_pos _ hy;refine⟨h2,e1,h4,by omega, .inl hy,fun c=>⟨fun⟨c1,c2⟩=>?_,fun⟨c1,c2⟩=>?_⟩⟩
 ·
  refine(h6 c).1 ⟨?_,c1⟩;have:c ∣ x%y+y*(x / y):=Int.dvd_add c2 (Int.dvd_mul_of_dvd_left c1)
  rwa [Int.emod_add_mul_ediv]at this
 ·
  obtain⟨k1,k2⟩:=(h6 c).2 ⟨c1,c2⟩;refine⟨k2, ?_⟩;have:c ∣ x-y*(x / y):=Int.dvd_sub k1 (Int.dvd_mul_of_dvd_left k2)
  rwa [show x-y*(x / y)=x%y by have:=Int.emod_add_mul_ediv x y;omega]at this
def Qz (a m g:Int):Prop:=0<g∧g≤m∧g ∣ a∧g ∣ m∧∀c,c ∣ a→c ∣ m→c ∣ g
theorem zl {a m x:Int} (h:y9 a m x 0):Qz a m x:=by
 obtain⟨h1,h2,h3,h4,h5,h6⟩:=h;obtain⟨c1,c2⟩:=(h6 x).1 ⟨Int.dvd_refl x,Int.dvd_zero x⟩;exact⟨by omega,h3,c1,c2,fun c k1 k2=>((h6 c).2 ⟨k1,k2⟩).1⟩
def YT (a m:Int)(w:World)(e:Ending)(w':World):Prop:=∃g:Int,e = .returned (.int .i64 g)∧Qz a m g∧∃n,w'=w.drewN n
theorem Og (a m:Int)(h1:1≤m)(h2:m<2305843009213693952)(ha0:0≤a)(ha:a<m)(w:World) :
  Calls Tryz.prog 160 #[.int .i64 a, .int .i64 m] w (YT a m w):=by
 have HS:Hid (y9 a m a m):=aa ⟨by omega,by omega,by omega,by omega, .inr (by omega),fun c=>Iff.rfl⟩;go_in
 go_wp2_with fail
 refine(C8 a ha0 (by omega) _).mono ?_;rintro e w' ⟨rfl,rfl⟩
 go_wp2_with fail
 refine(C8 m (by omega) (by omega) _).mono ?_;rintro e w' ⟨rfl,rfl⟩;go_wp2
 go_loopw [5,6] (fun u v wr=>∃x y:Int,u = .int .u64 x∧v = .int .u64 y∧Hid (y9 a m x y)∧∃n,wr=w.drewN n) (fun _ v _=>(intOf v).toNat)
 case atStart=>exact⟨a,m,rfl,rfl,HS,0,rfl⟩
 case round=>
  obtain⟨x,y,rfl,rfl,HR,n,rfl⟩:=hrel;obtain⟨x0,y0,x1,y1,_⟩:=HR.out
  by_cases hy:y=0
  ·
   subst hy;have HD:=aa (zl HR.out);have hne:((x:Int) == 9223372036854775808)=false:=by simp;omega
   have hcv:IntKind.i64.wrap x=x:=IntWalk.i64_in _ (by omega);clear HR;go_wp2;go_ret;exact⟨x,rfl,HD.out,n,rfl⟩
  ·
   have hyp:0<y:=by omega
   have d1:decide (0<y)=true:=by simp;omega
   have d2:((y:Int) == 0)=false:=by simp[hy]
   have HN:=aa (zk HR.out hyp);have l2:x%y<y:=Int.emod_lt_of_pos _ hyp;have l1:0≤x%y:=Int.emod_nonneg _ (by omega);clear HR hy;go_wp2
   go_quiet (fail)
   go_wp2
   go_roundw
   case rel=>exact⟨y,x%y,rfl,rfl,HN,_,by first | rfl | exact World.drewN_drewN _ _ _⟩
   case measure=>simp[intOf];omega
def DJ (a m u v x y:Int):Prop:=y9 a m u v∧0≤x∧x<m∧0≤y∧y<m∧(∃k,x*a=u+m*k)∧(∃k,y*a=v+m*k)
theorem Ga {a m:Int} (h1:2≤m)(ha0:0≤a)(ha:a<m):DJ a m a m (1%m) 0:=by
 rw[jG h1];exact⟨⟨by omega,by omega,by omega,by omega, .inr (by omega),fun c=>Iff.rfl⟩,by omega,by omega,by omega,by omega,⟨0,by omega⟩,⟨-1,by omega⟩⟩
theorem I6 {a m u v x y:Int} (h:DJ a m u v x y)(hv:0<v):DJ a m v (u-u / v*v) y ((x-(u / v%m)*y%m)%m)∧0≤u / v∧u / v≤m∧0≤u / v*v∧u / v*v≤u∧u-u / v*v<v:=by
 obtain⟨hg,x0,x1,y0,y1,⟨k1,hk1⟩,⟨k2,hk2⟩⟩:=h;have hs:=zk hg hv;obtain⟨g1,g2,g3,g4,g5,g6⟩:=hg;have e1:u-u / v*v=u%v:=by have:=Int.emod_add_mul_ediv u v;rw[Int.mul_comm]at this;omega
 have e2:0≤u%v:=Int.emod_nonneg _ (by omega);have e3:u%v<v:=Int.emod_lt_of_pos _ hv;have e4:0≤u / v:=Int.ediv_nonneg g1 (by omega);have e5:0≤u / v*v:=Int.mul_nonneg e4 (by omega);have e6:u / v≤u / v*v:=by have:=Int.mul_le_mul_of_nonneg_left (show(1:Int)≤v by omega) e4;omega
 have hm:0<m:=by omega
 refine⟨⟨by rw[e1];exact hs,y0,y1,Int.emod_nonneg _ (by omega),Int.emod_lt_of_pos _ hm,⟨k2,hk2⟩, ?_⟩,e4,by omega,e5,by omega,by omega⟩
 -- the new U2
 obtain⟨q,hq⟩:∃q,u / v=q:=⟨_,rfl⟩;rw[hq]at e1 ⊢
 have c1:∃t,(q%m)*y%m=q*y+m*t:=by
  refine⟨-(q / m*y)-((q%m)*y / m), ?_⟩;have h1:=Int.emod_add_mul_ediv ((q%m)*y) m
  have h2:(q%m)*y=q*y-m*(q / m*y):=by
   have:=Int.emod_add_mul_ediv q m;rw[show q%m=q-m*(q / m) by omega,Int.sub_mul,Int.mul_assoc]
  rw[Int.mul_sub,Int.mul_neg]
  omega
 obtain⟨t,ht⟩:=c1;obtain⟨s,hs2⟩:∃s,(x-(q%m)*y%m)%m=x-(q%m)*y%m+m*s:=⟨-((x-(q%m)*y%m) / m),by have:=Int.emod_add_mul_ediv (x-(q%m)*y%m) m;rw[Int.mul_neg];omega⟩;refine⟨k1-q*k2+(s-t)*a, ?_⟩;rw[hs2,ht];obtain⟨e,he⟩:∃e,s-t=e:=⟨_,rfl⟩;rw[he,show x-(q*y+m*t)+m*s=x-q*y+m*e by rw[←he,Int.mul_sub];omega,Int.add_mul,Int.sub_mul,hk1,Int.mul_assoc q y a,hk2,Int.mul_add q,Int.mul_add m,Int.mul_sub m,←Int.mul_assoc q m,Int.mul_comm q m,Int.mul_assoc m q,Int.mul_assoc m e a]
 omega
theorem I7 {a m u x y g:Int} (h1:2≤m)(h:DJ a m u 0 x y)(hg:Qz a m g)(h1g:g=1):uA a m x∧x*a%m=1:=by
 obtain⟨hG,x0,x1,y0,y1,⟨k1,hk1⟩,_⟩:=h;obtain⟨d1,d2,d3,d4,d5⟩:=zl hG;have hu:u ∣ 1:=by rw[←h1g];exact hg.2.2.2.2 u d3 d4
 have hu1:u=1:=by have:=Int.le_of_dvd (by omega) hu;omega
 have he:x*a%m=1:=by
  rw[hk1,hu1,Int.add_mul_emod_self_left];exact jG h1
 exact⟨⟨x0,x1, .inl he⟩,he⟩
def TT (a m:Int)(w:World)(e:Ending)(w':World):Prop:=
 ∃(x:Int) (b:Bool),e = .returned (.tuple #[.int .i64 x, .bool b])∧uA a m x∧(b=true↔∃y,y*a%m=1)∧∃n,w'=w.drewN n
theorem Oc (a m:Int)(h1:2≤m)(h2:m<2305843009213693952)(ha0:0≤a)(ha:a<m)(w:World) :
  Calls Tryz.prog 108 #[.int .i64 a, .int .i64 m] w (TT a m w):=by
 have hmz:((m:Int) == 0)=false:=by simp;omega
 have HS:Hid (DJ a m a m (1%m) 0):=aa (Ga h1 ha0 ha);go_in
 go_wp2_with fail
 refine(Og a m (by omega) h2 ha0 ha _).mono ?_;rintro e w' ⟨g,rfl,hg,n0,rfl⟩
 by_cases hg1:g=1
 ·
  have d1:(g == 1)=true:=by simp[hg1]
  have d2:(g != 1)=false:=by simp[hg1]
  have HG:=aa hg;have QW:=aa hg1;clear hg hg1;go_wp2
  go_loopw [6,7,8,9] (fun u v s t wr=>∃u' v' x y:Int,u = .int .i64 u'∧v = .int .i64 v'∧s = .int .i64 x∧t = .int .i64 y∧Hid (DJ a m u' v' x y)∧∃n,wr=w.drewN n) (fun u v _ _ _=>(intOf v).toNat)
  case atStart=>exact⟨a,m,1%m,0,rfl,rfl,rfl,rfl,HS,n0,rfl⟩
  case round=>
   obtain⟨u,v,x,y,rfl,rfl,rfl,rfl,HR,n,rfl⟩:=hrel
   by_cases hv:v=0
   ·
    subst hv;have HD:=aa (I7 h1 HR.out HG.out QW.out);clear HR;go_wp2;go_ret2;exact⟨x,true,rfl,HD.out.1,⟨fun _=>⟨x,HD.out.2⟩,fun _=>rfl⟩,n,rfl⟩
   ·
    obtain⟨⟨u0,v0,u1,v1,_⟩,x0,x1,y0,y1,_⟩:=HR.out;have hvp:0<v:=by omega
    have d1:((v:Int) == 0)=false:=by simp[hv]
    have d2:((v:Int) != 0)=true:=by simp[hv]
    obtain⟨hst,s1,s2,s3,s4,s5⟩:=I6 HR.out hvp;obtain⟨q,hq⟩:∃q,u / v=q:=⟨_,rfl⟩;rw[hq]at hst s1 s2 s3 s4 s5;obtain⟨qv,YY⟩:∃t,q*v=t:=⟨_,rfl⟩;rw[YY]at hst s3 s4 s5;obtain⟨r,hr⟩:∃r,q%m=r:=⟨_,rfl⟩;obtain⟨p,hp⟩:∃p,r*y%m=p:=⟨_,rfl⟩;obtain⟨z,hz⟩:∃z,(x-p)%m=z:=⟨_,rfl⟩;rw[hr,hp,hz]at hst;have r0:0≤r:=by rw[←hr];exact Int.emod_nonneg _ (by omega)
    have r1:r<m:=by rw[←hr];exact Int.emod_lt_of_pos _ (by omega)
    have p0:0≤p:=by rw[←hp];exact Int.emod_nonneg _ (by omega)
    have p1:p<m:=by rw[←hp];exact Int.emod_lt_of_pos _ (by omega)
    have HST:=aa hst;have Yf:=aa hr;have HPp:=aa hp;have HZz:=aa hz;have aix:IntKind.i64.wrap (x-p)=x-p:=IntWalk.i64_in _ (by omega);clear hst HR hr hp hz hv
    go_wp2_with fail
    refine(pY q m r Yf (by omega) h2 (by omega) (by omega) _).mono ?_;rintro e w' ⟨rfl,rfl⟩
    go_wp2_with fail
    refine(gV r y m p HPp h2 r0 r1 y0 y1 _).mono ?_;rintro e w' ⟨rfl,rfl⟩
    go_wp2_with fail
    refine(pY (x-p) m z HZz (by omega) h2 (by omega) (by omega) _).mono ?_;rintro e w' ⟨rfl,rfl⟩;go_wp2
    go_roundw
    case rel=>exact⟨v,u-qv,y,z,rfl,rfl,rfl,rfl,HST,_,rfl⟩
    case measure=>simp[intOf];omega
 ·
  have d1:(g == 1)=false:=by simp[hg1]
  have d2:(g != 1)=true:=by simp[hg1]
  have Uf:Hid (∀y,y*a%m≠1):=aa (OE hg.2.2.1 hg.2.2.2.1 hg.1 hg1);have HD:Hid (uA a m 0):=aa ⟨by omega,by omega, .inr ⟨rfl,Uf.out⟩⟩;clear hg hg1;go_wp2;go_ret2;exact⟨0,false,rfl,HD.out,⟨fun h=>(by cases h),fun⟨y,hy⟩=>absurd hy (Uf.out y)⟩,n0,rfl⟩
noncomputable def xO (a m:Int):Int:= @dite _ (∃x,uA a m x) (Classical.propDecidable _) (fun h=>Classical.choose h) (fun _=>0)
noncomputable def aal (a m:Int):Bool:= @decide (∃y,y*a%m=1) (Classical.propDecidable _)
theorem GD {a m x:Int} (h:uA a m x):xO a m=x:=by
 have he:∃x,uA a m x:=⟨x,h⟩;unfold xO;rw[dif_pos he];exact Es (Classical.choose_spec he) h
theorem Ob (a m x:Int)(b:Bool)(hx:Hid (xO a m=x))(hb:Hid (aal a m=b))(h1:2≤m)(h2:m<2305843009213693952)(ha0:0≤a)(ha:a<m)(w:World) :
  Calls Tryz.prog 108 #[.int .i64 a, .int .i64 m] w fun e w'=>e = .returned (.tuple #[.int .i64 x, .bool b])∧∃n,w'=w.drewN n:=
 (Oc a m h1 h2 ha0 ha w).mono fun e w' ⟨x',b',he,hi,hb',hn⟩=>by
  obtain rfl:x'=x:=(GD hi).symm.trans hx.out
  obtain rfl:b'=b:=by
   rw[←hb.out,aal,Bool.eq_iff_iff]
   simp only[decide_eq_true_eq]
   exact hb'
  exact⟨he,hn⟩
end Go.Proofs.YtchcllcbknfikaaGreatDoor