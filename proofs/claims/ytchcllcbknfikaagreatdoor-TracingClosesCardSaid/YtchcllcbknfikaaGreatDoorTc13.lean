/- TRACINGCLOSES: Close returns the trail of the reference and the key, or the specified errors: the law returns true for every input. Condition: the listed package variables (the bases of the prime test, the table of math/bits, the constants and the start of the digest) start as the program's text lays them; the card ties them to the text. -/
import Derived.Test.YtchcllcbknfikaaGreatDoorTc12
set_option linter.unusedVariables false
set_option linter.unusedSimpArgs false
set_option maxRecDepth 100000
set_option maxHeartbeats 25600000
namespace Go.Proofs.YtchcllcbknfikaaGreatDoor.tracingCloses
open Go.ChangeShapes Go.WideShapes Go.ChangeAt Go.RowKit sH
theorem contract (H:Type)(enc:TypeId × Value→H)(W:World)(base:Nat)(args:Array Value)(ds gs:List (DataW H))(before:List MemPlace)
  (hval:∀(j:Nat) t v,Tryz.f7.params[j]? = some t→args[j]? = some v→Value.okWide Tryz.prog W .any base t v)
  (hW:DataW.Whole enc Tryz.prog Tryz.f7.params.toList Rows.tracingClosesSpec.vars false W args.toList ds gs before) (hL:laidMetH Tryz.prog Rows.tracingClosesRow.laid W) :
  Calls Tryz.prog 7 args W fun e W'=>∃v,e = .returned v∧Rows.tracingClosesSpec.post enc Tryz.prog Tryz.f7 false true false false W args v W':=by
 have hW':=hW;obtain⟨p,q,hA0,hV,rfl,hfz,hnd⟩:=hW;have hA:DataW.TrodAll enc Tryz.prog W 0 (fun _=>true) true Tryz.f7.params.toList args.toList ds p:=hA0;rw[Tryz.params7]at hA hval;obtain⟨v0,vs0,d0,ds0,p0,q0,hargs,rfl,rfl,h0,r0⟩:=trodAll_cons hA;obtain⟨v1,vs1,d1,ds1,p1,q1,rfl,rfl,rfl,h1,r1⟩:=trodAll_cons r0;obtain⟨v2,vs2,d2,ds2,p2,q2,rfl,rfl,rfl,h2,r2⟩:=trodAll_cons r1;obtain⟨v3,vs3,d3,ds3,p3,q3,rfl,rfl,rfl,h3,r3⟩:=trodAll_cons r2;obtain⟨rfl,rfl,rfl⟩:=trodAll_nil r3;obtain rfl:args = #[v0,v1,v2,v3]:=by cases args;simp_all
 obtain⟨rfl,rfl⟩:=trodVars_none hV;obtain⟨P,Q,G,rfl,⟨hP0,hP1⟩,⟨Fg,UW⟩,_⟩:=Jc (hval 0 _ v0 rfl rfl) h0;obtain⟨need,Cs,cn,cc,cs,Ks,kn,kc,ks,rfl,_,_,hcn,hkn,oC,oK⟩:=Ov (hval 1 _ v1 rfl rfl) h1;obtain⟨O,n,c,os,K,m,d,hs,rfl,hn,hm,oO,oH,hI⟩:=Ow (hval 2 _ v2 rfl rfl) h2;obtain⟨i,rfl,_,_⟩:=Ox (hval 3 _ v3 rfl rfl) h3;have hvars:=Cu hL;refine(RF P Q G need Cs cs cn cc Ks ks kn kc (aa hcn) (aa hkn) (by omega) O os n c K hs m d (aa hn) (aa hm) (aa hI) i W (aa hvars.1) (aa hvars.2) (aa oC) (aa oK) (aa oO) (aa oH)).mono fun e W' ⟨he,hb⟩=>?_;exact⟨_,he,OT (by decide +kernel) rfl rfl hW' rfl hb⟩
theorem OU (os:Go.Os):laidMet Tryz.prog Rows.tracingClosesRow.laid ((vU os).forCall (fun _ _=>0) ⟨#[],#[.agg #[.int .i64 0, .int .i64 0, .int .i64 0], .agg #[.int .i64 0, .slice none 0 0, .slice none 0 0], .agg #[.slice none 0 0, .slice none 0 0], .int .i64 0], []⟩).memory:=
 laidMet_of_run' 8 (by kernel_rfl) (by kernel_rfl)
theorem reads (os:Go.Os) {H:Type} (enc:TypeId × Value→H):∃places,DataW.whole enc Tryz.prog ((vU os).forCall (fun _ _=>0) ⟨#[],#[.agg #[.int .i64 0, .int .i64 0, .int .i64 0], .agg #[.int .i64 0, .slice none 0 0, .slice none 0 0], .agg #[.slice none 0 0, .slice none 0 0], .int .i64 0], []⟩).memory Tryz.f7.params.toList Rows.tracingClosesSpec.vars false
  #[.agg #[.int .i64 0, .int .i64 0, .int .i64 0], .agg #[.int .i64 0, .slice none 0 0, .slice none 0 0], .agg #[.slice none 0 0, .slice none 0 0], .int .i64 0].toList 8=some ([.agg [.lit (.int .i64 0), .lit (.int .i64 0), .lit (.int .i64 0)], .agg [.lit (.int .i64 0), .nil, .nil], .agg [.nil, .nil], .lit (.int .i64 0)], [],places):=
 ⟨[],by kernel_rfl⟩
theorem lifted (os:Go.Os)(started:os.Started)(H:Type)(enc:TypeId × Value→H)(F:Stop.Interp) :
  ReturnsInHanded {} Tryz.checked os 7 .any ((OpenSpec.ofChange Rows.tracingClosesSpec).preRow enc Tryz.prog Tryz.f7 Rows.tracingClosesRow.domain false Rows.tracingClosesRow.laid) (((OpenSpec.ofChange Rows.tracingClosesSpec).at F).post enc Tryz.prog Tryz.f7 false true false false):=by
 obtain⟨places,hx⟩:=reads os enc
 refine returnsInHanded_of_row (C:=Tryz.checked) (s:=OpenSpec.ofChange Rows.tracingClosesSpec) own started (by kernel_rfl) Tryz.func7
  (witness_row_at (enc:=enc) (C:=Tryz.checked) false (vU os) #[.agg #[.int .i64 0, .int .i64 0, .int .i64 0], .agg #[.int .i64 0, .slice none 0 0, .slice none 0 0], .agg #[.slice none 0 0, .slice none 0 0], .int .i64 0] rfl (by kernel_rfl) (by kernel_rfl) (by kernel_rfl)
   (OpenSpec.preRow_of_cond 8 hx (by kernel_rfl) (fun k hk=>by cases hk) (by kernel_rfl) (OU os))) ?_
 intro W base args ds gs before hval hW _ _ _ hL _ _;exact contract H enc W base args ds gs before hval hW hL
theorem said:Rows.TracingClosesSaid:=
 OpenClaim.holds_of_cond 7 Tryz.f7 rfl rfl rfl rfl rfl rfl rfl ⟨rfl,rfl,rfl,rfl,rfl⟩ rfl rfl rfl rfl rfl (by kernel_rfl) Tryz.func7 (by kernel_rfl)
  (of_decide_eq_true (by kernel_rfl)) (by unfold Func.isWrapper;first | (rw[if_pos (by decide +kernel)];kernel_rfl) | (rw[if_neg (by decide +kernel)];exact⟨rfl,rfl⟩))
  (fun os started H enc _ F=>by rw[OpenClaim.pre_eq_preRow];exact lifted os started H enc F)
/-- No parameter wants a stand-in; the program's own looks are off: what the card asks. -/
theorem plain (f:FuncId)(fn:Func)(hf:Tryz.pinned.checked.prog.funcNamed "specie/specielaw51.TracingCloses" = some f)(hfn:Tryz.pinned.checked.prog.funcs[f]? = some fn) :
  false=Tryz.pinned.checked.prog.looks []∧∀(j:Nat) t,fn.params[j]? = some t→Tryz.pinned.checked.prog.wantsStandIn t=false:=by
 obtain rfl:f=7:=Option.some.inj ((show Tryz.prog.funcNamed "specie/specielaw51.TracingCloses" = some 7 by kernel_rfl).symm.trans hf) |>.symm
 obtain rfl:fn=Tryz.f7:=(Option.some.inj (Tryz.func7.symm.trans hfn)).symm;refine⟨by kernel_rfl,fun j t ht=>?_⟩;have hall:∀t∈Tryz.f7.params.toList,Tryz.prog.wantsStandIn t=false:=by decide +kernel
 exact hall t (Array.mem_toList_iff.2 (Array.mem_of_getElem? ht))
/-- THE CARD. -/
theorem card:Rows.TracingClosesCardSaid:=
 Claim7.holds_tied_plain_at .later [] _ _ _ _ said (fun _ h=>by cases h) (by kernel_rfl) (fun _ h=>by cases h) tracingCloses_row_tie rfl ⟨rfl,rfl⟩ (by kernel_rfl) rfl plain (by kernel_rfl)
end Go.Proofs.YtchcllcbknfikaaGreatDoor.tracingCloses