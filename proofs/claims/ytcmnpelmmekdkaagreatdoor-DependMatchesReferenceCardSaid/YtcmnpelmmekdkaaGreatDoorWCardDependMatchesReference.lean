/- DependMatchesReference: for every input the law returns true, and each argument reads as before; the card ties the table that it reads to the program's text. Conditions: none beyond the row's own. -/
import Derived.Test.YtcmnpelmmekdkaaGreatDoorW14
import Derived.Test.YtcmnpelmmekdkaaGreatDoorCards
import Derived.Test.YtcmnpelmmekdkaaGreatDoorTie
set_option linter.unusedVariables false
set_option linter.unusedSimpArgs false
namespace Go.Proofs.YtcmnpelmmekdkaaGreatDoor.dependMatchesReference
open Go Go.aA Go.ChangeShapes Go.WideShapes Go.ChangeAt Go.RowKit
set_option maxRecDepth 100000
theorem acX(xs:List DV)(h:vw E Tryz.f3.params.toList xs):au E 3 xs (· = .bool true):=by
 have h:vw E [29,9,9] xs:=h;obtain⟨x0,xs0,rfl,h0,r0⟩:=GR h;obtain⟨a0,rfl,g0⟩:=P.VP h0.1 h0.2;obtain⟨x1,xs1,rfl,h1,r1⟩:=GR r0;obtain⟨a1,rfl,g1⟩:=P.MR h1.1 h1.2;obtain⟨x2,xs2,rfl,h2,r2⟩:=GR r1;obtain⟨a2,rfl,g2⟩:=P.MR h2.1 h2.2;obtain rfl:xs2=[]:=r2;exact P.acW a0 a1 a2 g0 g1 g2
theorem acZ(H:Type)(enc:TypeId × Value->H)(W:World)(base:Nat)(args:Array Value)(ds gs:List (DataW H))(before:List MemPlace)
  (bW:∀ (j:Nat) t v,Tryz.f3.params[j]?=some t->args[j]?=some v->Value.okWide Tryz.prog W .any base t v)
  (hW:DataW.Whole enc Tryz.prog Tryz.f3.params.toList Rows.dependMatchesReferenceSpec.vars false W args.toList ds gs before) (hL:laidMetH Tryz.prog Rows.dependMatchesReferenceRow.laid W) :
  Calls Tryz.prog 3 args W fun e W'=>∃ v,e=.returned v/\Rows.dependMatchesReferenceSpec.post enc Tryz.prog Tryz.f3 false true false false W args v W' :=
 V0 (tb:=4) bW hW (V4 (laid:=Rows.dependMatchesReferenceRow.laid) hL (List.mem_singleton.2 rfl)) (by kernel_rfl) (V3 (by kernel_rfl)) rfl rfl (by kernel_rfl)
  (fun ds hd=>by
   have hd:ds.length=3:=hd
   match ds,hd with
   |[_,_,_],_=>exact⟨rfl,rfl,rfl⟩) acX
theorem ac0(os:Os):laidMet Tryz.prog Rows.dependMatchesReferenceRow.laid ((GS os).forCall (fun _ _=>0) ⟨#[],#[.agg #[.slice none 0 0,.slice none 0 0,.string ⟨#[]⟩,.int .i64 0,.int .i64 0,.slice none 0 0,.slice none 0 0],.string ⟨#[]⟩,.string ⟨#[]⟩],[]⟩).memory :=
 laidMet_of_run' 8 (by kernel_rfl) (by kernel_rfl)
theorem reads(os:Os){H:Type}(enc:TypeId × Value->H):∃ places,DataW.whole enc Tryz.prog ((GS os).forCall (fun _ _=>0) ⟨#[],#[.agg #[.slice none 0 0,.slice none 0 0,.string ⟨#[]⟩,.int .i64 0,.int .i64 0,.slice none 0 0,.slice none 0 0],.string ⟨#[]⟩,.string ⟨#[]⟩],[]⟩).memory Tryz.f3.params.toList Rows.dependMatchesReferenceSpec.vars false (#[.agg #[.slice none 0 0,.slice none 0 0,.string ⟨#[]⟩,.int .i64 0,.int .i64 0,.slice none 0 0,.slice none 0 0],.string ⟨#[]⟩,.string ⟨#[]⟩]:Array Value).toList 8=some ([.agg [.nil,.nil,.agg [.lit (.string []),.lit (.int .i64 0),.lit (.int .i64 0),.nil],.nil],.lit (.string []),.lit (.string [])],[],places) :=
 ⟨[],by kernel_rfl⟩
theorem lifted(os:Os)(started:os.Started)(H:Type)(enc:TypeId × Value->H)(F:Stop.Interp) :
  ReturnsInHanded {} Tryz.checked os 3 .any ((OpenSpec.ofChange Rows.dependMatchesReferenceSpec).preRow enc Tryz.prog Tryz.f3 Rows.dependMatchesReferenceRow.domain false Rows.dependMatchesReferenceRow.laid) (((OpenSpec.ofChange Rows.dependMatchesReferenceSpec).at F).post enc Tryz.prog Tryz.f3 false true false false):=by
 obtain⟨places,hx⟩:=reads os enc;refine returnsInHanded_of_row (C:=Tryz.checked) (s:=OpenSpec.ofChange Rows.dependMatchesReferenceSpec) Tryz.own started (by kernel_rfl) Tryz.func3
  (witness_row_at (enc:=enc) (C:=Tryz.checked) false (GS os) #[.agg #[.slice none 0 0,.slice none 0 0,.string ⟨#[]⟩,.int .i64 0,.int .i64 0,.slice none 0 0,.slice none 0 0],.string ⟨#[]⟩,.string ⟨#[]⟩] rfl (by kernel_rfl) (by kernel_rfl) (by kernel_rfl)
   (OpenSpec.preRow_of_cond 8 hx (by kernel_rfl) (fun k hk=>by cases hk) (by kernel_rfl) (ac0 os))) ?_
 intro W base args ds gs before bW hW _ _ _ hL _ _;exact acZ H enc W base args ds gs before bW hW hL
theorem ac1{a b:Bool}(h:a=true)(k:b=true):(a&&b)=true:=by rw[h,k];rfl
theorem j0:laidOutB Tryz.pinned.checked.prog=true:=by kernel_rfl
theorem j1:mapsRowed Tryz.pinned.checked.prog=true:=by kernel_rfl
theorem j2:(Rows.dependMatchesReferenceRow.inPlace==Tryz.pinned.checked.prog.inPlace 3)=true:=by kernel_rfl
theorem j3:(Rows.dependMatchesReferenceRow.unfollowed==Tryz.pinned.checked.prog.unfollowed 3)=true:=by kernel_rfl
theorem j4:(Rows.dependMatchesReferenceRow.recurses==Tryz.pinned.checked.prog.recurses 3)=true:=by kernel_rfl
theorem j5:(Rows.dependMatchesReferenceRow.named==Tryz.pinned.checked.prog.varsNamed 3)=true:=by kernel_rfl
theorem j6:(Rows.dependMatchesReferenceRow.plainKeys==Tryz.pinned.checked.prog.plainKeys)=true:=by kernel_rfl
theorem j7:Tryz.pinned.checked.prog.stopsHeard=true:=by kernel_rfl
theorem j8:Tryz.pinned.checked.prog.mayEnter=true:=by kernel_rfl
theorem j9:(Rows.dependMatchesReferenceRow.lifted==Tryz.pinned.checked.prog.liftsFinal)=true:=by kernel_rfl
theorem j10:(Tryz.pinned.checked.prog.make==some Rows.dependMatchesReferenceRow.make)=true:=by kernel_rfl
theorem ac3:joinedFacts Tryz.pinned.checked.prog 3 Tryz.f3 (OpenSpec.ofChange Rows.dependMatchesReferenceSpec).bare Rows.dependMatchesReferenceRow=true:=by
 unfold joinedFacts;repeat' with_reducible refine ac1 ?_ ?_
 all_goals first|with_reducible(first|exact j0|exact j1|exact j2|exact j3|exact j4|exact j5|exact j6|exact j7|exact j8|exact j9|exact j10)|kernel_rfl
theorem said:Rows.DependMatchesReferenceSaid :=
 OpenClaim.holds_of_cond 3 Tryz.f3 rfl rfl rfl rfl rfl rfl rfl ⟨rfl,rfl,rfl,rfl,rfl⟩ rfl rfl rfl rfl rfl (by kernel_rfl) Tryz.func3 ac3
  (of_decide_eq_true (by kernel_rfl)) (by unfold Func.isWrapper;first|(rw[if_pos (by decide +kernel)];kernel_rfl)|(rw[if_neg (by decide +kernel)];exact⟨rfl,rfl⟩))
  (fun os started H enc _ F=>by rw[OpenClaim.pre_eq_preRow];exact lifted os started H enc F)
theorem plain (f : FuncId) (fn : Func) (hf : Tryz.pinned.checked.prog.funcNamed "nameplan/nameplanlaw19.DependMatchesReference" = some f) (yP : Tryz.pinned.checked.prog.funcs[f]? = some fn) :
  false=Tryz.pinned.checked.prog.looks []/\∀ (j:Nat) t,fn.params[j]?=some t->Tryz.pinned.checked.prog.wantsStandIn t=false:=by
 obtain rfl : f = 3 := Option.some.inj ((show Tryz.prog.funcNamed "nameplan/nameplanlaw19.DependMatchesReference" = some 3 by kernel_rfl).symm.trans hf) |>.symm;obtain rfl : fn = Tryz.f3 := (Option.some.inj (Tryz.func3.symm.trans yP)).symm;refine ⟨by kernel_rfl, fun j t ht => ?_⟩;have aW : (Tryz.f3.params.toList.all fun t => !Tryz.prog.wantsStandIn t) = true := by kernel_rfl
 have:=List.all_eq_true.1 aW t (by have:=Array.mem_of_getElem? ht;simpa using this);have:Tryz.prog.wantsStandIn t=false:=by simpa using this
 exact this
theorem hw:Rows.dependMatchesReferenceRow.wfByText (OpenSpec.ofChange Rows.dependMatchesReferenceSpec)=true:=by kernel_rfl
theorem hm:Tryz.pinned.checked.prog.mainIs=some (Rows.dependMatchesReferenceCard.stood.harness.1,Rows.dependMatchesReferenceCard.stood.harness.2.toList):=by kernel_rfl
theorem pJ:false=Rows.dependMatchesReferenceRow.goesBy Tryz.pinned.checked.prog:=by kernel_rfl
theorem ac4:Rows.DependMatchesReferenceCardSaid :=
 Claim7.holds_tied_plain_at .later [] _ _ _ _ said (fun _ h=>by cases h) hw (fun _ h=>by cases h) dependMatchesReference_row_tie rfl ⟨rfl,rfl⟩ hm rfl plain pJ
end Go.Proofs.YtcmnpelmmekdkaaGreatDoor.dependMatchesReference
namespace Go.Proofs.YtcmnpelmmekdkaaGreatDoor
theorem dependMatchesReference_card:Rows.DependMatchesReferenceCardSaid:=dependMatchesReference.ac4
end Go.Proofs.YtcmnpelmmekdkaaGreatDoor
