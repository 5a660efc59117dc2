/- DependTruth: for every input the law returns true, and each argument reads as before; the card ties the table that it reads to the program's text. Conditions: none beyond the row's own. -/
import Derived.Test.YtcmnpelmmekdkaaGreatDoorV14
import Derived.Test.YtcmnpelmmekdkaaGreatDoorCards
import Derived.Test.YtcmnpelmmekdkaaGreatDoorTie
set_option linter.unusedVariables false
set_option linter.unusedSimpArgs false
namespace Go.Proofs.YtcmnpelmmekdkaaGreatDoor.dependTruth
open Go Go.aA Go.ChangeShapes Go.WideShapes Go.ChangeAt Go.RowKit
set_option maxRecDepth 100000
theorem ac5(xs:List DV)(h:vy E Tryz.f8.params.toList xs):az E 8 xs (· = .bool true):=by
 have h:vy E [29,9] xs:=h;obtain⟨x0,xs0,rfl,h0,r0⟩:=M6 h;obtain⟨a0,rfl,g0⟩:=P.VU h0.1 h0.2;obtain⟨x1,xs1,rfl,h1,r1⟩:=M6 r0;obtain⟨a1,rfl,g1⟩:=P.VE h1.1 h1.2;obtain rfl:xs1=[]:=r1;exact P.ac4 a0 a1 g0 g1
theorem ac7(H:Type)(enc:TypeId × Value->H)(W:World)(base:Nat)(args:Array Value)(ds gs:List (DataW H))(before:List MemPlace)
  (bQ:∀ (j:Nat) t v,Tryz.f8.params[j]?=some t->args[j]?=some v->Value.okWide Tryz.prog W .any base t v)
  (hW:DataW.Whole enc Tryz.prog Tryz.f8.params.toList Rows.dependTruthSpec.vars false W args.toList ds gs before) (hL:laidMetH Tryz.prog Rows.dependTruthRow.laid W) :
  Calls Tryz.prog 8 args W fun e W'=>∃ v,e=.returned v/\Rows.dependTruthSpec.post enc Tryz.prog Tryz.f8 false true false false W args v W' :=
 V3 (tb:=4) bQ hW (V7 (laid:=Rows.dependTruthRow.laid) hL (List.mem_singleton.2 rfl)) (by kernel_rfl) (V6 (by kernel_rfl)) rfl rfl (by kernel_rfl)
  (fun ds hd=>by
   have hd:ds.length=2:=hd
   match ds,hd with
   |[_,_],_=>exact⟨rfl,rfl,rfl⟩) ac5
theorem ac8(os:Os):laidMet Tryz.prog Rows.dependTruthRow.laid ((Ha os).forCall (fun _ _=>0) ⟨#[],#[.agg #[.slice none 0 0,.slice none 0 0,.string ⟨#[]⟩,.int .i64 0,.int .i64 0,.slice none 0 0,.slice none 0 0],.string ⟨#[]⟩],[]⟩).memory :=
 laidMet_of_run' 8 (by kernel_rfl) (by kernel_rfl)
theorem reads(os:Os){H:Type}(enc:TypeId × Value->H):∃ places,DataW.whole enc Tryz.prog ((Ha os).forCall (fun _ _=>0) ⟨#[],#[.agg #[.slice none 0 0,.slice none 0 0,.string ⟨#[]⟩,.int .i64 0,.int .i64 0,.slice none 0 0,.slice none 0 0],.string ⟨#[]⟩],[]⟩).memory Tryz.f8.params.toList Rows.dependTruthSpec.vars false (#[.agg #[.slice none 0 0,.slice none 0 0,.string ⟨#[]⟩,.int .i64 0,.int .i64 0,.slice none 0 0,.slice none 0 0],.string ⟨#[]⟩]:Array Value).toList 8=some ([.agg [.nil,.nil,.agg [.lit (.string []),.lit (.int .i64 0),.lit (.int .i64 0),.nil],.nil],.lit (.string [])],[],places) :=
 ⟨[],by kernel_rfl⟩
theorem lifted(os:Os)(started:os.Started)(H:Type)(enc:TypeId × Value->H)(F:Stop.Interp) :
  ReturnsInHanded {} Tryz.checked os 8 .any ((OpenSpec.ofChange Rows.dependTruthSpec).preRow enc Tryz.prog Tryz.f8 Rows.dependTruthRow.domain false Rows.dependTruthRow.laid) (((OpenSpec.ofChange Rows.dependTruthSpec).at F).post enc Tryz.prog Tryz.f8 false true false false):=by
 obtain⟨places,hx⟩:=reads os enc;refine returnsInHanded_of_row (C:=Tryz.checked) (s:=OpenSpec.ofChange Rows.dependTruthSpec) Tryz.own started (by kernel_rfl) Tryz.func8
  (witness_row_at (enc:=enc) (C:=Tryz.checked) false (Ha os) #[.agg #[.slice none 0 0,.slice none 0 0,.string ⟨#[]⟩,.int .i64 0,.int .i64 0,.slice none 0 0,.slice none 0 0],.string ⟨#[]⟩] rfl (by kernel_rfl) (by kernel_rfl) (by kernel_rfl)
   (OpenSpec.preRow_of_cond 8 hx (by kernel_rfl) (fun k hk=>by cases hk) (by kernel_rfl) (ac8 os))) ?_
 intro W base args ds gs before bQ hW _ _ _ hL _ _;exact ac7 H enc W base args ds gs before bQ hW hL
theorem ac9{a b:Bool}(h:a=true)(k:b=true):(a&&b)=true:=by rw[h,k];rfl
theorem j0:laidOutB Tryz.pinned.checked.prog=true:=by kernel_rfl
theorem j1:mapsRowed Tryz.pinned.checked.prog=true:=by kernel_rfl
theorem j2:(Rows.dependTruthRow.inPlace==Tryz.pinned.checked.prog.inPlace 8)=true:=by kernel_rfl
theorem j3:(Rows.dependTruthRow.unfollowed==Tryz.pinned.checked.prog.unfollowed 8)=true:=by kernel_rfl
theorem j4:(Rows.dependTruthRow.recurses==Tryz.pinned.checked.prog.recurses 8)=true:=by kernel_rfl
theorem j5:(Rows.dependTruthRow.named==Tryz.pinned.checked.prog.varsNamed 8)=true:=by kernel_rfl
theorem j6:(Rows.dependTruthRow.plainKeys==Tryz.pinned.checked.prog.plainKeys)=true:=by kernel_rfl
theorem j7:Tryz.pinned.checked.prog.stopsHeard=true:=by kernel_rfl
theorem j8:Tryz.pinned.checked.prog.mayEnter=true:=by kernel_rfl
theorem j9:(Rows.dependTruthRow.lifted==Tryz.pinned.checked.prog.liftsFinal)=true:=by kernel_rfl
theorem j10:(Tryz.pinned.checked.prog.make==some Rows.dependTruthRow.make)=true:=by kernel_rfl
theorem ada:joinedFacts Tryz.pinned.checked.prog 8 Tryz.f8 (OpenSpec.ofChange Rows.dependTruthSpec).bare Rows.dependTruthRow=true:=by
 unfold joinedFacts;repeat' with_reducible refine ac9 ?_ ?_
 all_goals first|with_reducible(first|exact j0|exact j1|exact j2|exact j3|exact j4|exact j5|exact j6|exact j7|exact j8|exact j9|exact j10)|kernel_rfl
theorem said:Rows.DependTruthSaid :=
 OpenClaim.holds_of_cond 8 Tryz.f8 rfl rfl rfl rfl rfl rfl rfl ⟨rfl,rfl,rfl,rfl,rfl⟩ rfl rfl rfl rfl rfl (by kernel_rfl) Tryz.func8 ada
  (of_decide_eq_true (by kernel_rfl)) (by unfold Func.isWrapper;first|(rw[if_pos (by decide +kernel)];kernel_rfl)|(rw[if_neg (by decide +kernel)];exact⟨rfl,rfl⟩))
  (fun os started H enc _ F=>by rw[OpenClaim.pre_eq_preRow];exact lifted os started H enc F)
theorem plain (f : FuncId) (fn : Func) (hf : Tryz.pinned.checked.prog.funcNamed "nameplan/nameplanlaw19.DependTruth" = some f) (yV : Tryz.pinned.checked.prog.funcs[f]? = some fn) :
  false=Tryz.pinned.checked.prog.looks []/\∀ (j:Nat) t,fn.params[j]?=some t->Tryz.pinned.checked.prog.wantsStandIn t=false:=by
 obtain rfl : f = 8 := Option.some.inj ((show Tryz.prog.funcNamed "nameplan/nameplanlaw19.DependTruth" = some 8 by kernel_rfl).symm.trans hf) |>.symm;obtain rfl : fn = Tryz.f8 := (Option.some.inj (Tryz.func8.symm.trans yV)).symm;refine ⟨by kernel_rfl, fun j t ht => ?_⟩;have aX : (Tryz.f8.params.toList.all fun t => !Tryz.prog.wantsStandIn t) = true := by kernel_rfl
 have:=List.all_eq_true.1 aX t (by have:=Array.mem_of_getElem? ht;simpa using this);have:Tryz.prog.wantsStandIn t=false:=by simpa using this
 exact this
theorem hw:Rows.dependTruthRow.wfByText (OpenSpec.ofChange Rows.dependTruthSpec)=true:=by kernel_rfl
theorem hm:Tryz.pinned.checked.prog.mainIs=some (Rows.dependTruthCard.stood.harness.1,Rows.dependTruthCard.stood.harness.2.toList):=by kernel_rfl
theorem pJ:false=Rows.dependTruthRow.goesBy Tryz.pinned.checked.prog:=by kernel_rfl
theorem adb:Rows.DependTruthCardSaid :=
 Claim7.holds_tied_plain_at .later [] _ _ _ _ said (fun _ h=>by cases h) hw (fun _ h=>by cases h) dependTruth_row_tie rfl ⟨rfl,rfl⟩ hm rfl plain pJ
end Go.Proofs.YtcmnpelmmekdkaaGreatDoor.dependTruth
namespace Go.Proofs.YtcmnpelmmekdkaaGreatDoor
theorem dependTruth_card:Rows.DependTruthCardSaid:=dependTruth.adb
end Go.Proofs.YtcmnpelmmekdkaaGreatDoor
