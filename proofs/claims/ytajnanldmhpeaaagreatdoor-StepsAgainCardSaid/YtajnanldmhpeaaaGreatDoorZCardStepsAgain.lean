/- StepsAgain: for every input the law returns true, and each argument reads as before; the card ties the table that it reads to the program's text. Conditions: none beyond the row's own. -/
import Derived.Test.YtajnanldmhpeaaaGreatDoorZP89
import Derived.Test.YtajnanldmhpeaaaGreatDoorZM7
import Derived.Test.YtajnanldmhpeaaaGreatDoorCards
import Derived.Test.YtajnanldmhpeaaaGreatDoorTie
set_option linter.unusedVariables false
set_option linter.unusedSimpArgs false
namespace Go.Proofs.YtajnanldmhpeaaaGreatDoor.stepsAgain
open Go Go.Eng Go.ChangeShapes Go.WideShapes Go.ChangeAt Go.RowKit
set_option maxRecDepth 100000
theorem args_p (xs:List DV) (h:ArgsT E Tryz.f13.params.toList xs):PCalls E 13 xs (· = .bool true):=by
 have h:ArgsT E [66,43] xs:=h;obtain ⟨x0,xs0,rfl,h0,r0⟩:=argsT_cons h;obtain ⟨a0,rfl,g0⟩:=P.dec_Wld h0.1 h0.2;obtain ⟨x1,xs1,rfl,h1,r1⟩:=argsT_cons r0;obtain ⟨a1,rfl,g1⟩:=P.dec_Stage h1.1 h1.2;obtain rfl:xs1=[]:=r1;exact P.stepsAgain_g a0 a1 g0 g1
theorem contract (H:Type) (enc:TypeId × Value→H) (W:World) (base:Nat) (args:Array Value) (ds gs:List (DataW H)) (before:List MemPlace)
  (hval:∀ (j:Nat) t v,Tryz.f13.params[j]? = some t→args[j]? = some v→Value.okWide Tryz.prog W .any base t v)
  (hW:DataW.Whole enc Tryz.prog Tryz.f13.params.toList Rows.stepsAgainSpec.vars false W args.toList ds gs before) (hL:laidMetH Tryz.prog Rows.stepsAgainRow.laid W) :
  Calls Tryz.prog 13 args W fun e W'=>∃ v,e = .returned v∧Rows.stepsAgainSpec.post enc Tryz.prog Tryz.f13 false true false false W args v W' :=
 engine_law (tb:=4) hval hW (globs_ok (laid:=Rows.stepsAgainRow.laid) hL (List.mem_singleton.2 rfl)) (by kernel_rfl) (readable_of (by kernel_rfl)) rfl rfl (by kernel_rfl)
  (fun ds hd=>by
   have hd:ds.length=2:=hd
   match ds,hd with
   | [_,_],_=>exact ⟨rfl,rfl,rfl⟩) args_p
theorem laid_met (os:Os):laidMet Tryz.prog Rows.stepsAgainRow.laid ((laidWorld os).forCall (fun _ _=>0) ⟨#[],#[.agg #[.slice none 0 0,.slice none 0 0,.string ⟨#[]⟩,.int .i64 0,.int .i64 0,.slice none 0 0,.slice none 0 0],.agg #[.slice none 0 0]],[]⟩).memory :=
 laidMet_of_run' 8 (by kernel_rfl) (by kernel_rfl)
theorem reads (os:Os) {H:Type} (enc:TypeId × Value→H):∃ places,DataW.whole enc Tryz.prog ((laidWorld os).forCall (fun _ _=>0) ⟨#[],#[.agg #[.slice none 0 0,.slice none 0 0,.string ⟨#[]⟩,.int .i64 0,.int .i64 0,.slice none 0 0,.slice none 0 0],.agg #[.slice none 0 0]],[]⟩).memory Tryz.f13.params.toList Rows.stepsAgainSpec.vars false (#[.agg #[.slice none 0 0,.slice none 0 0,.string ⟨#[]⟩,.int .i64 0,.int .i64 0,.slice none 0 0,.slice none 0 0],.agg #[.slice none 0 0]]:Array Value).toList 8=some ([.agg [.nil,.nil,.agg [.lit (.string []),.lit (.int .i64 0),.lit (.int .i64 0),.nil],.nil],.agg [.nil]],[],places) :=
 ⟨[],by kernel_rfl⟩
theorem lifted (os:Os) (started:os.Started) (H:Type) (enc:TypeId × Value→H) (F:Stop.Interp) :
  ReturnsInHanded {} Tryz.checked os 13 .any ((OpenSpec.ofChange Rows.stepsAgainSpec).preRow enc Tryz.prog Tryz.f13 Rows.stepsAgainRow.domain false Rows.stepsAgainRow.laid) (((OpenSpec.ofChange Rows.stepsAgainSpec).at F).post enc Tryz.prog Tryz.f13 false true false false):=by
 obtain ⟨places,hx⟩:=reads os enc;refine returnsInHanded_of_row (C:=Tryz.checked) (s:=OpenSpec.ofChange Rows.stepsAgainSpec) Tryz.own started (by kernel_rfl) Tryz.func13
  (witness_row_at (enc:=enc) (C:=Tryz.checked) false (laidWorld os) #[.agg #[.slice none 0 0,.slice none 0 0,.string ⟨#[]⟩,.int .i64 0,.int .i64 0,.slice none 0 0,.slice none 0 0],.agg #[.slice none 0 0]] rfl (by kernel_rfl) (by kernel_rfl) (by kernel_rfl)
   (OpenSpec.preRow_of_cond 8 hx (by kernel_rfl) (fun k hk=>by cases hk) (by kernel_rfl) (laid_met os))) ?_
 intro W base args ds gs before hval hW _ _ _ hL _ _;exact contract H enc W base args ds gs before hval hW hL
theorem and_t {a b:Bool} (h:a=true) (k:b=true):(a&&b)=true:=by rw [h,k]; rfl
theorem j0:laidOutB Tryz.pinned.checked.prog=true:=by kernel_rfl
theorem j1:mapsRowed Tryz.pinned.checked.prog=true:=by kernel_rfl
theorem j2:(Rows.stepsAgainRow.inPlace==Tryz.pinned.checked.prog.inPlace 13)=true:=by kernel_rfl
theorem j3:(Rows.stepsAgainRow.unfollowed==Tryz.pinned.checked.prog.unfollowed 13)=true:=by kernel_rfl
theorem j4:(Rows.stepsAgainRow.recurses==Tryz.pinned.checked.prog.recurses 13)=true:=by kernel_rfl
theorem j5:(Rows.stepsAgainRow.named==Tryz.pinned.checked.prog.varsNamed 13)=true:=by kernel_rfl
theorem j6:(Rows.stepsAgainRow.plainKeys==Tryz.pinned.checked.prog.plainKeys)=true:=by kernel_rfl
theorem j7:Tryz.pinned.checked.prog.stopsHeard=true:=by kernel_rfl
theorem j8:Tryz.pinned.checked.prog.mayEnter=true:=by kernel_rfl
theorem j9:(Rows.stepsAgainRow.lifted==Tryz.pinned.checked.prog.liftsFinal)=true:=by kernel_rfl
theorem j10:(Tryz.pinned.checked.prog.make==some Rows.stepsAgainRow.make)=true:=by kernel_rfl
theorem joined:joinedFacts Tryz.pinned.checked.prog 13 Tryz.f13 (OpenSpec.ofChange Rows.stepsAgainSpec).bare Rows.stepsAgainRow=true:=by
 unfold joinedFacts;repeat' with_reducible refine and_t ?_ ?_
 all_goals first | with_reducible exact j0 | with_reducible exact j1 | with_reducible exact j2 | with_reducible exact j3 | with_reducible exact j4 | with_reducible exact j5 | with_reducible exact j6 | with_reducible exact j7 | with_reducible exact j8 | with_reducible exact j9 | with_reducible exact j10 | kernel_rfl
theorem said:Rows.StepsAgainSaid :=
 OpenClaim.holds_of_cond 13 Tryz.f13 rfl rfl rfl rfl rfl rfl rfl ⟨rfl,rfl,rfl,rfl,rfl⟩ rfl rfl rfl rfl rfl (by kernel_rfl) Tryz.func13 joined
  (of_decide_eq_true (by kernel_rfl)) (by unfold Func.isWrapper; first | (rw [if_pos (by decide +kernel)]; kernel_rfl) | (rw [if_neg (by decide +kernel)]; exact ⟨rfl,rfl⟩))
  (fun os started H enc _ F=>by rw [OpenClaim.pre_eq_preRow]; exact lifted os started H enc F)
theorem plain (f : FuncId) (fn : Func) (hf : Tryz.pinned.checked.prog.funcNamed "nameplan/nameplanlaw35.StepsAgain" = some f) (hfn : Tryz.pinned.checked.prog.funcs[f]? = some fn) :
  false=Tryz.pinned.checked.prog.looks []∧∀ (j:Nat) t,fn.params[j]? = some t→Tryz.pinned.checked.prog.wantsStandIn t=false:=by
 obtain rfl : f = 13 := Option.some.inj ((show Tryz.prog.funcNamed "nameplan/nameplanlaw35.StepsAgain" = some 13 by kernel_rfl).symm.trans hf) |>.symm;obtain rfl : fn = Tryz.f13 := (Option.some.inj (Tryz.func13.symm.trans hfn)).symm;refine ⟨by kernel_rfl, fun j t ht => ?_⟩;have hall : (Tryz.f13.params.toList.all fun t => !Tryz.prog.wantsStandIn t) = true := by kernel_rfl
 have:=List.all_eq_true.1 hall t (by have:=Array.mem_of_getElem? ht; simpa using this);have:Tryz.prog.wantsStandIn t=false:=by simpa using this
 exact this
theorem card:Rows.StepsAgainCardSaid :=
 Claim7.holds_tied_plain_at .later [] _ _ _ _ said (fun _ h=>by cases h) (by kernel_rfl) (fun _ h=>by cases h) stepsAgain_row_tie rfl ⟨rfl,rfl⟩ (by kernel_rfl) rfl plain (by kernel_rfl)
end Go.Proofs.YtajnanldmhpeaaaGreatDoor.stepsAgain
namespace Go.Proofs.YtajnanldmhpeaaaGreatDoor
theorem stepsAgain_card:Rows.StepsAgainCardSaid:=stepsAgain.card
end Go.Proofs.YtajnanldmhpeaaaGreatDoor
