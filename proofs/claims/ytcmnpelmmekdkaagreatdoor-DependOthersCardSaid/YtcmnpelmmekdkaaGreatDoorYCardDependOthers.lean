/- DependOthers: for every input the law returns true, and each argument reads as before; the card ties the table that it reads to the program's text. Conditions: none beyond the row's own. -/
import Derived.Test.YtcmnpelmmekdkaaGreatDoorY53
import Derived.Test.YtcmnpelmmekdkaaGreatDoorCards
import Derived.Test.YtcmnpelmmekdkaaGreatDoorTie
set_option linter.unusedVariables false
set_option linter.unusedSimpArgs false
namespace Go.Proofs.YtcmnpelmmekdkaaGreatDoor.dependOthers
open Go Go.ax Go.ChangeShapes Go.WideShapes Go.ChangeAt Go.RowKit
set_option maxRecDepth 100000
theorem vD (xs:List DV) (h:mM E Tryz.f7.params.toList xs):aA E 7 xs (· = .bool true):=by
 have h:mM E [29,9] xs:=h;obtain ⟨x0,Jh,rfl,h0,r0⟩:=pE h;obtain ⟨a0,rfl,g0⟩:=P.CC h0.1 h0.2;obtain ⟨x1,A8,rfl,h1,r1⟩:=pE r0;obtain ⟨a1,rfl,g1⟩:=P.zO h1.1 h1.2;obtain rfl:A8=[]:=r1;exact P.ab5 a0 a1 g0 g1
theorem vE (H:Type) (enc:TypeId × Value→H) (W:World) (base:Nat) (args:Array Value) (ds gs:List (DataW H)) (before:List MemPlace)
  (bT:∀ (j:Nat) t v,Tryz.f7.params[j]? = some t→args[j]? = some v→Value.okWide Tryz.prog W .any base t v)
  (hW:DataW.Whole enc Tryz.prog Tryz.f7.params.toList Rows.dependOthersSpec.vars false W args.toList ds gs before) (hL:laidMetH Tryz.prog Rows.dependOthersRow.laid W) :
  Calls Tryz.prog 7 args W fun e W'=>∃ v,e = .returned v∧Rows.dependOthersSpec.post enc Tryz.prog Tryz.f7 false true false false W args v W' :=
 CD (tb:=4) bT hW (CF (laid:=Rows.dependOthersRow.laid) hL (List.mem_singleton.2 rfl)) (by kernel_rfl) (CE (by kernel_rfl)) rfl rfl (by kernel_rfl)
  (fun ds hd=>by
   have hd:ds.length=2:=hd
   match ds,hd with
   | [_,_],_=>exact ⟨rfl,rfl,rfl⟩) vD
theorem vF (os:Os):laidMet Tryz.prog Rows.dependOthersRow.laid ((nH os).forCall (fun _ _=>0) ⟨#[],#[.agg #[.slice none 0 0,.slice none 0 0,.string ⟨#[]⟩,.int .i64 0,.int .i64 0,.slice none 0 0,.slice none 0 0],.string ⟨#[]⟩],[]⟩).memory :=
 laidMet_of_run' 8 (by kernel_rfl) (by kernel_rfl)
theorem reads (os:Os) {H:Type} (enc:TypeId × Value→H):∃ places,DataW.whole enc Tryz.prog ((nH os).forCall (fun _ _=>0) ⟨#[],#[.agg #[.slice none 0 0,.slice none 0 0,.string ⟨#[]⟩,.int .i64 0,.int .i64 0,.slice none 0 0,.slice none 0 0],.string ⟨#[]⟩],[]⟩).memory Tryz.f7.params.toList Rows.dependOthersSpec.vars false (#[.agg #[.slice none 0 0,.slice none 0 0,.string ⟨#[]⟩,.int .i64 0,.int .i64 0,.slice none 0 0,.slice none 0 0],.string ⟨#[]⟩]:Array Value).toList 8=some ([.agg [.nil,.nil,.agg [.lit (.string []),.lit (.int .i64 0),.lit (.int .i64 0),.nil],.nil],.lit (.string [])],[],places) :=
 ⟨[],by kernel_rfl⟩
theorem lifted (os:Os) (started:os.Started) (H:Type) (enc:TypeId × Value→H) (F:Stop.Interp) :
  ReturnsInHanded {} Tryz.checked os 7 .any ((OpenSpec.ofChange Rows.dependOthersSpec).preRow enc Tryz.prog Tryz.f7 Rows.dependOthersRow.domain false Rows.dependOthersRow.laid) (((OpenSpec.ofChange Rows.dependOthersSpec).at F).post enc Tryz.prog Tryz.f7 false true false false):=by
 obtain ⟨places,hx⟩:=reads os enc;refine returnsInHanded_of_row (C:=Tryz.checked) (s:=OpenSpec.ofChange Rows.dependOthersSpec) Tryz.own started (by kernel_rfl) Tryz.func7
  (witness_row_at (enc:=enc) (C:=Tryz.checked) false (nH os) #[.agg #[.slice none 0 0,.slice none 0 0,.string ⟨#[]⟩,.int .i64 0,.int .i64 0,.slice none 0 0,.slice none 0 0],.string ⟨#[]⟩] rfl (by kernel_rfl) (by kernel_rfl) (by kernel_rfl)
   (OpenSpec.preRow_of_cond 8 hx (by kernel_rfl) (fun k hk=>by cases hk) (by kernel_rfl) (vF os))) ?_
 intro W base args ds gs before bT hW _ _ _ hL _ _;exact vE H enc W base args ds gs before bT hW hL
theorem vG {a b:Bool} (h:a=true) (k:b=true):(a&&b)=true:=by rw [h,k]; rfl
theorem j0:laidOutB Tryz.pinned.checked.prog=true:=by kernel_rfl
theorem j1:mapsRowed Tryz.pinned.checked.prog=true:=by kernel_rfl
theorem j2:(Rows.dependOthersRow.inPlace==Tryz.pinned.checked.prog.inPlace 7)=true:=by kernel_rfl
theorem j3:(Rows.dependOthersRow.unfollowed==Tryz.pinned.checked.prog.unfollowed 7)=true:=by kernel_rfl
theorem j4:(Rows.dependOthersRow.recurses==Tryz.pinned.checked.prog.recurses 7)=true:=by kernel_rfl
theorem j5:(Rows.dependOthersRow.named==Tryz.pinned.checked.prog.varsNamed 7)=true:=by kernel_rfl
theorem j6:(Rows.dependOthersRow.plainKeys==Tryz.pinned.checked.prog.plainKeys)=true:=by kernel_rfl
theorem j7:Tryz.pinned.checked.prog.stopsHeard=true:=by kernel_rfl
theorem j8:Tryz.pinned.checked.prog.mayEnter=true:=by kernel_rfl
theorem j9:(Rows.dependOthersRow.lifted==Tryz.pinned.checked.prog.liftsFinal)=true:=by kernel_rfl
theorem vH:(Tryz.pinned.checked.prog.make==some Rows.dependOthersRow.make)=true:=by kernel_rfl
theorem vI:joinedFacts Tryz.pinned.checked.prog 7 Tryz.f7 (OpenSpec.ofChange Rows.dependOthersSpec).bare Rows.dependOthersRow=true:=by
 unfold joinedFacts;repeat' with_reducible refine vG ?_ ?_
 all_goals first | with_reducible exact j0 | with_reducible exact j1 | with_reducible exact j2 | with_reducible exact j3 | with_reducible exact j4 | with_reducible exact j5 | with_reducible exact j6 | with_reducible exact j7 | with_reducible exact j8 | with_reducible exact j9 | with_reducible exact vH | kernel_rfl
theorem said:Rows.DependOthersSaid :=
 OpenClaim.holds_of_cond 7 Tryz.f7 rfl rfl rfl rfl rfl rfl rfl ⟨rfl,rfl,rfl,rfl,rfl⟩ rfl rfl rfl rfl rfl (by kernel_rfl) Tryz.func7 vI
  (of_decide_eq_true (by kernel_rfl)) (by unfold Func.isWrapper; first | (rw [if_pos (by decide +kernel)]; kernel_rfl) | (rw [if_neg (by decide +kernel)]; exact ⟨rfl,rfl⟩))
  (fun os started H enc _ F=>by rw [OpenClaim.pre_eq_preRow]; exact lifted os started H enc F)
theorem plain (f : FuncId) (fn : Func) (hf : Tryz.pinned.checked.prog.funcNamed "nameplan/nameplanlaw19.DependOthers" = some f) (od : Tryz.pinned.checked.prog.funcs[f]? = some fn) :
  false=Tryz.pinned.checked.prog.looks []∧∀ (j:Nat) t,fn.params[j]? = some t→Tryz.pinned.checked.prog.wantsStandIn t=false:=by
 obtain rfl : f = 7 := Option.some.inj ((show Tryz.prog.funcNamed "nameplan/nameplanlaw19.DependOthers" = some 7 by kernel_rfl).symm.trans hf) |>.symm;obtain rfl : fn = Tryz.f7 := (Option.some.inj (Tryz.func7.symm.trans od)).symm;refine ⟨by kernel_rfl, fun j t ht => ?_⟩;have aT : (Tryz.f7.params.toList.all fun t => !Tryz.prog.wantsStandIn t) = true := by kernel_rfl
 have:=List.all_eq_true.1 aT t (by have:=Array.mem_of_getElem? ht; simpa using this);have:Tryz.prog.wantsStandIn t=false:=by simpa using this
 exact this
theorem hw:Rows.dependOthersRow.wfByText (OpenSpec.ofChange Rows.dependOthersSpec)=true:=by kernel_rfl
theorem hm:Tryz.pinned.checked.prog.mainIs=some (Rows.dependOthersCard.stood.harness.1,Rows.dependOthersCard.stood.harness.2.toList):=by kernel_rfl
theorem ov:false=Rows.dependOthersRow.goesBy Tryz.pinned.checked.prog:=by kernel_rfl
theorem vJ:Rows.DependOthersCardSaid :=
 Claim7.holds_tied_plain_at .later [] _ _ _ _ said (fun _ h=>by cases h) hw (fun _ h=>by cases h) dependOthers_row_tie rfl ⟨rfl,rfl⟩ hm rfl plain ov
end Go.Proofs.YtcmnpelmmekdkaaGreatDoor.dependOthers
namespace Go.Proofs.YtcmnpelmmekdkaaGreatDoor
theorem dependOthers_card:Rows.DependOthersCardSaid:=dependOthers.vJ
end Go.Proofs.YtcmnpelmmekdkaaGreatDoor
