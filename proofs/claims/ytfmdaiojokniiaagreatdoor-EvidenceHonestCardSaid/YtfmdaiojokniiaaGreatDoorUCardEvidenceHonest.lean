/- EvidenceHonest: for every input the law returns true, and each argument reads as before; the card ties the table that it reads to the program's text. Conditions: none beyond the row's own. -/
import Derived.Test.YtfmdaiojokniiaaGreatDoorU28
import Derived.Test.YtfmdaiojokniiaaGreatDoorCards
import Derived.Test.YtfmdaiojokniiaaGreatDoorTie
import Derived.Lay
set_option linter.unusedVariables false
set_option linter.unusedSimpArgs false
namespace Go.Proofs.YtfmdaiojokniiaaGreatDoor.evidenceHonest
open Go Go.ay Go.ChangeShapes Go.WideShapes Go.ChangeAt Go.RowKit
set_option maxRecDepth 100000
theorem abg(xs:List DV)(h:uW E Tryz.f4.params.toList xs):aq E 4 xs (· = .bool true):=by
 have h:uW E [34] xs:=h;obtain⟨x0,xs0,rfl,h0,r0⟩:=Uk h;obtain⟨a0,rfl,g0⟩:=P.T9.get h0.1 h0.2;obtain rfl:xs0=[]:=r0;exact P.abf a0 g0
theorem abi(H:Type)(enc:TypeId × Value->H)(W:World)(base:Nat)(args:Array Value)(ds gs:List (DataW H))(before:List MemPlace)
  (bH:∀ (j:Nat) t v,Tryz.f4.params[j]?=some t->args[j]?=some v->Value.okWide Tryz.prog W .any base t v)
  (hW:DataW.Whole enc Tryz.prog Tryz.f4.params.toList Rows.evidenceHonestSpec.vars false W args.toList ds gs before) (hL:laidMetH Tryz.prog Rows.evidenceHonestRow.laid W) :
  Calls Tryz.prog 4 args W fun e W'=>∃ v,e=.returned v/\Rows.evidenceHonestSpec.post enc Tryz.prog Tryz.f4 false true false false W args v W' :=
 Uh (tb:=4) bH hW (Um (laid:=Rows.evidenceHonestRow.laid) hL (by first|exact .head _|exact .tail _ (.head _))) (by kernel_rfl) (Ul (by kernel_rfl)) rfl rfl (by kernel_rfl)
  (fun ds hd=>by
   have hd:ds.length=1:=hd
   match ds,hd with
   |[_],_=>exact⟨rfl,rfl,rfl⟩) abg
noncomputable abbrev lw (os:Os):World:=World.laidAll Tryz.prog os Rows.evidenceHonestRow.laid
theorem abj(os:Os):laidMet Tryz.prog Rows.evidenceHonestRow.laid ((lw os).forCall (fun _ _=>0) ⟨#[],#[.agg #[.slice none 0 0,.slice none 0 0,.string ⟨#[]⟩,.int .i64 0,.int .i64 0,.slice none 0 0,.slice none 0 0,.int .i64 0,.int .i64 0,.slice none 0 0,.slice none 0 0,.slice none 0 0]],[]⟩).memory :=
 laidMet_laidAll _ (by kernel_rfl) (by kernel_rfl)
theorem reads(os:Os){H:Type}(enc:TypeId × Value->H):∃ places,DataW.whole enc Tryz.prog ((lw os).forCall (fun _ _=>0) ⟨#[],#[.agg #[.slice none 0 0,.slice none 0 0,.string ⟨#[]⟩,.int .i64 0,.int .i64 0,.slice none 0 0,.slice none 0 0,.int .i64 0,.int .i64 0,.slice none 0 0,.slice none 0 0,.slice none 0 0]],[]⟩).memory Tryz.f4.params.toList Rows.evidenceHonestSpec.vars false (#[.agg #[.slice none 0 0,.slice none 0 0,.string ⟨#[]⟩,.int .i64 0,.int .i64 0,.slice none 0 0,.slice none 0 0,.int .i64 0,.int .i64 0,.slice none 0 0,.slice none 0 0,.slice none 0 0]]:Array Value).toList 8=some ([.agg [.agg [.nil,.nil,.agg [.lit (.string []),.lit (.int .i64 0),.lit (.int .i64 0),.nil],.nil,.lit (.int .i64 0),.lit (.int .i64 0)],.nil,.nil,.nil]],[],places) :=
 ⟨[],by kernel_rfl⟩
theorem lifted(os:Os)(started:os.Started)(H:Type)(enc:TypeId × Value->H)(F:Stop.Interp) :
  ReturnsInHanded {} Tryz.checked os 4 .any ((OpenSpec.ofChange Rows.evidenceHonestSpec).preRow enc Tryz.prog Tryz.f4 Rows.evidenceHonestRow.domain false Rows.evidenceHonestRow.laid) (((OpenSpec.ofChange Rows.evidenceHonestSpec).at F).post enc Tryz.prog Tryz.f4 false true false false):=by
 obtain⟨places,hx⟩:=reads os enc;refine returnsInHanded_of_row (C:=Tryz.checked) (s:=OpenSpec.ofChange Rows.evidenceHonestSpec) Tryz.own started (by kernel_rfl) Tryz.func4
  (witness_row_at (enc:=enc) (C:=Tryz.checked) false (lw os) #[.agg #[.slice none 0 0,.slice none 0 0,.string ⟨#[]⟩,.int .i64 0,.int .i64 0,.slice none 0 0,.slice none 0 0,.int .i64 0,.int .i64 0,.slice none 0 0,.slice none 0 0,.slice none 0 0]] (World.laidAll_os _ _ _) (by kernel_rfl) (by kernel_rfl) (by kernel_rfl)
   (OpenSpec.preRow_of_cond 8 hx (by kernel_rfl) (fun k hk=>by cases hk) (by kernel_rfl) (abj os))) ?_
 intro W base args ds gs before bH hW _ _ _ hL _ _;exact abi H enc W base args ds gs before bH hW hL
theorem abk{a b:Bool}(h:a=true)(k:b=true):(a&&b)=true:=by rw[h,k];rfl
theorem j0:laidOutB Tryz.pinned.checked.prog=true:=by kernel_rfl
theorem j1:mapsRowed Tryz.pinned.checked.prog=true:=by kernel_rfl
theorem j2:(Rows.evidenceHonestRow.inPlace==Tryz.pinned.checked.prog.inPlace 4)=true:=by kernel_rfl
theorem j3:(Rows.evidenceHonestRow.unfollowed==Tryz.pinned.checked.prog.unfollowed 4)=true:=by kernel_rfl
theorem j4:(Rows.evidenceHonestRow.recurses==Tryz.pinned.checked.prog.recurses 4)=true:=by kernel_rfl
theorem j5:(Rows.evidenceHonestRow.named==Tryz.pinned.checked.prog.varsNamed 4)=true:=by kernel_rfl
theorem j6:(Rows.evidenceHonestRow.plainKeys==Tryz.pinned.checked.prog.plainKeys)=true:=by kernel_rfl
theorem j7:Tryz.pinned.checked.prog.stopsHeard=true:=by kernel_rfl
theorem j8:Tryz.pinned.checked.prog.mayEnter=true:=by kernel_rfl
theorem j9:(Rows.evidenceHonestRow.lifted==Tryz.pinned.checked.prog.liftsFinal)=true:=by kernel_rfl
theorem j10:(Tryz.pinned.checked.prog.make==some Rows.evidenceHonestRow.make)=true:=by kernel_rfl
theorem abm:joinedFacts Tryz.pinned.checked.prog 4 Tryz.f4 (OpenSpec.ofChange Rows.evidenceHonestSpec).bare Rows.evidenceHonestRow=true:=by
 unfold joinedFacts;repeat' with_reducible refine abk ?_ ?_
 all_goals first|with_reducible(first|exact j0|exact j1|exact j2|exact j3|exact j4|exact j5|exact j6|exact j7|exact j8|exact j9|exact j10)|kernel_rfl
theorem said:Rows.EvidenceHonestSaid :=
 OpenClaim.holds_of_cond 4 Tryz.f4 rfl rfl rfl rfl rfl rfl rfl ⟨rfl,rfl,rfl,rfl,rfl⟩ rfl rfl rfl rfl rfl (by kernel_rfl) Tryz.func4 abm
  (of_decide_eq_true (by kernel_rfl)) (by unfold Func.isWrapper;first|(rw[if_pos (by decide +kernel)];kernel_rfl)|(rw[if_neg (by decide +kernel)];exact⟨rfl,rfl⟩))
  (fun os started H enc _ F=>by rw[OpenClaim.pre_eq_preRow];exact lifted os started H enc F)
theorem plain (f : FuncId) (fn : Func) (hf : Tryz.pinned.checked.prog.funcNamed "nameplan/nameplanlaw43.EvidenceHonest" = some f) (Ea : Tryz.pinned.checked.prog.funcs[f]? = some fn) :
  false=Tryz.pinned.checked.prog.looks []/\∀ (j:Nat) t,fn.params[j]?=some t->Tryz.pinned.checked.prog.wantsStandIn t=false:=by
 obtain rfl : f = 4 := Option.some.inj ((show Tryz.prog.funcNamed "nameplan/nameplanlaw43.EvidenceHonest" = some 4 by kernel_rfl).symm.trans hf) |>.symm;obtain rfl : fn = Tryz.f4 := (Option.some.inj (Tryz.func4.symm.trans Ea)).symm;refine ⟨by kernel_rfl, fun j t ht => ?_⟩;have aJ : (Tryz.f4.params.toList.all fun t => !Tryz.prog.wantsStandIn t) = true := by kernel_rfl
 have:=List.all_eq_true.1 aJ t (by have:=Array.mem_of_getElem? ht;simpa using this);have:Tryz.prog.wantsStandIn t=false:=by simpa using this
 exact this
theorem hw:Rows.evidenceHonestRow.wfByText (OpenSpec.ofChange Rows.evidenceHonestSpec)=true:=by kernel_rfl
theorem hm:Tryz.pinned.checked.prog.mainIs=some (Rows.evidenceHonestCard.stood.harness.1,Rows.evidenceHonestCard.stood.harness.2.toList):=by kernel_rfl
theorem ui:false=Rows.evidenceHonestRow.goesBy Tryz.pinned.checked.prog:=by kernel_rfl
theorem abn:Rows.EvidenceHonestCardSaid :=
 Claim7.holds_tied_plain_at .later [] _ _ _ _ said (fun _ h=>by cases h) hw (fun _ h=>by cases h) evidenceHonest_row_tie rfl ⟨rfl,rfl⟩ hm rfl plain ui
end Go.Proofs.YtfmdaiojokniiaaGreatDoor.evidenceHonest
namespace Go.Proofs.YtfmdaiojokniiaaGreatDoor
theorem evidenceHonest_card:Rows.EvidenceHonestCardSaid:=evidenceHonest.abn
end Go.Proofs.YtfmdaiojokniiaaGreatDoor
