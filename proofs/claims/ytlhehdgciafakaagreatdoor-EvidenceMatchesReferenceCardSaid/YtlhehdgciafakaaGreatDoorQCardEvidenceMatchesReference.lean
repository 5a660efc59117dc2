/- EvidenceMatchesReference: for every input the law returns true, and each argument reads as before; the card ties the table that it reads to the program's text. Conditions: none beyond the row's own. -/
import Derived.Test.YtlhehdgciafakaaGreatDoorQ28
import Derived.Test.YtlhehdgciafakaaGreatDoorCards
import Derived.Test.YtlhehdgciafakaaGreatDoorTie
import Derived.Lay
set_option linter.unusedVariables false
set_option linter.unusedSimpArgs false
namespace Go.Proofs.YtlhehdgciafakaaGreatDoor.evidenceMatchesReference
open Go Go.az Go.ChangeShapes Go.WideShapes Go.ChangeAt Go.RowKit
set_option maxRecDepth 100000
theorem agk(xs:List DV)(h:xu E Tryz.f3.params.toList xs):aq E 3 xs (· = .bool true):=by
 have h:xu E [34,29,41] xs:=h;obtain⟨x0,xs0,rfl,h0,r0⟩:=Jv h;obtain⟨a0,rfl,g0⟩:=P.YQ.get h0.1 h0.2;obtain⟨x1,xs1,rfl,h1,r1⟩:=Jv r0;obtain⟨a1,rfl,g1⟩:=P.PL.get h1.1 h1.2;obtain⟨x2,xs2,rfl,h2,r2⟩:=Jv r1;obtain⟨a2,rfl,g2⟩:=P.PM.get h2.1 h2.2;obtain rfl:xs2=[]:=r2;exact P.agj a0 a1 a2 g0 g1 g2
theorem agm(H:Type)(enc:TypeId × Value->H)(W:World)(base:Nat)(args:Array Value)(ds gs:List (DataW H))(before:List MemPlace)
  (bJ:∀ (j:Nat) t v,Tryz.f3.params[j]?=some t->args[j]?=some v->Value.okWide Tryz.prog W .any base t v)
  (hW:DataW.Whole enc Tryz.prog Tryz.f3.params.toList Rows.evidenceMatchesReferenceSpec.vars false W args.toList ds gs before) (hL:laidMetH Tryz.prog Rows.evidenceMatchesReferenceRow.laid W) :
  Calls Tryz.prog 3 args W fun e W'=>∃ v,e=.returned v/\Rows.evidenceMatchesReferenceSpec.post enc Tryz.prog Tryz.f3 false true false false W args v W' :=
 YZ (tb:=4) bJ hW (Y3 (laid:=Rows.evidenceMatchesReferenceRow.laid) hL (by first|exact .head _|exact .tail _ (.head _))) (by kernel_rfl) (Y2 (by kernel_rfl)) rfl rfl (by kernel_rfl)
  (fun ds hd=>by
   have hd:ds.length=3:=hd
   match ds,hd with
   |[_,_,_],_=>exact⟨rfl,rfl,rfl⟩) agk
noncomputable abbrev lw (os:Os):World:=World.laidAll Tryz.prog os Rows.evidenceMatchesReferenceRow.laid
theorem agn(os:Os):laidMet Tryz.prog Rows.evidenceMatchesReferenceRow.laid ((lw os).forCall (fun _ _=>0) ⟨#[],#[.agg #[.slice none 0 0,.slice none 0 0,.string ⟨#[]⟩,.int .i64 0,.int .i64 0,.slice none 0 0,.slice none 0 0,.int .i64 0,.int .i64 0,.slice none 0 0,.slice none 0 0,.slice none 0 0],.agg #[.slice none 0 0,.slice none 0 0,.string ⟨#[]⟩,.int .i64 0,.int .i64 0,.slice none 0 0,.slice none 0 0,.int .i64 0,.int .i64 0],.agg #[.int .i64 0,.int .i64 0,.string ⟨#[]⟩,.int .i64 0,.int .i64 0,.slice none 0 0,.string ⟨#[]⟩]],[]⟩).memory :=
 laidMet_laidAll _ (by kernel_rfl) (by kernel_rfl)
theorem reads(os:Os){H:Type}(enc:TypeId × Value->H):∃ places,DataW.whole enc Tryz.prog ((lw os).forCall (fun _ _=>0) ⟨#[],#[.agg #[.slice none 0 0,.slice none 0 0,.string ⟨#[]⟩,.int .i64 0,.int .i64 0,.slice none 0 0,.slice none 0 0,.int .i64 0,.int .i64 0,.slice none 0 0,.slice none 0 0,.slice none 0 0],.agg #[.slice none 0 0,.slice none 0 0,.string ⟨#[]⟩,.int .i64 0,.int .i64 0,.slice none 0 0,.slice none 0 0,.int .i64 0,.int .i64 0],.agg #[.int .i64 0,.int .i64 0,.string ⟨#[]⟩,.int .i64 0,.int .i64 0,.slice none 0 0,.string ⟨#[]⟩]],[]⟩).memory Tryz.f3.params.toList Rows.evidenceMatchesReferenceSpec.vars false (#[.agg #[.slice none 0 0,.slice none 0 0,.string ⟨#[]⟩,.int .i64 0,.int .i64 0,.slice none 0 0,.slice none 0 0,.int .i64 0,.int .i64 0,.slice none 0 0,.slice none 0 0,.slice none 0 0],.agg #[.slice none 0 0,.slice none 0 0,.string ⟨#[]⟩,.int .i64 0,.int .i64 0,.slice none 0 0,.slice none 0 0,.int .i64 0,.int .i64 0],.agg #[.int .i64 0,.int .i64 0,.string ⟨#[]⟩,.int .i64 0,.int .i64 0,.slice none 0 0,.string ⟨#[]⟩]]:Array Value).toList 8=some ([.agg [.agg [.nil,.nil,.agg [.lit (.string []),.lit (.int .i64 0),.lit (.int .i64 0),.nil],.nil,.lit (.int .i64 0),.lit (.int .i64 0)],.nil,.nil,.nil],.agg [.nil,.nil,.agg [.lit (.string []),.lit (.int .i64 0),.lit (.int .i64 0),.nil],.nil,.lit (.int .i64 0),.lit (.int .i64 0)],.agg [.lit (.int .i64 0),.lit (.int .i64 0),.agg [.lit (.string []),.lit (.int .i64 0)],.agg [.lit (.int .i64 0),.nil,.lit (.string [])]]],[],places) :=
 ⟨[],by kernel_rfl⟩
theorem lifted(os:Os)(started:os.Started)(H:Type)(enc:TypeId × Value->H)(F:Stop.Interp) :
  ReturnsInHanded {} Tryz.checked os 3 .any ((OpenSpec.ofChange Rows.evidenceMatchesReferenceSpec).preRow enc Tryz.prog Tryz.f3 Rows.evidenceMatchesReferenceRow.domain false Rows.evidenceMatchesReferenceRow.laid) (((OpenSpec.ofChange Rows.evidenceMatchesReferenceSpec).at F).post enc Tryz.prog Tryz.f3 false true false false):=by
 obtain⟨places,hx⟩:=reads os enc;refine returnsInHanded_of_row (C:=Tryz.checked) (s:=OpenSpec.ofChange Rows.evidenceMatchesReferenceSpec) Tryz.own started (by kernel_rfl) Tryz.func3
  (witness_row_at (enc:=enc) (C:=Tryz.checked) false (lw os) #[.agg #[.slice none 0 0,.slice none 0 0,.string ⟨#[]⟩,.int .i64 0,.int .i64 0,.slice none 0 0,.slice none 0 0,.int .i64 0,.int .i64 0,.slice none 0 0,.slice none 0 0,.slice none 0 0],.agg #[.slice none 0 0,.slice none 0 0,.string ⟨#[]⟩,.int .i64 0,.int .i64 0,.slice none 0 0,.slice none 0 0,.int .i64 0,.int .i64 0],.agg #[.int .i64 0,.int .i64 0,.string ⟨#[]⟩,.int .i64 0,.int .i64 0,.slice none 0 0,.string ⟨#[]⟩]] (World.laidAll_os _ _ _) (by kernel_rfl) (by kernel_rfl) (by kernel_rfl)
   (OpenSpec.preRow_of_cond 8 hx (by kernel_rfl) (fun k hk=>by cases hk) (by kernel_rfl) (agn os))) ?_
 intro W base args ds gs before bJ hW _ _ _ hL _ _;exact agm H enc W base args ds gs before bJ hW hL
theorem ago{a b:Bool}(h:a=true)(k:b=true):(a&&b)=true:=by rw[h,k];rfl
theorem j0:laidOutB Tryz.pinned.checked.prog=true:=by kernel_rfl
theorem j1:mapsRowed Tryz.pinned.checked.prog=true:=by kernel_rfl
theorem j2:(Rows.evidenceMatchesReferenceRow.inPlace==Tryz.pinned.checked.prog.inPlace 3)=true:=by kernel_rfl
theorem j3:(Rows.evidenceMatchesReferenceRow.unfollowed==Tryz.pinned.checked.prog.unfollowed 3)=true:=by kernel_rfl
theorem j4:(Rows.evidenceMatchesReferenceRow.recurses==Tryz.pinned.checked.prog.recurses 3)=true:=by kernel_rfl
theorem j5:(Rows.evidenceMatchesReferenceRow.named==Tryz.pinned.checked.prog.varsNamed 3)=true:=by kernel_rfl
theorem j6:(Rows.evidenceMatchesReferenceRow.plainKeys==Tryz.pinned.checked.prog.plainKeys)=true:=by kernel_rfl
theorem j7:Tryz.pinned.checked.prog.stopsHeard=true:=by kernel_rfl
theorem j8:Tryz.pinned.checked.prog.mayEnter=true:=by kernel_rfl
theorem j9:(Rows.evidenceMatchesReferenceRow.lifted==Tryz.pinned.checked.prog.liftsFinal)=true:=by kernel_rfl
theorem j10:(Tryz.pinned.checked.prog.make==some Rows.evidenceMatchesReferenceRow.make)=true:=by kernel_rfl
theorem agq:joinedFacts Tryz.pinned.checked.prog 3 Tryz.f3 (OpenSpec.ofChange Rows.evidenceMatchesReferenceSpec).bare Rows.evidenceMatchesReferenceRow=true:=by
 unfold joinedFacts;repeat' with_reducible refine ago ?_ ?_
 all_goals first|with_reducible(first|exact j0|exact j1|exact j2|exact j3|exact j4|exact j5|exact j6|exact j7|exact j8|exact j9|exact j10)|kernel_rfl
theorem said:Rows.EvidenceMatchesReferenceSaid :=
 OpenClaim.holds_of_cond 3 Tryz.f3 rfl rfl rfl rfl rfl rfl rfl ⟨rfl,rfl,rfl,rfl,rfl⟩ rfl rfl rfl rfl rfl (by kernel_rfl) Tryz.func3 agq
  (of_decide_eq_true (by kernel_rfl)) (by unfold Func.isWrapper;first|(rw[if_pos (by decide +kernel)];kernel_rfl)|(rw[if_neg (by decide +kernel)];exact⟨rfl,rfl⟩))
  (fun os started H enc _ F=>by rw[OpenClaim.pre_eq_preRow];exact lifted os started H enc F)
theorem plain (f : FuncId) (fn : Func) (hf : Tryz.pinned.checked.prog.funcNamed "nameplan/nameplanlaw43.EvidenceMatchesReference" = some f) (GK : Tryz.pinned.checked.prog.funcs[f]? = some fn) :
  false=Tryz.pinned.checked.prog.looks []/\∀ (j:Nat) t,fn.params[j]?=some t->Tryz.pinned.checked.prog.wantsStandIn t=false:=by
 obtain rfl : f = 3 := Option.some.inj ((show Tryz.prog.funcNamed "nameplan/nameplanlaw43.EvidenceMatchesReference" = some 3 by kernel_rfl).symm.trans hf) |>.symm;obtain rfl : fn = Tryz.f3 := (Option.some.inj (Tryz.func3.symm.trans GK)).symm;refine ⟨by kernel_rfl, fun j t ht => ?_⟩;have aM : (Tryz.f3.params.toList.all fun t => !Tryz.prog.wantsStandIn t) = true := by kernel_rfl
 have:=List.all_eq_true.1 aM t (by have:=Array.mem_of_getElem? ht;simpa using this);have:Tryz.prog.wantsStandIn t=false:=zD this
 exact this
theorem hw:Rows.evidenceMatchesReferenceRow.wfByText (OpenSpec.ofChange Rows.evidenceMatchesReferenceSpec)=true:=by kernel_rfl
theorem hm:Tryz.pinned.checked.prog.mainIs=some (Rows.evidenceMatchesReferenceCard.stood.harness.1,Rows.evidenceMatchesReferenceCard.stood.harness.2.toList):=by kernel_rfl
theorem pH:false=Rows.evidenceMatchesReferenceRow.goesBy Tryz.pinned.checked.prog:=by kernel_rfl
theorem agr:Rows.EvidenceMatchesReferenceCardSaid :=
 Claim7.holds_tied_plain_at .later [] _ _ _ _ said (fun _ h=>by cases h) hw (fun _ h=>by cases h) evidenceMatchesReference_row_tie rfl ⟨rfl,rfl⟩ hm rfl plain pH
end Go.Proofs.YtlhehdgciafakaaGreatDoor.evidenceMatchesReference
namespace Go.Proofs.YtlhehdgciafakaaGreatDoor
theorem evidenceMatchesReference_card:Rows.EvidenceMatchesReferenceCardSaid:=evidenceMatchesReference.agr
end Go.Proofs.YtlhehdgciafakaaGreatDoor
