/- CopiesMore: for every input the law returns true, and each argument reads as before; the card ties the table that it reads to the program's text. Conditions: none beyond the row's own. The second form: arguments of small bulk. -/
import Derived.Test.YthikfaephakahaaGreatDoorZP116
import Derived.Test.YthikfaephakahaaGreatDoorZM7
import Derived.Test.YthikfaephakahaaGreatDoorZLawU
import Derived.Test.YthikfaephakahaaGreatDoorCards
import Derived.Test.YthikfaephakahaaGreatDoorTie
set_option linter.unusedVariables false
set_option linter.unusedSimpArgs false
namespace Go.Proofs.YthikfaephakahaaGreatDoor.copiesMore
open Go Go.Eng Go.ChangeShapes Go.WideShapes Go.ChangeAt Go.RowKit
set_option maxRecDepth 100000
theorem args_p (xs:List DV) (h:ArgsT E Tryz.f7.params.toList xs) (hb:∀ (j t e:Nat) (l:List DV),Tryz.f7.params.toList[j]? = some t→Tryz.prog.underlying t=some (.slice e)→xs[j]? = some (.sl l)→l.length≤1048576):PCalls E 7 xs (· = .bool true):=by
 have h:ArgsT E [22,3,23,37,3,3,3] xs:=h;obtain ⟨x0,xs0,rfl,h0,r0⟩:=argsT_cons h;obtain ⟨a0,rfl,g0⟩:=P.dec_Versions h0.1 h0.2;obtain ⟨x1,xs1,rfl,h1,r1⟩:=argsT_cons r0;obtain ⟨a1,rfl,g1⟩:=P.dec_int h1.1 h1.2;obtain ⟨x2,xs2,rfl,h2,r2⟩:=argsT_cons r1;obtain ⟨a2,rfl,g2⟩:=P.dec_Polls h2.1 h2.2;obtain ⟨x3,xs3,rfl,h3,r3⟩:=argsT_cons r2;obtain ⟨a3,rfl,g3⟩:=P.dec_Poll h3.1 h3.2;obtain ⟨x4,xs4,rfl,h4,r4⟩:=argsT_cons r3;obtain ⟨a4,rfl,g4⟩:=P.dec_int h4.1 h4.2;obtain ⟨x5,xs5,rfl,h5,r5⟩:=argsT_cons r4;obtain ⟨a5,rfl,g5⟩:=P.dec_int h5.1 h5.2;obtain ⟨x6,xs6,rfl,h6,r6⟩:=argsT_cons r5;obtain ⟨a6,rfl,g6⟩:=P.dec_int h6.1 h6.2;obtain rfl:xs6=[]:=r6;exact P.copiesMore_g a0 a1 a2 a3 a4 a5 a6 g0 g1 g2 g3 g4 g5 g6 (by have:=hb 0 22 49 _ rfl (by kernel_rfl) rfl; simpa using this) (by have:=hb 2 23 37 _ rfl (by kernel_rfl) rfl; simpa using this)
theorem contract (H:Type) (enc:TypeId × Value→H) (W:World) (base:Nat) (args:Array Value) (ds gs:List (DataW H)) (before:List MemPlace)
  (hval:∀ (j:Nat) t v,Tryz.f7.params[j]? = some t→args[j]? = some v→Value.okWide Tryz.prog W .any base t v)
  (hW:DataW.Whole enc Tryz.prog Tryz.f7.params.toList Rows.copiesMoreSpec.vars false W args.toList ds gs before) (hL:laidMetH Tryz.prog Rows.copiesMoreUptoRow.laid W) (hk:Rows.uptoSmall H (ds++gs)=true) :
  Calls Tryz.prog 7 args W fun e W'=>∃ v,e = .returned v∧Rows.copiesMoreSpec.post enc Tryz.prog Tryz.f7 false true false false W args v W' :=
 engine_law_upto hk (tb:=4) hval hW (globs_ok (laid:=Rows.copiesMoreUptoRow.laid) hL (List.mem_singleton.2 rfl)) (by kernel_rfl) (readable_of (by kernel_rfl)) rfl rfl (by kernel_rfl)
  (fun ds hd=>by
   have hd:ds.length=7:=hd
   match ds,hd with
   | [_,_,_,_,_,_,_],_=>exact ⟨rfl,rfl,rfl⟩) args_p
theorem laid_met (os:Os):laidMet Tryz.prog Rows.copiesMoreUptoRow.laid ((laidWorld os).forCall (fun _ _=>0) ⟨#[],#[.slice none 0 0,.int .i64 0,.slice none 0 0,.agg #[.int .i64 0,.int .i64 0,.bool false],.int .i64 0,.int .i64 0,.int .i64 0],[]⟩).memory :=
 laidMet_of_run' 8 (by kernel_rfl) (by kernel_rfl)
theorem reads (os:Os) {H:Type} (enc:TypeId × Value→H):∃ places,DataW.whole enc Tryz.prog ((laidWorld os).forCall (fun _ _=>0) ⟨#[],#[.slice none 0 0,.int .i64 0,.slice none 0 0,.agg #[.int .i64 0,.int .i64 0,.bool false],.int .i64 0,.int .i64 0,.int .i64 0],[]⟩).memory Tryz.f7.params.toList Rows.copiesMoreSpec.vars false (#[.slice none 0 0,.int .i64 0,.slice none 0 0,.agg #[.int .i64 0,.int .i64 0,.bool false],.int .i64 0,.int .i64 0,.int .i64 0]:Array Value).toList 8=some ([.nil,.lit (.int .i64 0),.nil,.agg [.lit (.int .i64 0),.lit (.int .i64 0),.lit (.bool false)],.lit (.int .i64 0),.lit (.int .i64 0),.lit (.int .i64 0)],[],places) :=
 ⟨[],by kernel_rfl⟩
theorem lifted (os:Os) (started:os.Started) (H:Type) (enc:TypeId × Value→H) (F:Stop.Interp) :
  ReturnsInHanded {} Tryz.checked os 7 .any ((Rows.OpenSpec.upto Rows.copiesMoreSpec).preRow enc Tryz.prog Tryz.f7 Rows.copiesMoreUptoRow.domain false Rows.copiesMoreUptoRow.laid) (((Rows.OpenSpec.upto Rows.copiesMoreSpec).at F).post enc Tryz.prog Tryz.f7 false true false false):=by
 obtain ⟨places,hx⟩:=reads os enc;refine returnsInHanded_of_row (C:=Tryz.checked) (s:=Rows.OpenSpec.upto Rows.copiesMoreSpec) Tryz.own started (by kernel_rfl) Tryz.func7
  (witness_row_at (enc:=enc) (C:=Tryz.checked) false (laidWorld os) #[.slice none 0 0,.int .i64 0,.slice none 0 0,.agg #[.int .i64 0,.int .i64 0,.bool false],.int .i64 0,.int .i64 0,.int .i64 0] rfl (by kernel_rfl) (by kernel_rfl) (by kernel_rfl)
   (OpenSpec.preRow_of_cond 8 hx (by kernel_rfl) (fun k hk=>by cases hk; kernel_rfl) (by kernel_rfl) (laid_met os))) ?_
 intro W base args ds gs before hval hW _ hk _ hL _ _;exact contract H enc W base args ds gs before hval hW hL (hk _ rfl)
theorem and_t {a b:Bool} (h:a=true) (k:b=true):(a&&b)=true:=by rw [h,k]; rfl
theorem j0:laidOutB Tryz.pinned.checked.prog=true:=by kernel_rfl
theorem j1:mapsRowed Tryz.pinned.checked.prog=true:=by kernel_rfl
theorem j2:(Rows.copiesMoreUptoRow.inPlace==Tryz.pinned.checked.prog.inPlace 7)=true:=by kernel_rfl
theorem j3:(Rows.copiesMoreUptoRow.unfollowed==Tryz.pinned.checked.prog.unfollowed 7)=true:=by kernel_rfl
theorem j4:(Rows.copiesMoreUptoRow.recurses==Tryz.pinned.checked.prog.recurses 7)=true:=by kernel_rfl
theorem j5:(Rows.copiesMoreUptoRow.named==Tryz.pinned.checked.prog.varsNamed 7)=true:=by kernel_rfl
theorem j6:(Rows.copiesMoreUptoRow.plainKeys==Tryz.pinned.checked.prog.plainKeys)=true:=by kernel_rfl
theorem j7:Tryz.pinned.checked.prog.stopsHeard=true:=by kernel_rfl
theorem j8:Tryz.pinned.checked.prog.mayEnter=true:=by kernel_rfl
theorem j9:(Rows.copiesMoreUptoRow.lifted==Tryz.pinned.checked.prog.liftsFinal)=true:=by kernel_rfl
theorem j10:(Tryz.pinned.checked.prog.make==some Rows.copiesMoreUptoRow.make)=true:=by kernel_rfl
theorem joined:joinedFacts Tryz.pinned.checked.prog 7 Tryz.f7 (Rows.OpenSpec.upto Rows.copiesMoreSpec).bare Rows.copiesMoreUptoRow=true:=by
 unfold joinedFacts;repeat' with_reducible refine and_t ?_ ?_
 all_goals first | with_reducible exact j0 | with_reducible exact j1 | with_reducible exact j2 | with_reducible exact j3 | with_reducible exact j4 | with_reducible exact j5 | with_reducible exact j6 | with_reducible exact j7 | with_reducible exact j8 | with_reducible exact j9 | with_reducible exact j10 | kernel_rfl
theorem said:Rows.CopiesMoreUptoSaid :=
 OpenClaim.holds_of_cond 7 Tryz.f7 rfl rfl rfl rfl rfl rfl rfl ⟨rfl,rfl,rfl,rfl,rfl⟩ rfl rfl rfl rfl rfl (by kernel_rfl) Tryz.func7 joined
  (of_decide_eq_true (by kernel_rfl)) (by unfold Func.isWrapper; first | (rw [if_pos (by decide +kernel)]; kernel_rfl) | (rw [if_neg (by decide +kernel)]; exact ⟨rfl,rfl⟩))
  (fun os started H enc _ F=>by rw [OpenClaim.pre_eq_preRow]; exact lifted os started H enc F)
theorem plain (f : FuncId) (fn : Func) (hf : Tryz.pinned.checked.prog.funcNamed "nameplan/nameplanlaw15.CopiesMore" = some f) (hfn : Tryz.pinned.checked.prog.funcs[f]? = some fn) :
  false=Tryz.pinned.checked.prog.looks []∧∀ (j:Nat) t,fn.params[j]? = some t→Tryz.pinned.checked.prog.wantsStandIn t=false:=by
 obtain rfl : f = 7 := Option.some.inj ((show Tryz.prog.funcNamed "nameplan/nameplanlaw15.CopiesMore" = some 7 by kernel_rfl).symm.trans hf) |>.symm;obtain rfl : fn = Tryz.f7 := (Option.some.inj (Tryz.func7.symm.trans hfn)).symm;refine ⟨by kernel_rfl, fun j t ht => ?_⟩;have hall : (Tryz.f7.params.toList.all fun t => !Tryz.prog.wantsStandIn t) = true := by kernel_rfl
 have:=List.all_eq_true.1 hall t (by have:=Array.mem_of_getElem? ht; simpa using this);have:Tryz.prog.wantsStandIn t=false:=by simpa using this
 exact this
theorem hw:Rows.copiesMoreUptoRow.wfByText (Rows.OpenSpec.upto Rows.copiesMoreSpec)=true:=by kernel_rfl
theorem hm:Tryz.pinned.checked.prog.mainIs=some (Rows.copiesMoreUptoCard.stood.harness.1,Rows.copiesMoreUptoCard.stood.harness.2.toList):=by kernel_rfl
theorem hgo:false=Rows.copiesMoreUptoRow.goesBy Tryz.pinned.checked.prog:=by kernel_rfl
theorem card:Rows.CopiesMoreUptoCardSaid :=
 Claim7.holds_tied_plain_at .later [] _ _ _ _ said (fun _ h=>by cases h) hw (fun _ h=>by cases h) copiesMoreUpto_row_tie rfl ⟨rfl,rfl⟩ hm rfl plain hgo
end Go.Proofs.YthikfaephakahaaGreatDoor.copiesMore
namespace Go.Proofs.YthikfaephakahaaGreatDoor
theorem copiesMoreUpto_card:Rows.CopiesMoreUptoCardSaid:=copiesMore.card
end Go.Proofs.YthikfaephakahaaGreatDoor
