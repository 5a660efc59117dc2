/- EvidenceHeard: for every input the law returns true, and each argument reads as before; the card ties the table that it reads to the program's text. Conditions: none beyond the row's own. -/
import Derived.Test.YtfmdaiojokniiaaGreatDoorV50
import Derived.Test.YtfmdaiojokniiaaGreatDoorCards
import Derived.Test.YtfmdaiojokniiaaGreatDoorTie
import Derived.Lay
set_option linter.unusedVariables false
set_option linter.unusedSimpArgs false
namespace Go.Proofs.YtfmdaiojokniiaaGreatDoor.evidenceHeard
open Go Go.aw Go.ChangeShapes Go.WideShapes Go.ChangeAt Go.RowKit
set_option maxRecDepth 100000
theorem Xd (xs:List DV) (h:sU E Tryz.f8.params.toList xs):aq E 8 xs (· = .bool true):=by
 have h:sU E [29,5,36,3,3,3] xs:=h;obtain ⟨x0,XV,rfl,h0,r0⟩:=va h;obtain ⟨a0,rfl,g0⟩:=P.Rz.get h0.1 h0.2;obtain ⟨x1,XW,rfl,h1,r1⟩:=va r0;obtain ⟨a1,rfl,g1⟩:=P.Rl.get h1.1 h1.2;obtain ⟨x2,XX,rfl,h2,r2⟩:=va r1;obtain ⟨a2,rfl,g2⟩:=P.Ru.get h2.1 h2.2;obtain ⟨x3,XY,rfl,h3,r3⟩:=va r2;obtain ⟨a3,rfl,g3⟩:=P.gI.get h3.1 h3.2;obtain ⟨x4,XZ,rfl,h4,r4⟩:=va r3;obtain ⟨a4,rfl,g4⟩:=P.gI.get h4.1 h4.2;obtain ⟨x5,Xe,rfl,h5,r5⟩:=va r4;obtain ⟨a5,rfl,g5⟩:=P.gI.get h5.1 h5.2;obtain rfl:Xe=[]:=r5;exact P.Xc a0 a1 a2 a3 a4 a5 g0 g1 g2 g3 g4 g5
theorem Xf (H:Type) (enc:TypeId × Value→H) (W:World) (base:Nat) (args:Array Value) (ds gs:List (DataW H)) (before:List MemPlace)
  (bK:∀ (j:Nat) t v,Tryz.f8.params[j]? = some t→args[j]? = some v→Value.okWide Tryz.prog W .any base t v)
  (hW:DataW.Whole enc Tryz.prog Tryz.f8.params.toList Rows.evidenceHeardSpec.vars false W args.toList ds gs before) (hL:laidMetH Tryz.prog Rows.evidenceHeardRow.laid W) :
  Calls Tryz.prog 8 args W fun e W'=>∃ v,e = .returned v∧Rows.evidenceHeardSpec.post enc Tryz.prog Tryz.f8 false true false false W args v W' :=
 RJ (tb:=4) bK hW (RO (laid:=Rows.evidenceHeardRow.laid) hL (by first | exact .head _ | exact .tail _ (.head _))) (by kernel_rfl) (RN (by kernel_rfl)) rfl rfl (by kernel_rfl)
  (fun ds hd=>by
   have hd:ds.length=6:=hd
   match ds,hd with
   | [_,_,_,_,_,_],_=>exact ⟨rfl,rfl,rfl⟩) Xd
noncomputable abbrev lw (os:Os):World:=World.laidAll Tryz.prog os Rows.evidenceHeardRow.laid
theorem Xg (os:Os):laidMet Tryz.prog Rows.evidenceHeardRow.laid ((lw os).forCall (fun _ _=>0) ⟨#[],#[.agg #[.slice none 0 0,.slice none 0 0,.string ⟨#[]⟩,.int .i64 0,.int .i64 0,.slice none 0 0,.slice none 0 0,.int .i64 0,.int .i64 0],.int .u8 0,.agg #[.string ⟨#[]⟩,.int .i64 0],.int .i64 0,.int .i64 0,.int .i64 0],[]⟩).memory :=
 laidMet_laidAll _ (by kernel_rfl) (by kernel_rfl)
theorem reads (os:Os) {H:Type} (enc:TypeId × Value→H):∃ places,DataW.whole enc Tryz.prog ((lw os).forCall (fun _ _=>0) ⟨#[],#[.agg #[.slice none 0 0,.slice none 0 0,.string ⟨#[]⟩,.int .i64 0,.int .i64 0,.slice none 0 0,.slice none 0 0,.int .i64 0,.int .i64 0],.int .u8 0,.agg #[.string ⟨#[]⟩,.int .i64 0],.int .i64 0,.int .i64 0,.int .i64 0],[]⟩).memory Tryz.f8.params.toList Rows.evidenceHeardSpec.vars false (#[.agg #[.slice none 0 0,.slice none 0 0,.string ⟨#[]⟩,.int .i64 0,.int .i64 0,.slice none 0 0,.slice none 0 0,.int .i64 0,.int .i64 0],.int .u8 0,.agg #[.string ⟨#[]⟩,.int .i64 0],.int .i64 0,.int .i64 0,.int .i64 0]:Array Value).toList 8=some ([.agg [.nil,.nil,.agg [.lit (.string []),.lit (.int .i64 0),.lit (.int .i64 0),.nil],.nil,.lit (.int .i64 0),.lit (.int .i64 0)],.lit (.int .u8 0),.agg [.lit (.string []),.lit (.int .i64 0)],.lit (.int .i64 0),.lit (.int .i64 0),.lit (.int .i64 0)],[],places) :=
 ⟨[],by kernel_rfl⟩
theorem lifted (os:Os) (started:os.Started) (H:Type) (enc:TypeId × Value→H) (F:Stop.Interp) :
  ReturnsInHanded {} Tryz.checked os 8 .any ((OpenSpec.ofChange Rows.evidenceHeardSpec).preRow enc Tryz.prog Tryz.f8 Rows.evidenceHeardRow.domain false Rows.evidenceHeardRow.laid) (((OpenSpec.ofChange Rows.evidenceHeardSpec).at F).post enc Tryz.prog Tryz.f8 false true false false):=by
 obtain ⟨places,hx⟩:=reads os enc;refine returnsInHanded_of_row (C:=Tryz.checked) (s:=OpenSpec.ofChange Rows.evidenceHeardSpec) Tryz.own started (by kernel_rfl) Tryz.func8
  (witness_row_at (enc:=enc) (C:=Tryz.checked) false (lw os) #[.agg #[.slice none 0 0,.slice none 0 0,.string ⟨#[]⟩,.int .i64 0,.int .i64 0,.slice none 0 0,.slice none 0 0,.int .i64 0,.int .i64 0],.int .u8 0,.agg #[.string ⟨#[]⟩,.int .i64 0],.int .i64 0,.int .i64 0,.int .i64 0] (World.laidAll_os _ _ _) (by kernel_rfl) (by kernel_rfl) (by kernel_rfl)
   (OpenSpec.preRow_of_cond 8 hx (by kernel_rfl) (fun k hk=>by cases hk) (by kernel_rfl) (Xg os))) ?_
 intro W base args ds gs before bK hW _ _ _ hL _ _;exact Xf H enc W base args ds gs before bK hW hL
theorem Xh {a b:Bool} (h:a=true) (k:b=true):(a&&b)=true:=by rw [h,k]; rfl
theorem j0:laidOutB Tryz.pinned.checked.prog=true:=by kernel_rfl
theorem j1:mapsRowed Tryz.pinned.checked.prog=true:=by kernel_rfl
theorem j2:(Rows.evidenceHeardRow.inPlace==Tryz.pinned.checked.prog.inPlace 8)=true:=by kernel_rfl
theorem j3:(Rows.evidenceHeardRow.unfollowed==Tryz.pinned.checked.prog.unfollowed 8)=true:=by kernel_rfl
theorem j4:(Rows.evidenceHeardRow.recurses==Tryz.pinned.checked.prog.recurses 8)=true:=by kernel_rfl
theorem j5:(Rows.evidenceHeardRow.named==Tryz.pinned.checked.prog.varsNamed 8)=true:=by kernel_rfl
theorem j6:(Rows.evidenceHeardRow.plainKeys==Tryz.pinned.checked.prog.plainKeys)=true:=by kernel_rfl
theorem j7:Tryz.pinned.checked.prog.stopsHeard=true:=by kernel_rfl
theorem j8:Tryz.pinned.checked.prog.mayEnter=true:=by kernel_rfl
theorem j9:(Rows.evidenceHeardRow.lifted==Tryz.pinned.checked.prog.liftsFinal)=true:=by kernel_rfl
theorem Xi:(Tryz.pinned.checked.prog.make==some Rows.evidenceHeardRow.make)=true:=by kernel_rfl
theorem Xj:joinedFacts Tryz.pinned.checked.prog 8 Tryz.f8 (OpenSpec.ofChange Rows.evidenceHeardSpec).bare Rows.evidenceHeardRow=true:=by
 unfold joinedFacts;repeat' with_reducible refine Xh ?_ ?_
 all_goals first | with_reducible exact j0 | with_reducible exact j1 | with_reducible exact j2 | with_reducible exact j3 | with_reducible exact j4 | with_reducible exact j5 | with_reducible exact j6 | with_reducible exact j7 | with_reducible exact j8 | with_reducible exact j9 | with_reducible exact Xi | kernel_rfl
theorem said:Rows.EvidenceHeardSaid :=
 OpenClaim.holds_of_cond 8 Tryz.f8 rfl rfl rfl rfl rfl rfl rfl ⟨rfl,rfl,rfl,rfl,rfl⟩ rfl rfl rfl rfl rfl (by kernel_rfl) Tryz.func8 Xj
  (of_decide_eq_true (by kernel_rfl)) (by unfold Func.isWrapper; first | (rw [if_pos (by decide +kernel)]; kernel_rfl) | (rw [if_neg (by decide +kernel)]; exact ⟨rfl,rfl⟩))
  (fun os started H enc _ F=>by rw [OpenClaim.pre_eq_preRow]; exact lifted os started H enc F)
theorem plain (f : FuncId) (fn : Func) (hf : Tryz.pinned.checked.prog.funcNamed "nameplan/nameplanlaw43.EvidenceHeard" = some f) (BJ : Tryz.pinned.checked.prog.funcs[f]? = some fn) :
  false=Tryz.pinned.checked.prog.looks []∧∀ (j:Nat) t,fn.params[j]? = some t→Tryz.pinned.checked.prog.wantsStandIn t=false:=by
 obtain rfl : f = 8 := Option.some.inj ((show Tryz.prog.funcNamed "nameplan/nameplanlaw43.EvidenceHeard" = some 8 by kernel_rfl).symm.trans hf) |>.symm;obtain rfl : fn = Tryz.f8 := (Option.some.inj (Tryz.func8.symm.trans BJ)).symm;refine ⟨by kernel_rfl, fun j t ht => ?_⟩;have aW : (Tryz.f8.params.toList.all fun t => !Tryz.prog.wantsStandIn t) = true := by kernel_rfl
 have:=List.all_eq_true.1 aW t (by have:=Array.mem_of_getElem? ht; simpa using this);have:Tryz.prog.wantsStandIn t=false:=by simpa using this
 exact this
theorem hw:Rows.evidenceHeardRow.wfByText (OpenSpec.ofChange Rows.evidenceHeardSpec)=true:=by kernel_rfl
theorem hm:Tryz.pinned.checked.prog.mainIs=some (Rows.evidenceHeardCard.stood.harness.1,Rows.evidenceHeardCard.stood.harness.2.toList):=by kernel_rfl
theorem rY:false=Rows.evidenceHeardRow.goesBy Tryz.pinned.checked.prog:=by kernel_rfl
theorem Xk:Rows.EvidenceHeardCardSaid :=
 Claim7.holds_tied_plain_at .later [] _ _ _ _ said (fun _ h=>by cases h) hw (fun _ h=>by cases h) evidenceHeard_row_tie rfl ⟨rfl,rfl⟩ hm rfl plain rY
end Go.Proofs.YtfmdaiojokniiaaGreatDoor.evidenceHeard
namespace Go.Proofs.YtfmdaiojokniiaaGreatDoor
theorem evidenceHeard_card:Rows.EvidenceHeardCardSaid:=evidenceHeard.Xk
end Go.Proofs.YtfmdaiojokniiaaGreatDoor
