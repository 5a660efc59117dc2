/- EvidenceServes: for every input the law returns true, and each argument reads as before; the card ties the table that it reads to the program's text. Conditions: none beyond the row's own. -/
import Derived.Test.YtfmdaiojokniiaaGreatDoorW50
import Derived.Test.YtfmdaiojokniiaaGreatDoorCards
import Derived.Test.YtfmdaiojokniiaaGreatDoorTie
import Derived.Lay
set_option linter.unusedVariables false
set_option linter.unusedSimpArgs false
namespace Go.Proofs.YtfmdaiojokniiaaGreatDoor.evidenceServes
open Go Go.aw Go.ChangeShapes Go.WideShapes Go.ChangeAt Go.RowKit
set_option maxRecDepth 100000
theorem Vh (xs:List DV) (h:rR E Tryz.f5.params.toList xs):au E 5 xs (· = .bool true):=by
 have h:rR E [29,41,65] xs:=h;obtain ⟨x0,V2,rfl,h0,r0⟩:=Di h;obtain ⟨a0,rfl,g0⟩:=P.P8.get h0.1 h0.2;obtain ⟨x1,V3,rfl,h1,r1⟩:=Di r0;obtain ⟨a1,rfl,g1⟩:=P.P9.get h1.1 h1.2;obtain ⟨x2,Vi,rfl,h2,r2⟩:=Di r1;obtain ⟨a2,rfl,g2⟩:=P.PU.get h2.1 h2.2;obtain rfl:Vi=[]:=r2;exact P.Vg a0 a1 a2 g0 g1 g2
theorem Vj (H:Type) (enc:TypeId × Value→H) (W:World) (base:Nat) (args:Array Value) (ds gs:List (DataW H)) (before:List MemPlace)
  (bH:∀ (j:Nat) t v,Tryz.f5.params[j]? = some t→args[j]? = some v→Value.okWide Tryz.prog W .any base t v)
  (hW:DataW.Whole enc Tryz.prog Tryz.f5.params.toList Rows.evidenceServesSpec.vars false W args.toList ds gs before) (hL:laidMetH Tryz.prog Rows.evidenceServesRow.laid W) :
  Calls Tryz.prog 5 args W fun e W'=>∃ v,e = .returned v∧Rows.evidenceServesSpec.post enc Tryz.prog Tryz.f5 false true false false W args v W' :=
 Qh (tb:=4) bH hW (Ql (laid:=Rows.evidenceServesRow.laid) hL (by first | exact .head _ | exact .tail _ (.head _))) (by kernel_rfl) (Qk (by kernel_rfl)) rfl rfl (by kernel_rfl)
  (fun ds hd=>by
   have hd:ds.length=3:=hd
   match ds,hd with
   | [_,_,_],_=>exact ⟨rfl,rfl,rfl⟩) Vh
noncomputable abbrev lw (os:Os):World:=World.laidAll Tryz.prog os Rows.evidenceServesRow.laid
theorem Vk (os:Os):laidMet Tryz.prog Rows.evidenceServesRow.laid ((lw os).forCall (fun _ _=>0) ⟨#[],#[.agg #[.slice none 0 0,.slice none 0 0,.string ⟨#[]⟩,.int .i64 0,.int .i64 0,.slice none 0 0,.slice none 0 0,.int .i64 0,.int .i64 0],.agg #[.int .i64 0,.int .i64 0,.string ⟨#[]⟩,.int .i64 0,.int .i64 0,.slice none 0 0,.string ⟨#[]⟩],.int .u16 0],[]⟩).memory :=
 laidMet_laidAll _ (by kernel_rfl) (by kernel_rfl)
theorem reads (os:Os) {H:Type} (enc:TypeId × Value→H):∃ places,DataW.whole enc Tryz.prog ((lw os).forCall (fun _ _=>0) ⟨#[],#[.agg #[.slice none 0 0,.slice none 0 0,.string ⟨#[]⟩,.int .i64 0,.int .i64 0,.slice none 0 0,.slice none 0 0,.int .i64 0,.int .i64 0],.agg #[.int .i64 0,.int .i64 0,.string ⟨#[]⟩,.int .i64 0,.int .i64 0,.slice none 0 0,.string ⟨#[]⟩],.int .u16 0],[]⟩).memory Tryz.f5.params.toList Rows.evidenceServesSpec.vars false (#[.agg #[.slice none 0 0,.slice none 0 0,.string ⟨#[]⟩,.int .i64 0,.int .i64 0,.slice none 0 0,.slice none 0 0,.int .i64 0,.int .i64 0],.agg #[.int .i64 0,.int .i64 0,.string ⟨#[]⟩,.int .i64 0,.int .i64 0,.slice none 0 0,.string ⟨#[]⟩],.int .u16 0]:Array Value).toList 8=some ([.agg [.nil,.nil,.agg [.lit (.string []),.lit (.int .i64 0),.lit (.int .i64 0),.nil],.nil,.lit (.int .i64 0),.lit (.int .i64 0)],.agg [.lit (.int .i64 0),.lit (.int .i64 0),.agg [.lit (.string []),.lit (.int .i64 0)],.agg [.lit (.int .i64 0),.nil,.lit (.string [])]],.lit (.int .u16 0)],[],places) :=
 ⟨[],by kernel_rfl⟩
theorem lifted (os:Os) (started:os.Started) (H:Type) (enc:TypeId × Value→H) (F:Stop.Interp) :
  ReturnsInHanded {} Tryz.checked os 5 .any ((OpenSpec.ofChange Rows.evidenceServesSpec).preRow enc Tryz.prog Tryz.f5 Rows.evidenceServesRow.domain false Rows.evidenceServesRow.laid) (((OpenSpec.ofChange Rows.evidenceServesSpec).at F).post enc Tryz.prog Tryz.f5 false true false false):=by
 obtain ⟨places,hx⟩:=reads os enc;refine returnsInHanded_of_row (C:=Tryz.checked) (s:=OpenSpec.ofChange Rows.evidenceServesSpec) Tryz.own started (by kernel_rfl) Tryz.func5
  (witness_row_at (enc:=enc) (C:=Tryz.checked) false (lw os) #[.agg #[.slice none 0 0,.slice none 0 0,.string ⟨#[]⟩,.int .i64 0,.int .i64 0,.slice none 0 0,.slice none 0 0,.int .i64 0,.int .i64 0],.agg #[.int .i64 0,.int .i64 0,.string ⟨#[]⟩,.int .i64 0,.int .i64 0,.slice none 0 0,.string ⟨#[]⟩],.int .u16 0] (World.laidAll_os _ _ _) (by kernel_rfl) (by kernel_rfl) (by kernel_rfl)
   (OpenSpec.preRow_of_cond 8 hx (by kernel_rfl) (fun k hk=>by cases hk) (by kernel_rfl) (Vk os))) ?_
 intro W base args ds gs before bH hW _ _ _ hL _ _;exact Vj H enc W base args ds gs before bH hW hL
theorem Vl {a b:Bool} (h:a=true) (k:b=true):(a&&b)=true:=by rw [h,k]; rfl
theorem j0:laidOutB Tryz.pinned.checked.prog=true:=by kernel_rfl
theorem j1:mapsRowed Tryz.pinned.checked.prog=true:=by kernel_rfl
theorem j2:(Rows.evidenceServesRow.inPlace==Tryz.pinned.checked.prog.inPlace 5)=true:=by kernel_rfl
theorem j3:(Rows.evidenceServesRow.unfollowed==Tryz.pinned.checked.prog.unfollowed 5)=true:=by kernel_rfl
theorem j4:(Rows.evidenceServesRow.recurses==Tryz.pinned.checked.prog.recurses 5)=true:=by kernel_rfl
theorem j5:(Rows.evidenceServesRow.named==Tryz.pinned.checked.prog.varsNamed 5)=true:=by kernel_rfl
theorem j6:(Rows.evidenceServesRow.plainKeys==Tryz.pinned.checked.prog.plainKeys)=true:=by kernel_rfl
theorem j7:Tryz.pinned.checked.prog.stopsHeard=true:=by kernel_rfl
theorem j8:Tryz.pinned.checked.prog.mayEnter=true:=by kernel_rfl
theorem j9:(Rows.evidenceServesRow.lifted==Tryz.pinned.checked.prog.liftsFinal)=true:=by kernel_rfl
theorem Vm:(Tryz.pinned.checked.prog.make==some Rows.evidenceServesRow.make)=true:=by kernel_rfl
theorem Vn:joinedFacts Tryz.pinned.checked.prog 5 Tryz.f5 (OpenSpec.ofChange Rows.evidenceServesSpec).bare Rows.evidenceServesRow=true:=by
 unfold joinedFacts;repeat' with_reducible refine Vl ?_ ?_
 all_goals first | with_reducible exact j0 | with_reducible exact j1 | with_reducible exact j2 | with_reducible exact j3 | with_reducible exact j4 | with_reducible exact j5 | with_reducible exact j6 | with_reducible exact j7 | with_reducible exact j8 | with_reducible exact j9 | with_reducible exact Vm | kernel_rfl
theorem said:Rows.EvidenceServesSaid :=
 OpenClaim.holds_of_cond 5 Tryz.f5 rfl rfl rfl rfl rfl rfl rfl ⟨rfl,rfl,rfl,rfl,rfl⟩ rfl rfl rfl rfl rfl (by kernel_rfl) Tryz.func5 Vn
  (of_decide_eq_true (by kernel_rfl)) (by unfold Func.isWrapper; first | (rw [if_pos (by decide +kernel)]; kernel_rfl) | (rw [if_neg (by decide +kernel)]; exact ⟨rfl,rfl⟩))
  (fun os started H enc _ F=>by rw [OpenClaim.pre_eq_preRow]; exact lifted os started H enc F)
theorem plain (f : FuncId) (fn : Func) (hf : Tryz.pinned.checked.prog.funcNamed "nameplan/nameplanlaw43.EvidenceServes" = some f) (AL : Tryz.pinned.checked.prog.funcs[f]? = some fn) :
  false=Tryz.pinned.checked.prog.looks []∧∀ (j:Nat) t,fn.params[j]? = some t→Tryz.pinned.checked.prog.wantsStandIn t=false:=by
 obtain rfl : f = 5 := Option.some.inj ((show Tryz.prog.funcNamed "nameplan/nameplanlaw43.EvidenceServes" = some 5 by kernel_rfl).symm.trans hf) |>.symm;obtain rfl : fn = Tryz.f5 := (Option.some.inj (Tryz.func5.symm.trans AL)).symm;refine ⟨by kernel_rfl, fun j t ht => ?_⟩;have a7 : (Tryz.f5.params.toList.all fun t => !Tryz.prog.wantsStandIn t) = true := by kernel_rfl
 have:=List.all_eq_true.1 a7 t (by have:=Array.mem_of_getElem? ht; simpa using this);have:Tryz.prog.wantsStandIn t=false:=by simpa using this
 exact this
theorem hw:Rows.evidenceServesRow.wfByText (OpenSpec.ofChange Rows.evidenceServesSpec)=true:=by kernel_rfl
theorem hm:Tryz.pinned.checked.prog.mainIs=some (Rows.evidenceServesCard.stood.harness.1,Rows.evidenceServesCard.stood.harness.2.toList):=by kernel_rfl
theorem qV:false=Rows.evidenceServesRow.goesBy Tryz.pinned.checked.prog:=by kernel_rfl
theorem Vo:Rows.EvidenceServesCardSaid :=
 Claim7.holds_tied_plain_at .later [] _ _ _ _ said (fun _ h=>by cases h) hw (fun _ h=>by cases h) evidenceServes_row_tie rfl ⟨rfl,rfl⟩ hm rfl plain qV
end Go.Proofs.YtfmdaiojokniiaaGreatDoor.evidenceServes
namespace Go.Proofs.YtfmdaiojokniiaaGreatDoor
theorem evidenceServes_card:Rows.EvidenceServesCardSaid:=evidenceServes.Vo
end Go.Proofs.YtfmdaiojokniiaaGreatDoor
