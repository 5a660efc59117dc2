/- EvidenceDamage: for every input the law returns true, and each argument reads as before; the card ties the table that it reads to the program's text. Conditions: none beyond the row's own. -/
import Derived.Test.YtfmdaiojokniiaaGreatDoorY50
import Derived.Test.YtfmdaiojokniiaaGreatDoorCards
import Derived.Test.YtfmdaiojokniiaaGreatDoorTie
import Derived.Lay
set_option linter.unusedVariables false
set_option linter.unusedSimpArgs false
namespace Go.Proofs.YtfmdaiojokniiaaGreatDoor.evidenceDamage
open Go Go.ax Go.ChangeShapes Go.WideShapes Go.ChangeAt Go.RowKit
set_option maxRecDepth 100000
theorem VM (xs:List DV) (h:sm E Tryz.f6.params.toList xs):aq E 6 xs (· = .bool true):=by
 have h:sm E [34,63,5] xs:=h;obtain ⟨x0,Wt,rfl,h0,r0⟩:=DR h;obtain ⟨a0,rfl,g0⟩:=P.QT.get h0.1 h0.2;obtain ⟨x1,Wu,rfl,h1,r1⟩:=DR r0;obtain ⟨a1,rfl,g1⟩:=P.Jc.get h1.1 h1.2;obtain ⟨x2,VN,rfl,h2,r2⟩:=DR r1;obtain ⟨a2,rfl,g2⟩:=P.Qt.get h2.1 h2.2;obtain rfl:VN=[]:=r2;exact P.VK a0 a1 a2 g0 g1 g2
theorem VO (H:Type) (enc:TypeId × Value→H) (W:World) (base:Nat) (args:Array Value) (ds gs:List (DataW H)) (before:List MemPlace)
  (bD:∀ (j:Nat) t v,Tryz.f6.params[j]? = some t→args[j]? = some v→Value.okWide Tryz.prog W .any base t v)
  (hW:DataW.Whole enc Tryz.prog Tryz.f6.params.toList Rows.evidenceDamageSpec.vars false W args.toList ds gs before) (hL:laidMetH Tryz.prog Rows.evidenceDamageRow.laid W) :
  Calls Tryz.prog 6 args W fun e W'=>∃ v,e = .returned v∧Rows.evidenceDamageSpec.post enc Tryz.prog Tryz.f6 false true false false W args v W' :=
 Q2 (tb:=4) bD hW (Q6 (laid:=Rows.evidenceDamageRow.laid) hL (by first | exact .head _ | exact .tail _ (.head _))) (by kernel_rfl) (Q5 (by kernel_rfl)) rfl rfl (by kernel_rfl)
  (fun ds hd=>by
   have hd:ds.length=3:=hd
   match ds,hd with
   | [_,_,_],_=>exact ⟨rfl,rfl,rfl⟩) VM
noncomputable abbrev lw (os:Os):World:=World.laidAll Tryz.prog os Rows.evidenceDamageRow.laid
theorem VP (os:Os):laidMet Tryz.prog Rows.evidenceDamageRow.laid ((lw os).forCall (fun _ _=>0) ⟨#[],#[.agg #[.slice none 0 0,.slice none 0 0,.string ⟨#[]⟩,.int .i64 0,.int .i64 0,.slice none 0 0,.slice none 0 0,.int .i64 0,.int .i64 0,.slice none 0 0,.slice none 0 0,.slice none 0 0],.agg #[.int .i64 0,.int .i64 0,.string ⟨#[]⟩,.slice none 0 0],.int .u8 0],[]⟩).memory :=
 laidMet_laidAll _ (by kernel_rfl) (by kernel_rfl)
theorem reads (os:Os) {H:Type} (enc:TypeId × Value→H):∃ places,DataW.whole enc Tryz.prog ((lw os).forCall (fun _ _=>0) ⟨#[],#[.agg #[.slice none 0 0,.slice none 0 0,.string ⟨#[]⟩,.int .i64 0,.int .i64 0,.slice none 0 0,.slice none 0 0,.int .i64 0,.int .i64 0,.slice none 0 0,.slice none 0 0,.slice none 0 0],.agg #[.int .i64 0,.int .i64 0,.string ⟨#[]⟩,.slice none 0 0],.int .u8 0],[]⟩).memory Tryz.f6.params.toList Rows.evidenceDamageSpec.vars false (#[.agg #[.slice none 0 0,.slice none 0 0,.string ⟨#[]⟩,.int .i64 0,.int .i64 0,.slice none 0 0,.slice none 0 0,.int .i64 0,.int .i64 0,.slice none 0 0,.slice none 0 0,.slice none 0 0],.agg #[.int .i64 0,.int .i64 0,.string ⟨#[]⟩,.slice none 0 0],.int .u8 0]:Array Value).toList 8=some ([.agg [.agg [.nil,.nil,.agg [.lit (.string []),.lit (.int .i64 0),.lit (.int .i64 0),.nil],.nil,.lit (.int .i64 0),.lit (.int .i64 0)],.nil,.nil,.nil],.agg [.lit (.int .i64 0),.lit (.int .i64 0),.agg [.lit (.string []),.nil]],.lit (.int .u8 0)],[],places) :=
 ⟨[],by kernel_rfl⟩
theorem lifted (os:Os) (started:os.Started) (H:Type) (enc:TypeId × Value→H) (F:Stop.Interp) :
  ReturnsInHanded {} Tryz.checked os 6 .any ((OpenSpec.ofChange Rows.evidenceDamageSpec).preRow enc Tryz.prog Tryz.f6 Rows.evidenceDamageRow.domain false Rows.evidenceDamageRow.laid) (((OpenSpec.ofChange Rows.evidenceDamageSpec).at F).post enc Tryz.prog Tryz.f6 false true false false):=by
 obtain ⟨places,hx⟩:=reads os enc;refine returnsInHanded_of_row (C:=Tryz.checked) (s:=OpenSpec.ofChange Rows.evidenceDamageSpec) Tryz.own started (by kernel_rfl) Tryz.func6
  (witness_row_at (enc:=enc) (C:=Tryz.checked) false (lw os) #[.agg #[.slice none 0 0,.slice none 0 0,.string ⟨#[]⟩,.int .i64 0,.int .i64 0,.slice none 0 0,.slice none 0 0,.int .i64 0,.int .i64 0,.slice none 0 0,.slice none 0 0,.slice none 0 0],.agg #[.int .i64 0,.int .i64 0,.string ⟨#[]⟩,.slice none 0 0],.int .u8 0] (World.laidAll_os _ _ _) (by kernel_rfl) (by kernel_rfl) (by kernel_rfl)
   (OpenSpec.preRow_of_cond 8 hx (by kernel_rfl) (fun k hk=>by cases hk) (by kernel_rfl) (VP os))) ?_
 intro W base args ds gs before bD hW _ _ _ hL _ _;exact VO H enc W base args ds gs before bD hW hL
theorem VQ {a b:Bool} (h:a=true) (k:b=true):(a&&b)=true:=by rw [h,k]; rfl
theorem j0:laidOutB Tryz.pinned.checked.prog=true:=by kernel_rfl
theorem j1:mapsRowed Tryz.pinned.checked.prog=true:=by kernel_rfl
theorem j2:(Rows.evidenceDamageRow.inPlace==Tryz.pinned.checked.prog.inPlace 6)=true:=by kernel_rfl
theorem j3:(Rows.evidenceDamageRow.unfollowed==Tryz.pinned.checked.prog.unfollowed 6)=true:=by kernel_rfl
theorem j4:(Rows.evidenceDamageRow.recurses==Tryz.pinned.checked.prog.recurses 6)=true:=by kernel_rfl
theorem j5:(Rows.evidenceDamageRow.named==Tryz.pinned.checked.prog.varsNamed 6)=true:=by kernel_rfl
theorem j6:(Rows.evidenceDamageRow.plainKeys==Tryz.pinned.checked.prog.plainKeys)=true:=by kernel_rfl
theorem j7:Tryz.pinned.checked.prog.stopsHeard=true:=by kernel_rfl
theorem j8:Tryz.pinned.checked.prog.mayEnter=true:=by kernel_rfl
theorem j9:(Rows.evidenceDamageRow.lifted==Tryz.pinned.checked.prog.liftsFinal)=true:=by kernel_rfl
theorem VT:(Tryz.pinned.checked.prog.make==some Rows.evidenceDamageRow.make)=true:=by kernel_rfl
theorem VU:joinedFacts Tryz.pinned.checked.prog 6 Tryz.f6 (OpenSpec.ofChange Rows.evidenceDamageSpec).bare Rows.evidenceDamageRow=true:=by
 unfold joinedFacts;repeat' with_reducible refine VQ ?_ ?_
 all_goals first | with_reducible exact j0 | with_reducible exact j1 | with_reducible exact j2 | with_reducible exact j3 | with_reducible exact j4 | with_reducible exact j5 | with_reducible exact j6 | with_reducible exact j7 | with_reducible exact j8 | with_reducible exact j9 | with_reducible exact VT | kernel_rfl
theorem said:Rows.EvidenceDamageSaid :=
 OpenClaim.holds_of_cond 6 Tryz.f6 rfl rfl rfl rfl rfl rfl rfl ⟨rfl,rfl,rfl,rfl,rfl⟩ rfl rfl rfl rfl rfl (by kernel_rfl) Tryz.func6 VU
  (of_decide_eq_true (by kernel_rfl)) (by unfold Func.isWrapper; first | (rw [if_pos (by decide +kernel)]; kernel_rfl) | (rw [if_neg (by decide +kernel)]; exact ⟨rfl,rfl⟩))
  (fun os started H enc _ F=>by rw [OpenClaim.pre_eq_preRow]; exact lifted os started H enc F)
theorem plain (f : FuncId) (fn : Func) (hf : Tryz.pinned.checked.prog.funcNamed "nameplan/nameplanlaw43.EvidenceDamage" = some f) (Bj : Tryz.pinned.checked.prog.funcs[f]? = some fn) :
  false=Tryz.pinned.checked.prog.looks []∧∀ (j:Nat) t,fn.params[j]? = some t→Tryz.pinned.checked.prog.wantsStandIn t=false:=by
 obtain rfl : f = 6 := Option.some.inj ((show Tryz.prog.funcNamed "nameplan/nameplanlaw43.EvidenceDamage" = some 6 by kernel_rfl).symm.trans hf) |>.symm;obtain rfl : fn = Tryz.f6 := (Option.some.inj (Tryz.func6.symm.trans Bj)).symm;refine ⟨by kernel_rfl, fun j t ht => ?_⟩;have aH : (Tryz.f6.params.toList.all fun t => !Tryz.prog.wantsStandIn t) = true := by kernel_rfl
 have:=List.all_eq_true.1 aH t (by have:=Array.mem_of_getElem? ht; simpa using this);have:Tryz.prog.wantsStandIn t=false:=by simpa using this
 exact this
theorem hw:Rows.evidenceDamageRow.wfByText (OpenSpec.ofChange Rows.evidenceDamageSpec)=true:=by kernel_rfl
theorem hm:Tryz.pinned.checked.prog.mainIs=some (Rows.evidenceDamageCard.stood.harness.1,Rows.evidenceDamageCard.stood.harness.2.toList):=by kernel_rfl
theorem rz:false=Rows.evidenceDamageRow.goesBy Tryz.pinned.checked.prog:=by kernel_rfl
theorem VV:Rows.EvidenceDamageCardSaid :=
 Claim7.holds_tied_plain_at .later [] _ _ _ _ said (fun _ h=>by cases h) hw (fun _ h=>by cases h) evidenceDamage_row_tie rfl ⟨rfl,rfl⟩ hm rfl plain rz
end Go.Proofs.YtfmdaiojokniiaaGreatDoor.evidenceDamage
namespace Go.Proofs.YtfmdaiojokniiaaGreatDoor
theorem evidenceDamage_card:Rows.EvidenceDamageCardSaid:=evidenceDamage.VV
end Go.Proofs.YtfmdaiojokniiaaGreatDoor
