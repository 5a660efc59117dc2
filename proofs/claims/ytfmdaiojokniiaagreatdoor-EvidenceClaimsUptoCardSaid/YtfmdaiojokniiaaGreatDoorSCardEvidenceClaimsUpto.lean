/- EvidenceClaims: for every input the law returns true, and each argument reads as before; the card ties the table that it reads to the program's text. Conditions: none beyond the row's own. The second form: arguments of small bulk. -/
import Derived.Test.YtfmdaiojokniiaaGreatDoorS28
import Derived.Test.YtfmdaiojokniiaaGreatDoorCards
import Derived.Test.YtfmdaiojokniiaaGreatDoorTie
import Derived.Lay
set_option linter.unusedVariables false
set_option linter.unusedSimpArgs false
namespace Go.Proofs.YtfmdaiojokniiaaGreatDoor.evidenceClaims
open Go Go.aA Go.ChangeShapes Go.WideShapes Go.ChangeAt Go.RowKit
set_option maxRecDepth 100000
theorem acW(xs:List DV)(h:vv E Tryz.f7.params.toList xs)(hb:∀ (j t i off e:Nat) (c l:List DV),Tryz.f7.params.toList[j]?=some t->D' Tryz.prog t i=some (off,e)->xs[j]?=some (.agg c)->c[off]?=some (.sl l)->l.length<=1048576):ar E 7 xs (· = .bool true):=by
 have h:vv E [34,63,3] xs:=h;obtain⟨x0,xs0,rfl,h0,r0⟩:=G3 h;obtain⟨a0,rfl,g0⟩:=P.Vd.get h0.1 h0.2;obtain⟨x1,xs1,rfl,h1,r1⟩:=G3 r0;obtain⟨a1,rfl,g1⟩:=P.Mt.get h1.1 h1.2;obtain⟨x2,xs2,rfl,h2,r2⟩:=G3 r1;obtain⟨a2,rfl,g2⟩:=P.fA.get h2.1 h2.2;obtain rfl:xs2=[]:=r2;exact P.acN a0 a1 a2 g0 g1 g2 (by have:=hb 0 34 2 10 63 _ _ rfl (by kernel_rfl) rfl rfl;simpa using this)
theorem acY(H:Type)(enc:TypeId × Value->H)(W:World)(base:Nat)(args:Array Value)(ds gs:List (DataW H))(before:List MemPlace)
  (bG:∀ (j:Nat) t v,Tryz.f7.params[j]?=some t->args[j]?=some v->Value.okWide Tryz.prog W .any base t v)
  (hW:DataW.Whole enc Tryz.prog Tryz.f7.params.toList Rows.evidenceClaimsSpec.vars false W args.toList ds gs before) (hL:laidMetH Tryz.prog Rows.evidenceClaimsUptoRow.laid W) (hk:Rows.uptoSmall H (ds++gs)=true) :
  Calls Tryz.prog 7 args W fun e W'=>∃ v,e=.returned v/\Rows.evidenceClaimsSpec.post enc Tryz.prog Tryz.f7 false true false false W args v W' :=
 acR hk (tb:=4) bG hW (Vn (laid:=Rows.evidenceClaimsUptoRow.laid) hL (by first|exact .head _|exact .tail _ (.head _))) (by kernel_rfl) (Vm (by kernel_rfl)) rfl rfl (by kernel_rfl)
  (fun ds hd=>by
   have hd:ds.length=3:=hd
   match ds,hd with
   |[_,_,_],_=>exact⟨rfl,rfl,rfl⟩) acW
noncomputable abbrev lw (os:Os):World:=World.laidAll Tryz.prog os Rows.evidenceClaimsUptoRow.laid
theorem acZ(os:Os):laidMet Tryz.prog Rows.evidenceClaimsUptoRow.laid ((lw os).forCall (fun _ _=>0) ⟨#[],#[.agg #[.slice none 0 0,.slice none 0 0,.string ⟨#[]⟩,.int .i64 0,.int .i64 0,.slice none 0 0,.slice none 0 0,.int .i64 0,.int .i64 0,.slice none 0 0,.slice none 0 0,.slice none 0 0],.agg #[.int .i64 0,.int .i64 0,.string ⟨#[]⟩,.slice none 0 0],.int .i64 0],[]⟩).memory :=
 laidMet_laidAll _ (by kernel_rfl) (by kernel_rfl)
theorem reads(os:Os){H:Type}(enc:TypeId × Value->H):∃ places,DataW.whole enc Tryz.prog ((lw os).forCall (fun _ _=>0) ⟨#[],#[.agg #[.slice none 0 0,.slice none 0 0,.string ⟨#[]⟩,.int .i64 0,.int .i64 0,.slice none 0 0,.slice none 0 0,.int .i64 0,.int .i64 0,.slice none 0 0,.slice none 0 0,.slice none 0 0],.agg #[.int .i64 0,.int .i64 0,.string ⟨#[]⟩,.slice none 0 0],.int .i64 0],[]⟩).memory Tryz.f7.params.toList Rows.evidenceClaimsSpec.vars false (#[.agg #[.slice none 0 0,.slice none 0 0,.string ⟨#[]⟩,.int .i64 0,.int .i64 0,.slice none 0 0,.slice none 0 0,.int .i64 0,.int .i64 0,.slice none 0 0,.slice none 0 0,.slice none 0 0],.agg #[.int .i64 0,.int .i64 0,.string ⟨#[]⟩,.slice none 0 0],.int .i64 0]:Array Value).toList 8=some ([.agg [.agg [.nil,.nil,.agg [.lit (.string []),.lit (.int .i64 0),.lit (.int .i64 0),.nil],.nil,.lit (.int .i64 0),.lit (.int .i64 0)],.nil,.nil,.nil],.agg [.lit (.int .i64 0),.lit (.int .i64 0),.agg [.lit (.string []),.nil]],.lit (.int .i64 0)],[],places) :=
 ⟨[],by kernel_rfl⟩
theorem lifted(os:Os)(started:os.Started)(H:Type)(enc:TypeId × Value->H)(F:Stop.Interp) :
  ReturnsInHanded {} Tryz.checked os 7 .any ((Rows.OpenSpec.upto Rows.evidenceClaimsSpec).preRow enc Tryz.prog Tryz.f7 Rows.evidenceClaimsUptoRow.domain false Rows.evidenceClaimsUptoRow.laid) (((Rows.OpenSpec.upto Rows.evidenceClaimsSpec).at F).post enc Tryz.prog Tryz.f7 false true false false):=by
 obtain⟨places,hx⟩:=reads os enc;refine returnsInHanded_of_row (C:=Tryz.checked) (s:=Rows.OpenSpec.upto Rows.evidenceClaimsSpec) Tryz.own started (by kernel_rfl) Tryz.func7
  (witness_row_at (enc:=enc) (C:=Tryz.checked) false (lw os) #[.agg #[.slice none 0 0,.slice none 0 0,.string ⟨#[]⟩,.int .i64 0,.int .i64 0,.slice none 0 0,.slice none 0 0,.int .i64 0,.int .i64 0,.slice none 0 0,.slice none 0 0,.slice none 0 0],.agg #[.int .i64 0,.int .i64 0,.string ⟨#[]⟩,.slice none 0 0],.int .i64 0] (World.laidAll_os _ _ _) (by kernel_rfl) (by kernel_rfl) (by kernel_rfl)
   (OpenSpec.preRow_of_cond 8 hx (by kernel_rfl) (fun k hk=>by cases hk;kernel_rfl) (by kernel_rfl) (acZ os))) ?_
 intro W base args ds gs before bG hW _ hk _ hL _ _;exact acY H enc W base args ds gs before bG hW hL (hk _ rfl)
theorem ac0{a b:Bool}(h:a=true)(k:b=true):(a&&b)=true:=by rw[h,k];rfl
theorem j0:laidOutB Tryz.pinned.checked.prog=true:=by kernel_rfl
theorem j1:mapsRowed Tryz.pinned.checked.prog=true:=by kernel_rfl
theorem j2:(Rows.evidenceClaimsUptoRow.inPlace==Tryz.pinned.checked.prog.inPlace 7)=true:=by kernel_rfl
theorem j3:(Rows.evidenceClaimsUptoRow.unfollowed==Tryz.pinned.checked.prog.unfollowed 7)=true:=by kernel_rfl
theorem j4:(Rows.evidenceClaimsUptoRow.recurses==Tryz.pinned.checked.prog.recurses 7)=true:=by kernel_rfl
theorem j5:(Rows.evidenceClaimsUptoRow.named==Tryz.pinned.checked.prog.varsNamed 7)=true:=by kernel_rfl
theorem j6:(Rows.evidenceClaimsUptoRow.plainKeys==Tryz.pinned.checked.prog.plainKeys)=true:=by kernel_rfl
theorem j7:Tryz.pinned.checked.prog.stopsHeard=true:=by kernel_rfl
theorem j8:Tryz.pinned.checked.prog.mayEnter=true:=by kernel_rfl
theorem j9:(Rows.evidenceClaimsUptoRow.lifted==Tryz.pinned.checked.prog.liftsFinal)=true:=by kernel_rfl
theorem j10:(Tryz.pinned.checked.prog.make==some Rows.evidenceClaimsUptoRow.make)=true:=by kernel_rfl
theorem ac2:joinedFacts Tryz.pinned.checked.prog 7 Tryz.f7 (Rows.OpenSpec.upto Rows.evidenceClaimsSpec).bare Rows.evidenceClaimsUptoRow=true:=by
 unfold joinedFacts;repeat' with_reducible refine ac0 ?_ ?_
 all_goals first|with_reducible(first|exact j0|exact j1|exact j2|exact j3|exact j4|exact j5|exact j6|exact j7|exact j8|exact j9|exact j10)|kernel_rfl
theorem said:Rows.EvidenceClaimsUptoSaid :=
 OpenClaim.holds_of_cond 7 Tryz.f7 rfl rfl rfl rfl rfl rfl rfl ⟨rfl,rfl,rfl,rfl,rfl⟩ rfl rfl rfl rfl rfl (by kernel_rfl) Tryz.func7 ac2
  (of_decide_eq_true (by kernel_rfl)) (by unfold Func.isWrapper;first|(rw[if_pos (by decide +kernel)];kernel_rfl)|(rw[if_neg (by decide +kernel)];exact⟨rfl,rfl⟩))
  (fun os started H enc _ F=>by rw[OpenClaim.pre_eq_preRow];exact lifted os started H enc F)
theorem plain (f : FuncId) (fn : Func) (hf : Tryz.pinned.checked.prog.funcNamed "nameplan/nameplanlaw43.EvidenceClaims" = some f) (EJ : Tryz.pinned.checked.prog.funcs[f]? = some fn) :
  false=Tryz.pinned.checked.prog.looks []/\∀ (j:Nat) t,fn.params[j]?=some t->Tryz.pinned.checked.prog.wantsStandIn t=false:=by
 obtain rfl : f = 7 := Option.some.inj ((show Tryz.prog.funcNamed "nameplan/nameplanlaw43.EvidenceClaims" = some 7 by kernel_rfl).symm.trans hf) |>.symm;obtain rfl : fn = Tryz.f7 := (Option.some.inj (Tryz.func7.symm.trans EJ)).symm;refine ⟨by kernel_rfl, fun j t ht => ?_⟩;have aL : (Tryz.f7.params.toList.all fun t => !Tryz.prog.wantsStandIn t) = true := by kernel_rfl
 have:=List.all_eq_true.1 aL t (by have:=Array.mem_of_getElem? ht;simpa using this);have:Tryz.prog.wantsStandIn t=false:=by simpa using this
 exact this
theorem hw:Rows.evidenceClaimsUptoRow.wfByText (Rows.OpenSpec.upto Rows.evidenceClaimsSpec)=true:=by kernel_rfl
theorem hm:Tryz.pinned.checked.prog.mainIs=some (Rows.evidenceClaimsUptoCard.stood.harness.1,Rows.evidenceClaimsUptoCard.stood.harness.2.toList):=by kernel_rfl
theorem uF:false=Rows.evidenceClaimsUptoRow.goesBy Tryz.pinned.checked.prog:=by kernel_rfl
theorem ac3:Rows.EvidenceClaimsUptoCardSaid :=
 Claim7.holds_tied_plain_at .later [] _ _ _ _ said (fun _ h=>by cases h) hw (fun _ h=>by cases h) evidenceClaimsUpto_row_tie rfl ⟨rfl,rfl⟩ hm rfl plain uF
end Go.Proofs.YtfmdaiojokniiaaGreatDoor.evidenceClaims
namespace Go.Proofs.YtfmdaiojokniiaaGreatDoor
theorem evidenceClaimsUpto_card:Rows.EvidenceClaimsUptoCardSaid:=evidenceClaims.ac3
end Go.Proofs.YtfmdaiojokniiaaGreatDoor
