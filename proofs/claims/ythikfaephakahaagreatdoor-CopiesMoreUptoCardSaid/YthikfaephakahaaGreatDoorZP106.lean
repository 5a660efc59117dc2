/- The laws of package copies: small functions, and the examples. Conditions: lengths that Go allows. -/
import Derived.Test.YthikfaephakahaaGreatDoorZP104
import Derived.Test.YthikfaephakahaaGreatDoorZP108
import Derived.Test.YthikfaephakahaaGreatDoorZP105
set_option linter.unusedVariables false
set_option linter.unusedSimpArgs false
namespace Go.Proofs.YthikfaephakahaaGreatDoor.P
open Go Go.Eng
set_option maxRecDepth 100000
set_option maxHeartbeats 4000000
theorem fewVer_of {l:List Version} {polls:List Poll} (hg:∀ v∈l,v.Good) (h:fewVer l polls=true):VersFit l∧l.length≤12∧polls.length≤60:=by
 simp only [fewVer,Bool.and_eq_true,decide_eq_true_eq] at h;obtain ⟨h1,h2,h3⟩:=h;rw [List.take_of_length_le (by omega)] at h1;have hz:=fun v hv=>fewZ_of (hg v hv).2 (List.all_eq_true.1 h1 v hv);exact ⟨⟨by omega,fun v hv=>(hz v hv).1,fun v hv=>(hz v hv).2.2⟩,h2,h3⟩
theorem PCalls.nilAt {f:FuncId} {args:List DV} {R:DV→Prop} (i:Nat) (hi:args[i]? = some (.sl [])) (H:PCalls E f args R):PCalls E f (args.set i .nilsl) R:=by
 unfold PCalls at H ⊢;refine ⟨H.1,fun bar w vs h1 h2 h3=>H.2 bar w vs h1 h2 ⟨by have:=h3.1; simpa using this,fun j x v hx hv=>?_⟩⟩;by_cases e:i=j
 ·subst e;rw [hi] at hx;cases hx;have:=h3.2 i .nilsl v (List.getElem?_set_self (List.getElem?_eq_some_iff.1 hi).1) hv;cases this;exact .slnil
 ·exact h3.2 j x v (by rw [List.getElem?_set_ne e]; exact hx) hv
def useC (l:List Version) (pr:Int) (polls:List Poll) (fin:Int):Bool:=(fewVer l polls&&((endB fin&&rightB l fin)&&hostN pr))&&polls.all (pollOK fin)
structure UseC (l:List Version) (pr:Int) (polls:List Poll) (fin:Int):Prop where
 fits:VersFit l
 few:l.length≤12
 some:polls.length≤60
 fin1:1≤fin
 fin2:fin≤10000000
 right:rightB l fin=true
 ver:VerR l fin
 host0:0≤pr
 host1:pr<64
 polls:∀ p∈polls,pollOK fin p=true
theorem useC_of {l:List Version} {pr:Int} {polls:List Poll} {fin:Int} (hg:∀ v∈l,v.Good) (h:useC l pr polls fin=true):UseC l pr polls fin:=by
 simp only [useC,Bool.and_eq_true] at h;obtain ⟨⟨h1,⟨h2,h3⟩,h4⟩,h5⟩:=h;obtain ⟨f1,f2,f3⟩:=fewVer_of hg h1;simp only [endB,hostN,Bool.and_eq_true,decide_eq_true_eq] at h2 h4;exact ⟨f1,f2,f3,h2.1,h2.2,h3,right_of h3,h4.1,h4.2,fun p hp=>List.all_eq_true.1 h5 p hp⟩
theorem UseC.n {l:List Version} {pr:Int} {polls:List Poll} {fin:Int} (U:UseC l pr polls fin):spreadN l pr polls fin=0:=by
 unfold spreadN;have e1:endB fin=true:=by simp [endB,U.fin1,U.fin2]
 have e2:hostN pr=true:=by simp [hostN,U.host0,U.host1]
 have e3:pollsB polls fin=true:=by
  simp only [pollsB,Bool.and_eq_true,decide_eq_true_eq];exact ⟨by have:=U.some; omega,List.all_eq_true.2 U.polls⟩
 rw [e1,U.right,e2,e3];simp only [Bool.and_self,if_true];rw [if_neg];have h1:=spread_len (l:=l) (pr:=pr) (polls:=polls) (fin:=fin) 64;have h2:=U.few;show ¬ 4000<(spreadTo l pr polls fin 64).length;omega
theorem UseC.r {l:List Version} {pr:Int} {polls:List Poll} {fin:Int} (U:UseC l pr polls fin):spreadR l pr polls fin=spreadC l pr polls fin:=by
 rw [spreadR,if_pos U.n]
theorem UseC.len {l:List Version} {pr:Int} {polls:List Poll} {fin:Int} (U:UseC l pr polls fin):(spreadC l pr polls fin).length≤768:=by
 have h1:=spread_len (l:=l) (pr:=pr) (polls:=polls) (fin:=fin) 64;have h2:=U.few;show (spreadTo l pr polls fin 64).length≤768;omega
theorem zoneA_mem {l:List Version} {n:Int} (h0:0≤n) (h1:n<l.length):∃ v∈l,zoneA l n=v.zone:=by
 obtain ⟨v,hv⟩:=some_of_lt2 (l:=l) (k:=n.toNat) (by omega);refine ⟨v,List.mem_of_getElem? hv,?_⟩;have:=zoneA_at hv
 rwa [Int.toNat_of_nonneg h0] at this
theorem UseC.zones {l:List Version} {pr:Int} {polls:List Poll} {fin:Int} (U:UseC l pr polls fin):∀ c∈spreadC l pr polls fin,∃ v∈l,c.zone=v.zone:=fun c hc=>by
 obtain ⟨_,_,s,hs,e⟩:=spread_mem.1 hc;obtain ⟨_,_,_,r4,r5⟩:=str_range (times_in U.ver.times U.polls) hs;obtain ⟨v,hv,e2⟩:=zoneA_mem r4 r5;exact ⟨v,hv,by rw [e]; exact e2⟩
theorem UseC.lag {l:List Version} {pr:Int} {polls:List Poll} {fin h:Int} (U:UseC l pr polls fin) (h0:0≤h) (h1:h<64):lagV l (spreadC l pr polls fin) h fin=(lagL l (strC l (timesL l pr polls h) fin) fin,0):=by
 have e1:endB fin=true:=by simp [endB,U.fin1,U.fin2]
 have e2:hostN h=true:=by simp [hostN,h0,h1]
 rw [lagV,e1,U.right,e2];simp only [Bool.and_self,if_true];refine lag_host U.ver.nodup (times_in U.ver.times U.polls) ?_;have:=spread_filter (l:=l) (pr:=pr) (polls:=polls) (fin:=fin) 64 h0
 rwa [if_pos (by omega)] at this
theorem usable15_p (l:List Version) (pr:Int) (polls:List Poll) (fin:Int) (hg:∀ v∈l,v.Good):PCalls E 22 [.sl (l.map Version.enc),.int .i64 pr,.sl (polls.map Poll.enc),.int .i64 fin] (· = .bool (useC l pr polls fin)):=by
 have c1:=rfew15_p l polls;unfold useC;refine eP Tryz.func22 ?_
 with_reducible refine callP_eq (c1) ?_
 refine gO Tryz.func22 ?_;cases h1:fewVer l polls
 ·repeat' (first | with_reducible refine cY ?_ | with_reducible refine cN ?_ | with_reducible refine caseB_split (fun _=>?_) (fun _=>?_) | refine gA Tryz.func22 ?_ | refine gB ?_ | refine gC ?_ | with_reducible rfl)
  rfl
 obtain ⟨f1,f2,f3⟩:=fewVer_of hg h1;refine caseB_false ?_;refine gO Tryz.func22 ?_
 with_reducible refine callP_eq (rright_p l fin f1) ?_
 refine gO Tryz.func22 ?_;cases h2:(endB fin&&rightB l fin)
 ·repeat' (first | with_reducible refine cY ?_ | with_reducible refine cN ?_ | with_reducible refine caseB_split (fun _=>?_) (fun _=>?_) | refine gA Tryz.func22 ?_ | refine gB ?_ | refine gC ?_ | with_reducible rfl)
  rfl
 refine caseB_false ?_;refine gO Tryz.func22 ?_
 with_reducible refine callP_eq (rhost_p pr) ?_
 refine gO Tryz.func22 ?_;cases h3:hostN pr
 ·repeat' (first | with_reducible refine cY ?_ | with_reducible refine cN ?_ | with_reducible refine caseB_split (fun _=>?_) (fun _=>?_) | refine gA Tryz.func22 ?_ | refine gB ?_ | refine gC ?_ | with_reducible rfl)
  rfl
 rw [Bool.true_and,Bool.true_and,Bool.true_and];refine caseB_false ?_;refine gO Tryz.func22 ?_;refine AWL.loop (κ:=Nat) ([8,10]++rg 28 20) (fun k=>[(28,.d (.int .i64 k))]) (fun _=>[]) (fun k=>k≤polls.length∧(polls.take k).all (pollOK fin)=true) (fun k=>polls.length - k) 0 ⟨Nat.zero_le _,rfl⟩ ?_ ?_
 ·(conv=>whnf);repeat (first | exact trivial | (refine sI ?_; conv=>whnf))
 rintro k ⟨hk,hall⟩ IH;refine AWL.head E_ok Tryz.func22 2000 ?_;(conv=>whnf);refine caseB_split (fun h5=>?_) (fun h5=>?_)
 ·have hlt:k<polls.length:=by simpa using h5
  obtain ⟨p,hp⟩:=some_of_lt hlt;have c2:=rhost_p p.host;have hno:pollOK fin p=false→polls.all (pollOK fin)=false:=fun e=>all_no hp e;refine gO Tryz.func22 ?_;refine elemP_at (e:=p.enc) (at_map hp) rfl ?_;refine gO Tryz.func22 ?_
  with_reducible refine callP_eq (c2) ?_
  refine gO Tryz.func22 ?_;cases q1:hostN p.host
  ·refine caseB_true ?_;refine gO Tryz.func22 ?_;refine caseB_true ?_;refine gO Tryz.func22 ?_;refine caseB_true ?_;refine gO Tryz.func22 ?_;rw [hno (by simp [pollOK,q1])]
  refine caseB_false ?_;refine gO Tryz.func22 ?_;refine caseB_split (fun q2=>?_) (fun q2=>?_)
  ·refine gO Tryz.func22 ?_;refine caseB_true ?_;refine gO Tryz.func22 ?_;have:=of_decide_eq_true q2;rw [hno (by simp [pollOK]; omega)]
  refine gO Tryz.func22 ?_;refine caseB_split (fun q3=>?_) (fun q3=>?_)
  ·refine gO Tryz.func22 ?_;have:=of_decide_eq_true q3;rw [hno (by simp [pollOK]; omega)]
  refine gO Tryz.func22 ?_;have:=of_decide_eq_false q2;have:=of_decide_eq_false q3;refine AWL.back (IH (k+1) ⟨by omega,all_next hall hp (by simp [pollOK,q1]; omega)⟩ (by omega)) ?_;(conv=>whnf);repeat (first | exact trivial | (refine sI ?_; conv=>whnf))
 ·have hge:polls.length≤k:=by simpa using h5
  rw [List.take_of_length_le hge] at hall;rw [hall];refine gO Tryz.func22 ?_
  with_reducible rfl
theorem atGo_next {l:List Version} {h t k:Int} {c:List Copy} {j:Nat} {x:Copy} (hx:c[j]? = some x):atGo l h t k (c.drop j)=if covB h t x then (if k ≠ -1∨verI l x.zone<0 then -2 else atGo l h t (verI l x.zone) (c.drop (j+1))) else atGo l h t k (c.drop (j+1)):=by
 obtain ⟨h1,h2⟩:=List.getElem?_eq_some_iff.1 hx;rw [List.drop_eq_getElem_cons h1,h2,atGo]
theorem at15_p (l:List Version) (c:List Copy) (h t:Int) (hf:VersFit l) (hl:c.length≤1000000):PCalls E 25 [.sl (l.map Version.enc),.sl (c.map Copy.enc),.int .i64 h,.int .i64 t] (· = .int .i64 (atV l c h t)):=by
 unfold atV;refine eP Tryz.func25 ?_;refine AWL.loop (κ:=Nat × Int) [8,9,11,12,15,16,17,18,19,20,21,22,23,24,25,26,27,28,29,30,31,32,33,34,35,36,37,38,39,40,41,42,43,44,45,46] (fun k=>[(15,.d (.int .i64 k.1)),(9,.d (.int .i64 k.2))]) (fun _=>[]) (fun k=>k.1≤c.length∧atGo l h t (-1) c=atGo l h t k.2 (c.drop k.1)) (fun k=>c.length - k.1) (0,-1) ⟨Nat.zero_le _,rfl⟩ ?_ ?_
 ·(conv=>whnf);repeat (first | exact trivial | (refine sI ?_; conv=>whnf))
 rintro ⟨k,v⟩ ⟨hk,hv⟩ IH;simp only at hk hv;refine AWL.head E_ok Tryz.func25 2000 ?_;(conv=>whnf);refine caseB_split (fun h5=>?_) (fun h5=>?_)
 ·have hlt:k<c.length:=by simpa using h5
  obtain ⟨x,hx⟩:=some_of_lt hlt;have hnx:=atGo_next (l:=l) (h:=h) (t:=t) (k:=v) hx;have c1:=rversion_p l x.zone hf;have skip:covB h t x=false→atGo l h t (-1) c=atGo l h t v (c.drop (k+1)):=fun e=>by rw [hv,hnx,e]; rfl
  refine gO Tryz.func25 ?_;refine elemP_at (e:=x.enc) (at_map hx) rfl ?_;refine gO Tryz.func25 ?_;refine caseB_split (fun q1=>?_) (fun q1=>?_)
  case refine_2 =>
   have:=of_decide_eq_false q1;refine gO Tryz.func25 ?_;refine caseB_false ?_;refine gO Tryz.func25 ?_;refine caseB_false ?_;refine gO Tryz.func25 ?_;refine AWL.back (IH (k+1,v) ⟨by simp only; omega,skip (by simp [covB,this])⟩ (by simp only; omega)) ?_;(conv=>whnf);repeat (first | exact trivial | (refine sI ?_; conv=>whnf))
  refine gO Tryz.func25 ?_;refine caseB_split (fun q2=>?_) (fun q2=>?_)
  case refine_2 =>
   have:=of_decide_eq_false q2;refine gO Tryz.func25 ?_;refine caseB_false ?_;refine gO Tryz.func25 ?_;refine AWL.back (IH (k+1,v) ⟨by simp only; omega,skip (by simp [covB]; omega)⟩ (by simp only; omega)) ?_;(conv=>whnf);repeat (first | exact trivial | (refine sI ?_; conv=>whnf))
  refine gO Tryz.func25 ?_;refine caseB_split (fun q3=>?_) (fun q3=>?_)
  case refine_2 =>
   have:=of_decide_eq_false q3;refine gO Tryz.func25 ?_;refine AWL.back (IH (k+1,v) ⟨by simp only; omega,skip (by simp [covB]; omega)⟩ (by simp only; omega)) ?_;(conv=>whnf);repeat (first | exact trivial | (refine sI ?_; conv=>whnf))
  have e1:=of_decide_eq_true q1;have e2:=of_decide_eq_true q2;have e3:=of_decide_eq_true q3;have hcov:covB h t x=true:=by simp [covB,e1,e2,e3]
  rw [hcov,if_pos rfl,← hv] at hnx;refine gO Tryz.func25 ?_
  with_reducible refine callP_eq (c1) ?_
  refine gO Tryz.func25 ?_;refine caseB_split (fun q4=>?_) (fun q4=>?_)
  ·have q5:v ≠ -1:=by simpa using q4
   rw [if_pos (.inl q5)] at hnx;refine gO Tryz.func25 ?_;refine caseB_true ?_;refine gO Tryz.func25 ?_;rw [hnx]
  ·have q5:v = -1:=by simpa using q4
   refine gO Tryz.func25 ?_;refine caseB_split (fun q6=>?_) (fun q6=>?_)
   ·have q7:=of_decide_eq_true q6;rw [if_pos (.inr q7)] at hnx;refine gO Tryz.func25 ?_;rw [hnx]
   ·have q7:=of_decide_eq_false q6;rw [if_neg (by omega)] at hnx;refine gO Tryz.func25 ?_;refine AWL.back (IH (k+1,verI l x.zone) ⟨by simp only; omega,hnx⟩ (by simp only; omega)) ?_;(conv=>whnf);repeat (first | exact trivial | (refine sI ?_; conv=>whnf))
 ·have hge:c.length≤k:=by simpa using h5
  rw [List.drop_of_length_le hge,atGo] at hv;rw [hv];refine gO Tryz.func25 ?_
  with_reducible rfl
def verX (at_ n:Int):Version:=⟨at_,⟨[120],[⟨⟨[120],2,60,[⟨[97,46,110,115],0,0⟩]⟩,[]⟩,⟨⟨[120],4,60,[⟨[],n,9⟩]⟩,[]⟩]⟩⟩
theorem version151_p (k:Int) (t:Text) (x y:Int):PCalls E 102 [.int .i64 k,.agg [.str t,.int .i64 x,.int .i64 y]] (· = Signed.enc ⟨⟨[120],k,60,[⟨t,x,y⟩]⟩,[]⟩):=by
 refine PCalls.nrm ?_;refine eP Tryz.func102 ?_;rfl
theorem version15_p (a n:Int):PCalls E 47 [.int .i64 a,.int .i64 n] (· = (verX a n).enc):=by
 refine PCalls.nrm ?_;refine eP Tryz.func47 ?_;refine callP_eq (version151_p 2 [97,46,110,115] 0 0) ?_;refine gO Tryz.func47 ?_;refine callP_eq (version151_p 4 [] n 9) ?_;refine gO Tryz.func47 ?_;rfl
def exL:List Version:=[verX 10 1,verX 50 2]
def exP:List Poll:=[⟨1,70,false⟩,⟨1,5,false⟩,⟨1,20,false⟩,⟨1,55,true⟩]
def exC:List Copy:=[⟨0,10,50,(verX 10 1).zone⟩,⟨0,50,100,(verX 50 2).zone⟩,⟨1,20,70,(verX 10 1).zone⟩,⟨1,70,100,(verX 50 2).zone⟩]
theorem exC1:spreadN exL 0 exP 100=0:=by decide +kernel
theorem exC2:spreadR exL 0 exP 100=exC:=by decide +kernel
theorem exC3:lagV exL exC 0 100=(0,0):=by
 rw [lagV,← lagM_any (m:=[⟨0,10,50,(verX 10 1).zone⟩,⟨0,50,100,(verX 50 2).zone⟩]) (List.Perm.of_eq (by decide +kernel)) (by decide +kernel)];decide +kernel
theorem exC4:lagV exL exC 1 100=(20,0):=by
 rw [lagV,← lagM_any (m:=[⟨1,20,70,(verX 10 1).zone⟩,⟨1,70,100,(verX 50 2).zone⟩]) (List.Perm.of_eq (by decide +kernel)) (by decide +kernel)];decide +kernel
theorem verX_fits (a n:Int):(verX a n).zone.Fits:=by
 refine ⟨maxLen_big (by simp [verX]),fun s hs=>?_⟩;simp only [verX,List.mem_cons,List.not_mem_nil,or_false] at hs;rcases hs with rfl | rfl
 ·refine ⟨maxLen_big (by simp),by simp,fun d hd=>?_⟩;simp at hd; subst hd; exact maxLen_big (by simp)
 ·refine ⟨maxLen_big (by simp),by simp,fun d hd=>?_⟩;simp at hd; subst hd; exact maxLen_big (by simp)
theorem verX_lens (a n:Int):(verX a n).zone.Lens:=by
 refine ⟨by simp [verX],fun s hs=>?_⟩;simp only [verX,List.mem_cons,List.not_mem_nil,or_false] at hs;rcases hs with rfl | rfl <;> exact ⟨by simp,by simp⟩
theorem verX_all {l:List Version} (hl:l.length≤1000000) (h:∀ v∈l,∃ a n,v=verX a n):VersFit l :=
 ⟨hl,fun v hv=>by obtain ⟨a,n,rfl⟩:=h v hv; exact verX_fits a n,fun v hv=>by obtain ⟨a,n,rfl⟩:=h v hv; exact verX_lens a n⟩
theorem exC5:lagV exL exC 2 100=(90,0):=by decide +kernel
theorem exC6:spreadN [verX 50 2,verX 10 1] 0 [] 100=1:=by decide +kernel
theorem exC8:spreadR [verX 50 2,verX 10 1] 0 [] 100=[]:=by decide +kernel
theorem exC7:lagV exL [⟨1,0,5,(verX 0 3).zone⟩] 1 100=(0,4):=by decide +kernel
theorem head15_p:PCalls E 15 [] (· = .bool true):=by
 have f1:VersFit exL:=verX_all (by decide) (fun v hv=>by simp [exL] at hv; rcases hv with rfl | rfl <;> exact ⟨_,_,rfl⟩);have f2:VersFit [verX 50 2,verX 10 1]:=verX_all (by decide) (fun v hv=>by simp at hv; rcases hv with rfl | rfl <;> exact ⟨_,_,rfl⟩);have c1:=spread_p exL 0 100 exP f1 (by decide);rw [exC1,exC2] at c1;have c2:=lag15_p exL exC 0 100 f1 (by decide);rw [exC3] at c2;have c3:=lag15_p exL exC 1 100 f1 (by decide);rw [exC4] at c3;have c4:=lag15_p exL exC 2 100 f1 (by decide);rw [exC5] at c4;have c5:=PCalls.nilAt 2 rfl (spread_p [verX 50 2,verX 10 1] 0 100 [] f2 (by decide));rw [exC6,exC8] at c5;have c6:=lag15_p exL [⟨1,0,5,(verX 0 3).zone⟩] 1 100 f1 (by decide);rw [exC7] at c6
 have c7:=rsameCopies_p exC exC (by decide) (fun x hx=>by
  simp only [exC,List.mem_cons,List.not_mem_nil,or_false] at hx;rcases hx with rfl | rfl | rfl | rfl
  ·exact verX_lens 10 1
  ·exact verX_lens 50 2
  ·exact verX_lens 10 1
  ·exact verX_lens 50 2)
 rw [decide_eq_true rfl] at c7;have A0:At1 (exL.map Version.enc) 0 (verX 10 1).enc:=at_map (f:=Version.enc) (l:=exL) (k:=0) rfl;have A1:At1 (exL.map Version.enc) 1 (verX 50 2).enc:=at_map (f:=Version.enc) (l:=exL) (k:=1) rfl;refine eP Tryz.func15 ?_;refine callP_eq (version15_p 10 1) ?_;refine gO Tryz.func15 ?_;refine callP_eq (version15_p 50 2) ?_;refine gO Tryz.func15 ?_;refine callP_eq (c1) ?_;refine gO Tryz.func15 ?_;refine AWL.draw E_ok E_mixed 22 2000 (by kernel_rfl) ?_;(conv=>whnf);refine elemP_at (e:=(verX 10 1).enc) A0 rfl ?_;refine gD ?_;refine elemP_at (e:=(verX 50 2).enc) A1 rfl ?_;refine gD ?_;refine elemP_at (e:=(verX 10 1).enc) A0 rfl ?_;refine gD ?_;refine elemP_at (e:=(verX 50 2).enc) A1 rfl ?_;refine gD ?_;refine gS ?_;refine gO Tryz.func15 ?_;refine callP_eq (c2) ?_;refine gO Tryz.func15 ?_;refine callP_eq (c3) ?_;refine gO Tryz.func15 ?_;refine callP_eq (c4) ?_;refine gO Tryz.func15 ?_;refine AWL.draw E_ok E_mixed 13 2000 (by kernel_rfl) ?_;(conv=>whnf);refine elemP_at (e:=(verX 50 2).enc) A1 rfl ?_;refine gD ?_;refine elemP_at (e:=(verX 10 1).enc) A0 rfl ?_;refine gD ?_;refine callP1_eq (c5) ?_;refine gD ?_;refine gS ?_;refine gO Tryz.func15 ?_;refine callP_eq (version15_p 0 3) ?_;refine gO Tryz.func15 ?_;refine callP_eq (c6) ?_;refine gO Tryz.func15 ?_;refine caseB_yes (by decide) ?_;refine gO Tryz.func15 ?_;refine caseB_yes (by decide) ?_;refine gO Tryz.func15 ?_;refine caseB_yes (by decide) ?_;refine gO Tryz.func15 ?_;refine caseB_yes (by decide) ?_;refine gO Tryz.func15 ?_;refine caseB_yes (by decide) ?_;refine gO Tryz.func15 ?_;refine caseB_yes (by decide) ?_;refine gO Tryz.func15 ?_;refine callP_eq (c7) ?_;refine gO Tryz.func15 ?_;repeat' (first | with_reducible refine cY ?_ | with_reducible refine cN ?_ | with_reducible refine caseB_split (fun _=>?_) (fun _=>?_) | refine gA Tryz.func15 ?_ | refine gB ?_ | refine gC ?_ | with_reducible rfl)
 rfl
end Go.Proofs.YthikfaephakahaaGreatDoor.P
