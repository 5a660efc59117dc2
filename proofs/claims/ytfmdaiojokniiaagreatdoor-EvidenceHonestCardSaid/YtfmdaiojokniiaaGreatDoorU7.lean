/- Lemmas of mine. Conditions: as stated. -/
import Derived.Test.YtfmdaiojokniiaaGreatDoorU5
import Derived.Test.YtfmdaiojokniiaaGreatDoorU6
import Derived.Lib.Bytealg
set_option linter.unusedVariables false
set_option linter.unusedSimpArgs false
section
namespace Go.ay
open Go Go.RowKit
section
variable {E:Env} {ag:FuncId} {R:cF} {s:List AV} {h:List af} {ops:Array Oper} {o:Oper} {l:List Oper} {k:List aP}
end
end Go.ay
namespace Go.ay
open Go Go.RowKit
theorem I.uR{E:Env}{ag:FuncId}{R:cF}{td:List aP}{s:List AV}{h:List af}{lits:List Nat}{rows:List bk}(hp:R.rows.Perm rows)(H:I E ag ⟨R.n,R.Q,rows,R.fx⟩ lits td s h):I E ag R lits td s h:=by
 replace H:=H.to;refine .of ?_;unfold AW at H ⊢;intro c0 c t ts h0 h1 h2 h3 hr bq h4 h5 cs;refine H c0 c t ts h0 h1 h2 h3 hr ⟨⟨fun g hg=>bq.all.each g ?_,?_⟩,fun g hg=>bq.flat g (hp.mem_iff.2 hg)⟩ h4 h5 cs
 ·exact((hp.append_right R.fx.loops).mem_iff).2 hg
 ·exact(((hp.append_right R.fx.loops).flatMap_right bk.cj).nodup_iff).1 bq.all.nodup
theorem aS{G:List (Nat × DV)}{s:List AV}{i:Nat}{v:AV}(h:s[i]?=some v):aZ G s (.tmp i) v:=fun c a _ hs=>by
 have hl:i<a.tmps.size:=by rw[<- hs.1];exact aQ h
 have:a.eval (.tmp i)=a.tmps[i]:=by simp[Act.eval,hl]
 rw[this];exact hs.2 i v _ h (by simp[hl])
end Go.ay
end
section
namespace Go.Proofs.YtfmdaiojokniiaaGreatDoor.P
open Go Go.ay Go.RowKit
set_option maxRecDepth 100000
set_option maxHeartbeats 4000000
theorem F8(t:Text):aq E 255 [.str t] (· = .bool (Nm.label t)):=by
 have hl:¬ (1<=t.length/\t.length<=12)->Nm.label t=false:=fun h=>by simp[Nm.label];intro h1 h2;exact absurd ⟨h1,h2⟩ h
 by_cases F':1<=t.length/\t.length<=12
 ·obtain⟨c,hc⟩:=aG (l:=t) (k:=0) (by omega);obtain⟨d,hd⟩:=aG (l:=t) (k:=t.length-1) (by omega);have hw:IntKind.i64.wrap ((t.length:Int)-1)=((t.length-1:Nat):Int):=by rw[wrap64 (by omega) (by omega)];omega
  refine eP F255 ?_;refine aW (by simp;omega) ?_;refine gO F255 ?_;refine aW (by simp;omega) ?_;refine gO F255 ?_;refine kD c (by omega) hc ?_;refine gO F255 ?_;refine ai (fun h1=>?_) (fun h1=>?_)
  ·refine gO F255 ?_;refine bj ?_;refine gO F255 ?_;rw[Cd (k:=0) (by omega) (by rw[Ce hc];simp at h1;omega)]
  refine gO F255 ?_;refine kD d (by omega) (by rw[hw];exact hd) ?_;refine gO F255 ?_;refine ai (fun h2=>?_) (fun h2=>?_)
  ·refine gO F255 ?_;rw[Cd (k:=t.length-1) (by omega) (by rw[Ce hd];simp at h2;omega)]
  refine gO F255 ?_;refine I.loop (κ:=Nat) ([2,3,4]++rg 28 25) (fun k=>[(28,.d (.int .i64 k))]) (fun _=>[]) (fun k=>k<=t.length/\∀ i,i<k->Nm.pH t i=true) (fun k=>t.length-k) 0 ⟨Nat.zero_le _,by omega⟩ ?_ ?_
  ·exact sZ
  rintro k ⟨hk,aJ⟩ IH;refine I.head ab F255 2000 ?_;(conv=>whnf);refine ai (fun h5=>?_) (fun h5=>?_)
  ·have ah:k<t.length:=by simpa using h5
   obtain⟨e,he⟩:=aG ah;have sQ:=Ce he;have h0:e.toNat=45->0<k/\k+1<t.length:=fun h=>by
    simp at h1 h2;constructor
    ·refine Nat.pos_of_ne_zero fun h3=>?_;subst h3;rw[hc]at he;cases he;omega
    ·refine Nat.lt_of_not_le fun h3=>?_;obtain rfl:k=t.length-1:=by omega
     rw[hd]at he;cases he;omega
   have back:Nm.pH t k=true->_:=fun e=>IH (k+1) ⟨ah,fun i hi=>(Nat.lt_succ_iff_lt_or_eq.1 hi).elim (aJ i) (fun h=>h ▸ e)⟩ (by omega);refine gO F255 ?_;refine kD e (by omega) (by rw[Int.toNat_natCast];exact he) ?_;repeat' (first|with_reducible(first|refine cY ?_|refine cN ?_|refine ai (fun _=>?_) (fun _=>?_))|refine gA F255 ?_|refine gB ?_|with_reducible rfl)
   all_goals try (refine I.run ab F255 2000 ?_;conv=>whnf)
   all_goals simp only[decide_eq_true_eq,decide_eq_false_iff_not,beq_iff_eq,beq_eq_false_iff_ne,bne_iff_ne,bne_eq_false_iff_eq]at *
   all_goals first
    |(rw[Cd ah (by rw[sQ];omega)];done)
    |(refine I.back (back (by rw[sQ];omega)) ?_;exact FO)
  ·have aA:k=t.length:=by have:=of_decide_eq_false h5;omega
   subst aA;refine gO F255 ?_;simp only[Nm.label];rw[decide_eq_true ⟨F'.1,F'.2,aJ⟩]
 ·rw[hl F'];refine eP F255 ?_;refine ai (fun h1=>?_) (fun h1=>?_)
  ·repeat' (first|with_reducible(first|refine cY ?_|refine cN ?_|refine ai (fun _=>?_) (fun _=>?_))|refine gA F255 ?_|refine gB ?_|with_reducible rfl)
  ·refine I.run ab F255 2000 ?_;(conv=>whnf);refine aU (by simp at h1 ⊢;omega) ?_;repeat' (first|with_reducible(first|refine cY ?_|refine cN ?_|refine ai (fun _=>?_) (fun _=>?_))|refine gA F255 ?_|refine gB ?_|with_reducible rfl)
def ob(t:Text):Nat->Int
 |0 => -1
 |k+1=>if t[k]?=some 46 then k else ob t k
theorem KZ(t:Text):∀ k,k<=t.length->(ob t k = -1/\46 ∉ t.take k)\/∃ m:Nat,ob t k=m/\m<k/\t.take k=t.take m++46::(t.take k).drop (m+1)/\46 ∉ (t.take k).drop (m+1)
 |0,_ => .inl ⟨rfl,by simp⟩
 |k+1,hk=>by
  obtain⟨c,hc⟩:=aG (l:=t) (k:=k) (by omega);have ht:=cK hc;have hl:(t.take k).length=k:=by simp;omega
  rw[ob,hc];by_cases h:c=46
  ·subst h;refine .inr ⟨k,by simp,by omega,?_,?_⟩
   ·rw[ht,List.drop_of_length_le (by simp;omega)]
   ·rw[List.drop_of_length_le (by simp;omega)];simp
  ·rw[if_neg (by simpa using h),ht];rcases KZ t k (by omega)with⟨h1,h2⟩|⟨m,h1,h2,h3,h4⟩
   ·exact .inl ⟨h1,by simp[h2];exact fun e=>h e.symm⟩
   ·have e:(t.take k++[c]).drop (m+1)=(t.take k).drop (m+1)++[c]:=by rw[List.drop_append_of_le_length (by omega)]
    refine .inr ⟨m,h1,by omega,?_,?_⟩
    ·rw[e];conv=>lhs;rw[h3];simp
    ·rw[e];simp[h4];exact fun e=>h e.symm
theorem SM(t:Text):(ob t t.length = -1/\Nm.split t=[t])\/∃ m:Nat,ob t t.length=m/\m<t.length/\Nm.split t=Nm.split (t.take m)++[t.drop (m+1)]:=by
 rcases KZ t t.length (Nat.le_refl _)with⟨h1,h2⟩|⟨m,h1,h2,h3,h4⟩
 ·rw[List.take_length]at h2;exact .inl ⟨h1,Nm.B7 t h2⟩
 ·rw[List.take_length]at h3 h4;exact .inr ⟨m,h1,h2,by conv=>lhs;rw[h3,Nm.B6,Nm.B7 _ h4]⟩
theorem SN(t:Text)(ht:t.length<=maxLen):aq E 334 [.str t,.int .u8 46] (· = .int .i64 (ob t t.length)):=by
 unfold maxLen at ht;have hw:IntKind.i64.wrap ((t.length:Int)-1)=(t.length:Int)-1:=wrap64 (by omega) (by omega);refine eP F334 ?_;refine I.loop (κ:=Nat) ([4,5]++rg 9 10) (fun k=>[(5,.d (.int .i64 ((k:Int)-1)))]) (fun _=>[]) (fun k=>k<=t.length/\ob t t.length=ob t k) (fun k=>k) t.length ⟨Nat.le_refl _,rfl⟩ ?_ ?_
 ·exact sZ
 rintro k ⟨hk,hd⟩ IH;refine I.head ab F334 2000 ?_;(conv=>whnf);refine ai (fun h5=>?_) (fun h5=>?_)
 ·obtain⟨k,rfl⟩:∃ j,k=j+1:=⟨k-1,by have:=of_decide_eq_true h5;omega⟩;obtain⟨c,hc⟩:=aG (l:=t) (k:=k) (by omega);rw[ob,hc]at hd;refine gO F334 ?_;refine kD c (by omega) (by rw[show(((k+1:Nat):Int)-1).toNat=k by omega];exact hc) ?_;refine gO F334 ?_;by_cases h:c=46
  ·subst h;refine aU (by decide) ?_;refine gO F334 ?_;rw[hd,if_pos rfl,show(((k+1:Nat):Int)-1)=(k:Int) by omega]
  ·rw[if_neg (by simpa using h)]at hd;refine aW (beq_eq_false_iff_ne.2 fun e=>h (UInt8.toNat_inj.1 (Int.ofNat.inj e))) ?_;refine gO F334 ?_;refine I.back (IH k ⟨by omega,hd⟩ (by omega)) ?_;exact sZ
 ·have aA:k=0:=by have:=of_decide_eq_false h5;omega
  subst aA;refine gO F334 ?_;rw[hd];rfl
theorem Cl(t:Text)(ht:t.length<=maxLen):aq E 287 [.str t,.int .u8 46] (· = .int .i64 (ob t t.length)):=by
 have c1:=SN t ht;refine eP Tryz.func287 ?_;refine ao (c1) ?_;refine gO Tryz.func287 ?_
 with_reducible rfl
def uS:Bool->List Text->Prop
 |false,S=>∀ y∈S,Nm.label y=true
 |true,S=>∃ R,S=[42]::R/\∀ y∈R,Nm.label y=true
theorem SO{P S:List Text}{x:Text}{w:Bool}(hS:uS w S)(h:w=true\/8<S.length+1\/(x≠[42]/\Nm.label x=false)):Nm.parts (P++x::S)=false:=by
 rw[<- Bool.not_eq_true,qP];rintro⟨h1,h2⟩;rcases h with rfl|h|⟨h3,h4⟩
 ·obtain⟨R,rfl,-⟩:=hS;have:=h2 (P.length+1) [42] (by simp);simp[gF]at this;exact absurd this (by decide)
 ·simp at h1;omega
 ·have:=h2 P.length x (by simp);simp[gF,h3,h4]at this
theorem SP{S:List Text}{x:Text}(hS:uS false S)(h:S.length+1<=8)(hx:x=[42]\/Nm.label x=true):Nm.parts (x::S)=true:=by
 simp only[Nm.parts,Bool.and_eq_true,decide_eq_true_eq,List.all_eq_true,Bool.or_eq_true,beq_iff_eq];exact⟨h,hx.symm,hS⟩
theorem SQ{S:List Text}{x:Text}{w:Bool}(hS:uS false S)(hw:w=(x==[42]))(hx:x=[42]\/Nm.label x=true):uS w (x::S):=by
 subst hw;cases h:x==[42]
 ·exact List.forall_mem_cons.2 ⟨hx.resolve_left (by simpa using h),hS⟩
 ·exact⟨S,by simpa using h,hS⟩
theorem Cm(t:Text):∃ (i:Int) (x:Text) (P:List Text),ob t t.length=i /\ -1<=i/\i<t.length/\t.drop (i+1).toNat=x/\Nm.split t=P++[x]/\(i<0->P=[])/\(0<=i->P=Nm.split (t.take i.toNat)):=by
 rcases SM t with⟨h1,h2⟩|⟨m,h1,h2,h3⟩
 ·exact⟨-1,t,[],h1,by omega,by omega,rfl,h2,fun _=>rfl,fun h=>by omega⟩
 ·exact⟨m,_,_,h1,by omega,by omega,rfl,by rw[show((m:Int)+1).toNat=m+1 by omega];exact h3,fun h=>by omega,fun _=>rfl⟩
theorem uT(t:Text)(ht:t.length<=maxLen):aq E 177 [.str t] (· = .bool (Nm.valid t)):=by
 refine eP F177 ?_;refine ai (fun h1=>?_) (fun h1=>?_)
 ·obtain rfl:t=[46]:=by simpa using h1
  refine gO F177 ?_;rfl
 have h1:t≠[46]:=by simpa using h1
 refine gO F177 ?_;refine ai (fun h2=>?_) (fun h2=>?_)
 ·refine gO F177 ?_;simp at h2;simp[Nm.valid,h1];omega
 have h2:t.length<=60:=by simp at h2;omega
 have hv:Nm.valid t=Nm.parts (Nm.split t):=by simp[Nm.valid,h1,h2]
 refine gO F177 ?_;refine I.rangeFunc (aS rfl) Tryz.func233 rfl (by decide) rfl (fun ll d tt=>?_);refine gO F233 ?_;refine aW (by simpa using h1) ?_;refine gO F233 ?_;refine I.loop (κ:=Text × Bool × List Text) [4,5,9,10,11,12,13,14,15,16,17,18,19,20,21,22,23,24] (fun x=>[(4,.d (.str x.1))]) (fun x=>[(1,.cells [.d (.int .i64 x.2.2.length)]),(2,.cells [.d (.bool x.2.1)])]) (fun x=>x.1.length<=60/\Nm.split t=Nm.split x.1++x.2.2/\x.2.2.length<=8/\uS x.2.1 x.2.2) (fun x=>x.1.length) (t,false,[]) ⟨h2,by simp,by simp,by simp[uS]⟩ ?_ ?_
 ·(conv=>whnf);repeat (first|exact trivial|(refine sI ?_;conv=>whnf))
  refine And.intro rfl ?_;exact sZ
 rintro⟨rest,w,S⟩ ⟨k1,k2,k3,k4⟩ IH;simp only at k1 k2 k3 k4;obtain⟨i,x,P,e1,e2,e3,e4,e5,e6,e7⟩:=Cm rest;have c1:=Cl rest (by unfold maxLen;omega);have hw:IntKind.i64.wrap (i+1)=i+1:=wrap64 (by omega) (by omega);have e8:Nm.split t=P++x::S:=by rw[k2,e5];simp
 have bad:=fun h=>SO (P:=P) (x:=x) k4 h;rw[<- e8,<- hv]at bad;rw[e1]at c1;refine I.head ab F233 2000 ?_;(conv=>whnf);refine ao (c1) ?_;refine gO F233 ?_;refine aV ⟨by rw[hw];simp;omega,by rw[hw];simp;omega,by simp⟩ ?_;refine gO F233 ?_;rw[hw];simp only[Option.getD_none,Option.getD_some,Int.toNat_natCast,List.take_length,e4];refine I.yield 0 rfl rfl rfl (aS rfl) (ml (aS rfl)) rfl ?_;(conv=>whnf);refine gO F177 ?_;refine I.begin 0 rfl rfl rfl ?_;(conv=>whnf);refine gO F177 ?_;have hn:IntKind.i64.wrap ((S.length:Int)+1)=(S.length:Int)+1:=wrap64 (by omega) (by omega);repeat' (first|with_reducible(first|refine ao (F8 x) ?_|refine au (F8 x) ?_|refine cY ?_|refine cN ?_|refine ai (fun _=>?_) (fun _=>?_))|refine gA F177 ?_|refine gB ?_|with_reducible rfl)
 all_goals try (refine I.run ab F177 2000 ?_;conv=>whnf)
 all_goals rw[hn]at *
 all_goals try
  refine I.Ci 0 rfl rfl rfl ?_;(conv=>whnf);refine gO F233 ?_;refine aU (by decide) ?_;refine gO F233 ?_;refine bj ?_;refine gO F233 ?_;refine I.kN ab F233 rfl rfl rfl rfl (fun e=>nomatch e) ?_;(conv=>whnf);refine gO F177 ?_;refine I.mo ab F177 rfl rfl rfl rfl rfl ?_;rw[bad (by simp_all;try omega)];rfl
 all_goals
  have hx:x=[42]\/Nm.label x=true:=by simp_all
  have h8:S.length+1<=8:=by simp_all;try omega
  have hS:uS false S:=by simp_all
  refine I.pM 0 rfl rfl rfl ?_;(conv=>whnf);refine gO F233 ?_;refine aW (by decide) ?_;refine gO F233 ?_;refine ai (fun h5=>?_) (fun h5=>?_)
  ·refine gO F233 ?_;refine I.kN ab F233 rfl rfl rfl rfl (fun e=>nomatch e) ?_;(conv=>whnf);refine gO F177 ?_;refine I.mo ab F177 rfl rfl rfl rfl rfl ?_;rw[hv,e8,e6 (by simpa using h5),List.nil_append,SP hS h8 hx];rfl
  ·have h5:0<=i:=by simpa using h5
   refine gO F233 ?_;refine aV ⟨by simp,by simp;omega,by simp;omega⟩ ?_;refine gO F233 ?_;simp only[Option.getD_none,Option.getD_some,Int.toNat_zero,List.drop_zero];refine I.back (IH (rest.take i.toNat,x==[42],x::S) ⟨by simp;omega,by simp only;rw[e8,e7 h5],h8,SQ hS rfl hx⟩ (by simp;omega)) ?_;(conv=>whnf);repeat (first|exact trivial|(refine sI ?_;conv=>whnf))
   refine And.intro (by simp) ?_;exact sZ
theorem Nm.K0(l:List UInt8)(h:Nm.valid l=true):1<=l.length:=by
 cases l with
 |nil=>exfalso;revert h;decide
 |cons c r=>simp
theorem Nm.SS(a z:List UInt8):Nm.split z <:+ Nm.split (a++46::z):=⟨Nm.split a,(Nm.B6 a z).symm⟩
theorem Nm.SU(p q:List (List UInt8))(hp:p≠[])(hq:q≠[]):Nm.glue (p++q)=Nm.glue p++46::Nm.glue q:=by
 induction p with
 |nil=>exact absurd rfl hp
 |cons x t ih =>
  cases t with
  |nil =>
   cases q with
   |nil=>exact absurd rfl hq
   |cons y u=>rfl
  |cons y u =>
   have:=ih (by simp);simp only[List.cons_append,Nm.glue]at this ⊢;rw[this];simp
theorem Nm.zM(s z:List UInt8)(hs:s≠[46])(hz:z≠[46]):Nm.under s z=true↔s=z\/∃ a,s=a++46::z:=by
 simp only[Nm.under,decide_eq_true_eq,Nm.labels,hs,hz,if_false];constructor
 ·rintro⟨p,hp⟩;cases p with
  |nil=>left;exact(Nm.KB _ _ hp).symm
  |cons x t =>
   right;refine⟨Nm.glue (x::t),?_⟩;rw[<- Nm.uG s,<- hp,Nm.SU _ _ (by simp) (Nm.n' z),Nm.uG]
 ·rintro(rfl|⟨a,rfl⟩)
  ·exact List.suffix_refl _
  ·exact Nm.SS a z
theorem Nm.SV(s z:List UInt8)(hs:Nm.valid s=true)(hz:Nm.valid z=true)(h1:s≠z)(h2:z≠[46]) :
  Nm.under s z=true↔z.length<s.length/\z <:+ s/\s[s.length-z.length-1]?=some 46:=by
 by_cases hr:s=[46]
 ·subst hr;have gr:=Nm.K0 z hz;constructor
  ·intro h;simp only[Nm.under,decide_eq_true_eq,Nm.labels,h2,if_false,if_true]at h;exact absurd (List.eq_nil_of_suffix_nil h) (Nm.n' z)
  ·rintro⟨h,_⟩;exfalso;simp only[List.length_singleton]at h;omega
 ·rw[Nm.zM s z hr h2];constructor
  ·rintro(h|⟨a,rfl⟩)
   ·exact absurd h h1
   ·refine⟨by simp;omega,⟨a++[46],by simp⟩,?_⟩;rw[show(a++46::z).length-z.length-1=a.length by simp;omega];simp
  ·rintro⟨h,⟨p,rfl⟩,h3⟩;right;have hp:p≠[]:=by rintro rfl;simp at h
   rw[show(p++z).length-z.length-1=p.length-1 by simp,List.getElem?_append_left (by have:=List.length_pos_iff.2 hp;omega)]at h3;refine⟨p.dropLast,?_⟩;have e:p.getLast hp=46:=by
    rw[List.getLast_eq_getElem];exact(List.getElem?_eq_some_iff.1 h3).2
   conv=>lhs;rw[<- List.dropLast_concat_getLast hp,e]
   simp
theorem Nm.SX(s z:List UInt8)(h:s=z\/z=[46]):Nm.under s z=true:=by
 simp only[Nm.under,decide_eq_true_eq];rcases h with rfl|rfl
 ·exact List.suffix_refl _
 ·simp[Nm.labels]
theorem gG(t:Text)(ht:t.length<=maxLen):aq E 104 [.str t] (· = .bool (Nm.valid t)):=by
 have c1:=uT t ht;refine eP Tryz.func104 ?_;refine ao (c1) ?_;refine gO Tryz.func104 ?_
 with_reducible rfl
def zN(a b:Text):Bool:=decide (b <:+ a)
theorem SY(a b:Text)(ha:a.length<=maxLen)(hb:b.length<=maxLen):aq E 259 [.str a,.str b] (· = .bool (zN a b)):=by
 unfold maxLen at ha hb;have hw:IntKind.i64.wrap ((a.length:Int)-b.length)=(a.length:Int)-b.length:=wrap64 (by omega) (by omega);unfold zN;refine eP Tryz.func259 ?_;refine ai (fun h=>?_) (fun h=>?_)
 ·have h:=of_decide_eq_true h;refine gO Tryz.func259 ?_;rw[hw];refine aV ⟨by simp;omega,by simp;omega,by simp⟩ ?_;refine gO Tryz.func259 ?_;refine congrArg DV.bool ?_;rw[Bool.eq_iff_iff,beq_iff_eq,decide_eq_true_eq,List.suffix_iff_eq_drop];simp only[Option.getD_some,Option.getD_none,Int.toNat_natCast,List.take_length,show((a.length:Int)-b.length).toNat=a.length-b.length by omega];exact eq_comm
 ·have h:=of_decide_eq_false h;refine gO Tryz.func259 ?_;rw[decide_eq_false];exact fun e=>by have:=e.length_le;omega
theorem SZ(a b:Text)(ha:a.length<=maxLen)(hb:b.length<=maxLen):aq E 180 [.str a,.str b] (· = .bool (zN a b)):=by
 have c1:=SY a b ha hb;refine eP Tryz.func180 ?_;refine ao (c1) ?_;refine gO Tryz.func180 ?_
 with_reducible rfl
theorem uU(t z:Text)(ht:t.length<=maxLen)(hz:z.length<=maxLen):aq E 107 [.str t,.str z] (· = .aD [.bool (Nm.mn t z),.int .i64 (if Nm.valid t&&Nm.valid z then 0 else 11)]):=by
 unfold Nm.mn;have c1:=uT t ht;have c2:=uT z hz;have c3:=SZ t z ht hz;cases h1:Nm.valid t
 ·rw[h1]at c1;refine eP F107 ?_;repeat' (first|with_reducible(first|refine ao (c1) ?_|refine au (c1) ?_|refine ao (c2) ?_|refine au (c2) ?_|refine cY ?_|refine cN ?_|refine ai (fun _=>?_) (fun _=>?_))|refine gA F107 ?_|refine gB ?_|with_reducible rfl)
  rfl
 cases h2:Nm.valid z
 ·rw[h1]at c1;rw[h2]at c2;refine eP F107 ?_;repeat' (first|with_reducible(first|refine ao (c1) ?_|refine au (c1) ?_|refine ao (c2) ?_|refine au (c2) ?_|refine cY ?_|refine cN ?_|refine ai (fun _=>?_) (fun _=>?_))|refine gA F107 ?_|refine gB ?_|with_reducible rfl)
  rfl
 have hu:=Nm.SV t z h1 h2;have S0:=Nm.SX t z;have l1:=dO h1;have l2:=dO h2;rw[h1]at c1;rw[h2]at c2;refine eP F107 ?_;repeat' (first|with_reducible(first|refine ao (c1) ?_|refine au (c1) ?_|refine ao (c2) ?_|refine au (c2) ?_|refine ao (c3) ?_|refine au (c3) ?_|refine cY ?_|refine cN ?_|refine ai (fun _=>?_) (fun _=>?_))|refine gA F107 ?_|refine gB ?_|with_reducible rfl)
 all_goals try
  rename_i e1 e2 e3 e4;have h5:t≠z:=by simpa using e1
  have h6:z≠[46]:=by simpa using e2
  have h7:z.length<t.length:=by simp at e3;omega
  have h8:z <:+ t:=by simpa [zN]using e4
  obtain⟨c,hc⟩:=aG (l:=t) (k:=t.length-z.length-1) (by omega);refine kD c (by rw[wrap64 (n:=(t.length:Int)-z.length) (by omega) (by omega),wrap64 (by omega) (by omega)];omega) (by rw[wrap64 (n:=(t.length:Int)-z.length) (by omega) (by omega),wrap64 (by omega) (by omega),show((t.length:Int)-z.length-1).toNat=t.length-z.length-1 by omega];exact hc) ?_;refine gO F107 ?_;have e:((c.toNat:Int)==46)=Nm.under t z:=by
   rw[Bool.eq_iff_iff,hu h5 h6,hc,beq_iff_eq];exact⟨fun h=>⟨h7,h8,congrArg some (UInt8.toNat_inj.1 (Int.ofNat.inj h))⟩,fun h=>by cases h.2.2;rfl⟩
  rw[e];rfl
 all_goals
  refine congrArg (fun b=>DV.aD [.bool b,.int .i64 0]) ?_;symm;first
   |(exact S0 (by simp_all))
   |(refine Bool.eq_false_iff.2 fun e=>?_;have:=(hu (by simp_all) (by simp_all)).1 e;simp_all[zN];try omega)
theorem S1{t:Text}(h:Nm.valid t=true):(Nm.labels t).length<=8:=by
 unfold Nm.labels;split
 ·simp
 ·rename_i hr;simp only[Nm.valid,hr,decide_false,Bool.false_or,Bool.and_eq_true,Nm.parts,decide_eq_true_eq]at h;exact h.2.1
theorem S2{α:Type}{m:Nat}{a b:α}{L:List α}:(List.replicate (m+1) a++L).set m b=List.replicate m a++b::L:=by
 rw[List.replicate_succ',List.append_assoc,List.set_append_right _ _ (by simp)];simp
theorem S3{a b:Text}(h:Nm.labels a=Nm.labels b):a=b:=by
 unfold Nm.labels at h;split at h<;>split at h
 ·simp_all
 ·exact absurd h.symm (Nm.n' _)
 ·exact absurd h (Nm.n' _)
 ·exact Nm.KB _ _ h
def zO(t:Text):DV:=if Nm.valid t then .aD [.sl ((Nm.labels t).map .str),.int .i64 0]else .aD [.aH,.int .i64 11]
theorem Ga(t:Text)(ht:t.length<=maxLen):aq E 154 [.str t] (· = zO t):=by
 have c1:=uT t ht;unfold zO;cases h1:Nm.valid t
 ·rw[h1]at c1;refine eP F154 ?_;repeat' (first|with_reducible(first|refine ao (c1) ?_|refine au (c1) ?_|refine cY ?_|refine cN ?_|refine ai (fun _=>?_) (fun _=>?_))|refine gA F154 ?_|refine gB ?_|with_reducible rfl)
  rfl
 rw[h1]at c1;have l1:=dO h1;have l2:=S1 h1;rw[if_pos rfl];refine eP F154 ?_;refine ao (c1) ?_;refine gO F154 ?_;refine aR ?_;refine gO F154 ?_;refine aV (by decide) ?_;refine gO F154 ?_;refine I.rangeFunc (aS rfl) Tryz.func233 rfl (by decide) rfl (fun ll d tt=>?_);refine gO F233 ?_;refine ai (fun h3=>?_) (fun h3=>?_)
 ·obtain rfl:t=[46]:=by simpa using h3
  refine gO F233 ?_;refine I.kN ab F233 rfl rfl rfl rfl (fun e=>nomatch e) ?_;(conv=>whnf);refine I.freeze 0 ?_;refine gO F154 ?_;refine I.slice3 (n:=8) ab rfl rfl rfl rfl rfl (aS rfl) (aS rfl) (aS rfl) (aS rfl) (by decide) (by decide) ?_;refine gO F154 ?_;refine I.mo ab F154 rfl rfl rfl rfl rfl ?_;rfl
 have hr:t≠[46]:=by simpa using h3
 have sS:Nm.labels t=Nm.split t:=by simp[Nm.labels,hr]
 rw[sS]at l2 ⊢;refine gO F233 ?_;refine I.loop (κ:=Text × List Text) [4,5,9,10,11,12,13,14,15,16,17,18,19,20,21,22,23,24] (fun x=>[(4,.d (.str x.1))]) (fun x=>[(0,.arr 0 (9,1) (List.replicate (8-x.2.length) (DV.str [])++x.2.map .str)),(2,.cells [.d (.int .i64 ((8:Int)-x.2.length))])]) (fun x=>x.1.length<=60/\Nm.split t=Nm.split x.1++x.2) (fun x=>x.1.length) (t,[]) ⟨l1,by simp⟩ ?_ ?_
 ·(conv=>whnf);repeat (first|exact trivial|(refine sI ?_;conv=>whnf))
  refine And.intro rfl ?_;(conv=>whnf);repeat (first|exact trivial|(refine sI ?_;conv=>whnf))
  refine And.intro rfl ?_;exact sZ
 rintro⟨rest,S⟩ ⟨k1,k2⟩ IH;simp only at k1 k2;obtain⟨i,x,P,e1,e2,e3,e4,e5,e6,e7⟩:=Cm rest;have c1:=Cl rest (by unfold maxLen;omega);have hw:IntKind.i64.wrap (i+1)=i+1:=wrap64 (by omega) (by omega);have e8:Nm.split t=P++x::S:=by rw[k2,e5];simp
 have hn:S.length+1<=8:=by rw[e8]at l2;simp at l2;omega
 rw[e1]at c1;refine I.head ab F233 2000 ?_;(conv=>whnf);refine ao (c1) ?_;refine gO F233 ?_;refine aV ⟨by rw[hw];simp;omega,by rw[hw];simp;omega,by simp⟩ ?_;refine gO F233 ?_;rw[hw];simp only[Option.getD_none,Option.getD_some,Int.toNat_natCast,List.take_length,e4];refine I.yield 0 rfl rfl rfl (aS rfl) (ml (aS rfl)) rfl ?_;(conv=>whnf);refine gO F154 ?_;refine I.begin 0 rfl rfl rfl ?_;(conv=>whnf);refine gO F154 ?_;obtain⟨m,hm⟩:∃ m,8-S.length=m+1:=⟨7-S.length,by omega⟩;have zP:IntKind.i64.wrap ((8:Int)-S.length-1)=(m:Int):=by rw[wrap64 (by omega) (by omega)];omega
 have tR:=S2 (m:=m) (a:=DV.str []) (b:=DV.str x) (L:=S.map .str);rw[hm];refine aV ⟨by rw[zP];omega,by rw[zP];simp;omega⟩ ?_;refine gO F154 ?_;rw[zP];refine aB (e := .str []) ⟨by omega,by simp[List.getElem?_append_left]⟩ rfl ?_;refine gO F154 ?_;rw[Int.toNat_natCast,tR];refine I.pM 0 rfl rfl rfl ?_;(conv=>whnf);refine gO F233 ?_;refine aW (by decide) ?_;refine gO F233 ?_;refine ai (fun h5=>?_) (fun h5=>?_)
 ·refine gO F233 ?_;refine I.kN ab F233 rfl rfl rfl rfl (fun e=>nomatch e) ?_;(conv=>whnf);refine I.freeze 0 ?_;refine gO F154 ?_
  refine I.slice3 (n:=m) ab rfl rfl rfl rfl rfl (aS rfl) (aS rfl) (aS rfl) (aS rfl) (by simp) (fun e he=>by
   rcases List.mem_append.1 he with h|h
   ·rw[(List.mem_replicate.1 h).2];rfl
   ·rcases List.mem_cons.1 h with rfl|h
    ·rfl
    ·obtain⟨y,-,rfl⟩:=List.mem_map.1 h;rfl) ?_
  refine gO F154 ?_;refine I.mo ab F154 rfl rfl rfl rfl rfl ?_;rw[e8,e6 (by simpa using h5),List.drop_left' (by simp)];rfl
 ·have h5:0<=i:=by simpa using h5
  refine gO F233 ?_;refine aV ⟨by simp,by simp;omega,by simp;omega⟩ ?_;refine gO F233 ?_;simp only[Option.getD_none,Option.getD_some,Int.toNat_zero,List.drop_zero];refine I.back (IH (rest.take i.toNat,x::S) ⟨by simp;omega,by simp only;rw[e8,e7 h5]⟩ (by simp;omega)) ?_;(conv=>whnf);repeat (first|exact trivial|(refine sI ?_;conv=>whnf))
  refine And.intro (by rw[show 8-(rest.take i.toNat,x::S).2.length=m by simp;omega];rfl) ?_;(conv=>whnf);repeat (first|exact trivial|(refine sI ?_;conv=>whnf))
  refine And.intro (congrArg (DV.int .i64) (by simp;omega)) ?_;exact sZ
end Go.Proofs.YtfmdaiojokniiaaGreatDoor.P
end
section
namespace Go.Proofs.YtfmdaiojokniiaaGreatDoor.P
open Go Go.ay
set_option maxRecDepth 100000
theorem zQ(x a b:Int):aq E 277 [.int .i64 x,.int .i64 a,.int .i64 b] (· = .bool (decide (a<=x)&&decide (x<=b))):=by
 refine eP Tryz.func277 ?_;refine ai (fun h=>?_) (fun h=>?_)
 ·refine gO Tryz.func277 ?_;rw[h];rfl
 ·refine gO Tryz.func277 ?_;rw[h];rfl
theorem K3(x a b:Int):aq E 350 [.int .u8 x,.int .u8 a,.int .u8 b] (· = .bool (decide (a<=x)&&decide (x<=b))):=by
 refine eP Tryz.func350 ?_;refine ai (fun h=>?_) (fun h=>?_)
 ·refine gO Tryz.func350 ?_;rw[h];rfl
 ·refine gO Tryz.func350 ?_;rw[h];rfl
theorem K4(x:Int):aq E 176 [.int .i64 x] (· = .bool false):=by
 refine eP Tryz.func176 ?_;simp
theorem K5(x:List UInt8):aq E 351 [.str x] (· = .bool false):=by
 refine eP Tryz.func351 ?_;simp
def jz(a b:Int):Int:=if a<b then -1 else if b<a then 1 else 0
theorem Cn(a b:Int):aq E 101 [.int .i64 a,.int .i64 b] (· = .int .i64 (jz a b)):=by
 refine eP Tryz.func101 ?_;repeat' (first|with_reducible(first|refine ao (K4 _) ?_|refine au (K4 _) ?_|refine cY ?_|refine cN ?_|refine ai (fun _=>?_) (fun _=>?_))|refine gA Tryz.func101 ?_|refine gB ?_|with_reducible rfl)
 all_goals (simp_all[jz])
 all_goals omega
def xq(a b:List UInt8):Int:=if Op.bytesLess a b then -1 else if a=b then 0 else 1
theorem S4(a b:List UInt8):aq E 332 [.str a,.str b] (· = .int .i64 (xq a b)):=by
 refine eP Tryz.func332 ?_;repeat' (first|with_reducible(first|refine ao (K5 _) ?_|refine au (K5 _) ?_|refine cY ?_|refine cN ?_|refine ai (fun _=>?_) (fun _=>?_))|refine gA Tryz.func332 ?_|refine gB ?_|with_reducible rfl)
 all_goals (simp_all[xq])
def qR:List Int->Int
 |[]=>0
 |x::l=>if x=0 then qR l else x
theorem Gb{l:List Int}:∀ {k:Nat},(∀ j,j<k->l[j]?=some 0)->qR l=qR (l.drop k)
 |0,_=>rfl
 |k+1,h=>by
  cases l with
  |nil=>rfl
  |cons x l =>
   have h0:=h 0 (by omega);simp at h0;subst h0;simp only[qR,if_true,List.drop_succ_cons];exact Gb fun j hj=>by have:=h (j+1) (by omega);simpa using this
theorem S5(l:List Int)(hl:l.length<=2147483648):aq E 331 [.sl (l.map (.int .i64))] (· = .int .i64 (qR l)):=by
 refine eP F331 ?_;refine I.loop (κ:=Nat) ([2,5]++rg 8 9) (fun k=>[(8,.d (.int .i64 k)),(2,.d (.int .i64 0))]) (fun _=>[]) (fun k=>k<=l.length/\∀ j,j<k->l[j]?=some 0) (fun k=>l.length-k) 0 ⟨Nat.zero_le _,fun j h=>by omega⟩ ?_ ?_
 ·exact sZ
 ·intro k hk IH;refine I.head ab F331 2000 ?_;(conv=>whnf);refine ai (fun h1=>?_) (fun h1=>?_)
  ·simp at h1;obtain⟨x,hx⟩:=aG h1;refine gO F331 ?_;refine eM (.int .i64 x) (by omega) (kL hx) rfl ?_;refine gO F331 ?_;refine ai (fun h2=>?_) (fun h2=>?_)
   ·refine gO F331 ?_;have aI:x≠0:=by simpa using h2
    rw[Gb hk.2,List.drop_eq_getElem_cons h1];have:l[k]=x:=by simpa [h1]using hx
    simp only[qR,this,if_neg aI]
   ·refine gO F331 ?_;have h0:x=0:=by simpa using h2
    subst h0;refine I.back (IH (k+1) ⟨by omega,fun j hj=>?_⟩ (by omega)) ?_
    ·rcases Nat.lt_or_ge j k with h|h
     ·exact hk.2 j h
     ·obtain rfl:j=k:=by omega
      exact hx
    ·exact sZ
  ·simp at h1;refine gO F331 ?_;rw[Gb hk.2,List.drop_of_length_le h1];rfl
def qS(a b:Datum):Int:=qR [xq a.text b.text,jz a.n b.n,jz a.m b.m]
theorem S6(a b:Datum):aq E 280 [a.enc,b.enc] (· = .int .i64 (qS a b)):=by
 refine eP Tryz.func280 ?_;refine I.bJ ab bG 2000 (by kernel_rfl) ?_;(conv=>whnf);refine au (S4 _ _) ?_;refine gD ?_;refine au (Cn _ _) ?_;refine gD ?_;refine au (Cn _ _) ?_;refine gD ?_;refine au (S5 [xq a.text b.text,jz a.n b.n,jz a.m b.m] (by simp)) ?_;refine gD ?_;refine gO Tryz.func280 ?_;rfl
def preB(a b:List UInt8):Bool:=b.isPrefixOf a
theorem S7{a b:List UInt8}:(a.take b.length==b)=preB a b:=by
 unfold preB;rw[Bool.eq_iff_iff,beq_iff_eq,List.isPrefixOf_iff_prefix];constructor
 ·intro e;rw[<- e];exact List.take_prefix _ _
 ·intro e;exact(List.prefix_iff_eq_take.1 e).symm
theorem S8{a b:List UInt8}(h:a.length<b.length):preB a b=false:=by
 unfold preB;rw[Bool.eq_false_iff];intro e;have:=(List.isPrefixOf_iff_prefix.1 e).length_le;omega
theorem S9(a b:List UInt8):aq E 207 [.str a,.str b] (· = .bool (preB a b)):=by
 refine eP Tryz.func207 ?_;refine ai (fun h=>?_) (fun h=>?_)
 ·simp at h;refine gO Tryz.func207 ?_;refine aV ⟨by simp,by simp,by simp;omega⟩ ?_;refine gO Tryz.func207 ?_;simp;exact S7
 ·simp at h;refine gO Tryz.func207 ?_;rw[S8 h]
theorem Co(a b:List UInt8):aq E 133 [.str a,.str b] (· = .bool (preB a b)):=by
 refine eP Tryz.func133 ?_
 with_reducible refine ao (S9 _ _) ?_
 refine gO Tryz.func133 ?_
 with_reducible rfl
theorem K6(a:List UInt8):preB a [42]=Nm.ia a:=by
 cases a with
 |nil=>rfl
 |cons c a =>
  show((42:UInt8)==c&&List.isPrefixOf [] a)=(c==42);simp only[List.isPrefixOf,Bool.and_true];exact BEq.comm
theorem Cp(a:List UInt8):aq E 278 [.str a] (· = .bool (Nm.ia a)):=by
 refine eP Tryz.func278 ?_
 with_reducible refine ao (Co _ _) ?_
 refine gO Tryz.func278 ?_;exact congrArg _ (K6 a)
def oX(c:UInt8):Bool:=(decide (97<=(c.toNat:Int))&&decide ((c.toNat:Int)<=122))||(decide (48<=(c.toNat:Int))&&decide ((c.toNat:Int)<=57))||((c.toNat:Int)==32)
def hY(t:List UInt8):Bool:=decide (1<=(t.length:Int))&&decide ((t.length:Int)<=40) && !(t.head?.any fun c=>(c.toNat:Int)==32) && !(t.getLast?.any fun c=>(c.toNat:Int)==32)&&t.all oX
theorem K7{t:List UInt8}(h1:1<=t.length)(h2:t.length<=40){c0 c1:UInt8}(h3:t[0]?=some c0)(h4:t[t.length-1]?=some c1)(h5:((c0.toNat:Int)==32)=false)(h6:((c1.toNat:Int)==32)=false):hY t=t.all oX:=by
 have e1:t.head?=some c0:=by rw[<- h3];exact List.head?_eq_getElem?
 have e2:t.getLast?=some c1:=by rw[<- h4,List.getLast?_eq_getElem?]
 have e3:decide (1<=(t.length:Int))=true:=by simp;omega
 have e4:decide ((t.length:Int)<=40)=true:=by simp;omega
 simp only[hY,e1,e2,e3,e4,Option.any_some,h5,h6,Bool.not_false,Bool.and_self,Bool.true_and]
theorem okF{a b:Bool}{x y:Int}(h1:(!a)=true)(h2:(!b)=true)(h3:(x != y)=true):(a||b||(x==y))=false:=by
 cases a<;>cases b<;>simp_all
theorem S'{a b d:Bool}(h:(!a)=false):(a||b||d)=true:=by cases a<;>simp_all
theorem Ta{a b d:Bool}(h:(!b)=false):(a||b||d)=true:=by cases b<;>simp_all
theorem Tb{a b:Bool}{x y:Int}(h:(x != y)=false):(a||b||(x==y))=true:=by simp_all
theorem K8(t:List UInt8):aq E 330 [.str t] (· = .bool (hY t)):=by
 refine eP F330 ?_
 with_reducible refine ao (zQ _ _ _) ?_
 refine gO F330 ?_;refine ai (fun h1=>?_) (fun h1=>?_)
 ·refine gO F330 ?_;refine bj ?_;refine gO F330 ?_;refine bj ?_;refine gO F330 ?_;have:(decide (1<=(t.length:Int))&&decide ((t.length:Int)<=40))=false:=by rw[Bool.not_eq_true']at h1;exact h1
  simp only[hY,this,Bool.false_and]
 ·have hb:1<=t.length/\t.length<=40:=by simp at h1;omega
  obtain⟨c0,qT⟩:=aG (l:=t) (k:=0) (by omega);obtain⟨c1,lk⟩:=aG (l:=t) (k:=t.length-1) (by omega);have hw:(IntKind.i64.wrap (t.length-1))=((t.length-1:Nat):Int):=by rw[wrap64 (by omega) (by omega)];omega
  refine gO F330 ?_;refine kD c0 (by decide) qT ?_;refine gO F330 ?_;refine ai (fun h2=>?_) (fun h2=>?_)
  ·refine gO F330 ?_;refine bj ?_;refine gO F330 ?_;have e1:t.head?=some c0:=by rw[<- qT];exact List.head?_eq_getElem?
   simp only[hY,e1,Option.any_some,h2,Bool.not_true,Bool.and_false,Bool.false_and]
  ·refine gO F330 ?_;rw[hw];refine kD c1 (by omega) (by rw[Int.toNat_natCast];exact lk) ?_;refine gO F330 ?_;refine ai (fun h3=>?_) (fun h3=>?_)
   ·refine gO F330 ?_;have e2:t.getLast?=some c1:=by rw[<- lk,List.getLast?_eq_getElem?]
    simp only[hY,e2,Option.any_some,h3,Bool.not_true,Bool.and_false,Bool.false_and]
   ·rw[K7 hb.1 hb.2 qT lk h2 h3];refine gO F330 ?_;refine I.loop (κ:=Nat) ([3,4,2]++rg 24 19) (fun k=>[(24,.d (.int .i64 k))]) (fun _=>[]) (fun k=>k<=t.length/\∀ j c,j<k->t[j]?=some c->oX c=true) (fun k=>t.length-k) 0 ⟨Nat.zero_le _,fun j c h=>by omega⟩ ?_ ?_
    ·exact sZ
    ·intro k hk IH;have no:∀ c,t[k]?=some c->oX c=false->t.all oX=false:=fun c hc h=>by
      rw[Bool.eq_false_iff];intro aJ;have:=List.all_eq_true.1 aJ c (List.mem_of_getElem? hc);rw[h]at this;cases this
     refine I.head ab F330 2000 ?_;(conv=>whnf);refine ai (fun h4=>?_) (fun h4=>?_)
     ·simp at h4;obtain⟨c,hc⟩:=aG h4;have next:oX c=true->∀ j c',j<k+1->t[j]?=some c'->oX c'=true:=fun ho j c' hj yy=>by
       rcases Nat.lt_or_ge j k with h|h
       ·exact hk.2 j c' h yy
       ·obtain rfl:j=k:=by omega
        rw[hc]at yy;cases yy;exact ho
      refine gO F330 ?_;refine kD c (by omega) (by rw[Int.toNat_natCast];exact hc) ?_;refine gO F330 ?_
      with_reducible refine ao (K3 _ _ _) ?_
      refine gO F330 ?_;refine ai (fun h5=>?_) (fun h5=>?_)
      ·refine gO F330 ?_
       with_reducible refine ao (K3 _ _ _) ?_
       refine gO F330 ?_;refine ai (fun h6=>?_) (fun h6=>?_)
       ·refine gO F330 ?_;refine ai (fun h7=>?_) (fun h7=>?_)
        ·refine gO F330 ?_;rw[no c hc (okF h5 h6 h7)]
        ·refine gO F330 ?_;refine I.back (IH (k+1) ⟨by omega,next (Tb h7)⟩ (by omega)) ?_;exact sZ
       ·refine gO F330 ?_;refine aR ?_;refine gO F330 ?_;refine I.back (IH (k+1) ⟨by omega,next (Ta h6)⟩ (by omega)) ?_;exact sZ
      ·refine gO F330 ?_;refine aR ?_;refine gO F330 ?_;refine aR ?_;refine gO F330 ?_;refine I.back (IH (k+1) ⟨by omega,next (S' h5)⟩ (by omega)) ?_;exact sZ
     ·simp at h4;refine gO F330 ?_;have:t.all oX=true:=by
       rw[List.all_eq_true];intro c hc;obtain⟨j,hj⟩:=List.getElem?_of_mem hc;exact hk.2 j c (by have:=aQ hj;omega) hj
      rw[this]
structure pO where
 text:Int
 K9:Int
 La:Int
 Lb:Int
 Lc:Int
 even:Bool
 single:Bool
 ia:Bool
@[reducible] def pO.enc (r : pO) : DV := .agg [.int .i64 r.text, .int .i64 r.K9, .int .i64 r.La, .int .i64 r.Lb, .int .i64 r.Lc, .bool r.even, .bool r.single, .bool r.ia]
def fN:Nat->pO
 |1=>⟨0,1,1000000,0,0,false,false,true⟩
 |2=>⟨1,0,0,0,0,false,false,false⟩
 |3=>⟨1,0,0,0,0,false,true,false⟩
 |4=>⟨0,0,65535,0,100000,false,true,false⟩
 |5=>⟨3,0,0,0,0,false,false,true⟩
 |6=>⟨0,1,1000000,1,3,false,false,false⟩
 |7=>⟨0,1,1000000,1,3,false,false,false⟩
 |8=>⟨2,2,510,0,0,true,false,true⟩
 |_=>⟨0,0,0,0,0,false,false,false⟩
def nn(r:pO)(t:Text):Bool:=if r.text=1 then Nm.valid t && !Nm.ia t else if r.text=2 then Nm.valid t else if r.text=3 then hY t else t==[]
def jX(r:pO)(d:Datum):Bool :=
 (decide (r.K9<=d.n)&&decide (d.n<=r.La))&&(decide (r.Lb<=d.m)&&decide (d.m<=r.Lc)) && !(r.even&&(d.n.tmod 2 != 0))&&nn r d.text
theorem Tc(r:pO)(d:Datum)(hd:d.text.length<=maxLen):aq E 279 [r.enc,d.enc] (· = .bool (jX r d)):=by
 obtain⟨rt,r1,r2,r3,r4,re,rs,rw⟩:=r;refine eP Tryz.func279 ?_;repeat' (first|with_reducible(first|refine ao (zQ _ _ _) ?_|refine au (zQ _ _ _) ?_|refine ao (gG _ hd) ?_|refine au (gG _ hd) ?_|refine ao (Cp _) ?_|refine au (Cp _) ?_|refine ao (K8 _) ?_|refine au (K8 _) ?_|refine cY ?_|refine cN ?_|refine ai (fun _=>?_) (fun _=>?_))|refine gA Tryz.func279 ?_|refine gB ?_|with_reducible rfl)
 all_goals simp_all[jX,nn]
 all_goals (intros;exfalso;omega)
theorem Td{k:Nat}(h1:1<=k)(h8:k<=8):∃ cs,B5=.agg cs/\(cs.drop (k*8)).take 8=(fN k).enc.cells:=by
 refine⟨_,rfl,?_⟩
 match k,h1,h8 with
 |1,_,_=>rfl
 |2,_,_=>rfl
 |3,_,_=>rfl
 |4,_,_=>rfl
 |5,_,_=>rfl
 |6,_,_=>rfl
 |7,_,_=>rfl
 |8,_,_=>rfl
structure cM.Fits(s:cM):Prop where
 name:s.name.length<=maxLen
 data:s.data.length<=2147483648
 texts:∀ d∈s.data,d.text.length<=maxLen
def mq(r:pO):Option Datum->List Datum->Bool
 |_,[]=>true
 |p,d::l=>jX r d&&(match p with|none=>true|some e=>decide (qS e d<0))&&mq r (some d) l
def lH(l:List Datum)(k:Nat):Option Datum:=if k=0 then none else l[k-1]?
theorem Ld{r:pO}{l:List Datum}{k:Nat}{d:Datum}(hd:l[k]?=some d):mq r (lH l k) (l.drop k)=(jX r d&&(match lH l k with|none=>true|some e=>decide (qS e d<0))&&mq r (lH l (k+1)) (l.drop (k+1))):=by
 have hk:=aQ hd;rw[List.drop_eq_getElem_cons hk];have e1:l[k]=d:=by simpa [hk]using hd
 have e2:lH l (k+1)=some d:=by simp[lH,hd]
 rw[e1,e2];rfl
def ef(s:cM):Bool:=Nm.valid s.name&&(decide (1<=s.type)&&decide (s.type<=8))&&(decide (0<=s.cy)&&decide (s.cy<=100000))&&(decide (1<=(s.data.length:Int))&&decide ((s.data.length:Int)<=8)) &&
 !((fN s.type.toNat).single&&((s.data.length:Int) != 1)) && !(Nm.ia s.name && !(fN s.type.toNat).ia)&&mq (fN s.type.toNat) none s.data
theorem sU(s:cM)(hf:s.Fits):aq E 220 [s.enc] (· = .bool (ef s)):=by
 refine eP F220 ?_;repeat' (first|with_reducible(first|refine ao (gG _ hf.name) ?_|refine au (gG _ hf.name) ?_|refine ao (zQ _ _ _) ?_|refine au (zQ _ _ _) ?_|refine cY ?_|refine cN ?_|refine ai (fun _=>?_) (fun _=>?_))|refine gA F220 ?_|refine gB ?_|with_reducible rfl)
 all_goals try (simp only[Bool.not_eq_true',Bool.not_eq_false',List.length_map]at *;simp only[ef, *,Bool.false_and,Bool.and_false];done)
 rename_i h1 h2 h3 h4;rw[List.length_map]at h4;rw[Bool.not_eq_false']at h1 h2 h3 h4;have ht:1<=s.type/\s.type<=8:=by simpa using h2
 have hl:1<=s.data.length/\s.data.length<=8:=by simp at h4;omega
 obtain⟨t,nO⟩:=Int.eq_ofNat_of_zero_le (a:=s.type) (by omega);obtain⟨cs,ec,Le⟩:=Td (k:=t) (by omega) (by omega);cases ec;refine QE (fN t).enc (by omega) (by omega) (by decide) (by rw[nO];exact Le) rfl ?_;have dM:ef s=(!((fN t).single&&((s.data.length:Int) != 1)) && !(Nm.ia s.name && !(fN t).ia)&&mq (fN t) none s.data):=by
  simp only[ef,h1,h2,h3,h4,Bool.true_and];rw[nO,Int.toNat_natCast]
 rw[dM];generalize fN t=r;clear dM Le;refine gO F220 ?_;repeat' (first|with_reducible(first|refine ao (Cp _) ?_|refine au (Cp _) ?_|refine cY ?_|refine cN ?_|refine ai (fun _=>?_) (fun _=>?_))|refine gA F220 ?_|refine gB ?_|with_reducible rfl)
 all_goals try (simp only[List.length_map,Bool.not_eq_true',Bool.not_eq_false']at *;simp only[*,Bool.true_and,Bool.not_true,Bool.not_false,Bool.and_false,Bool.false_and,Bool.and_self];done)
 all_goals
  have gv:(!(r.single&&((s.data.length:Int) != 1)) && !(Nm.ia s.name && !r.ia)&&mq r none s.data)=mq r none s.data:=by
   try simp only[List.length_map]at *
   simp only[*,Bool.not_true,Bool.not_false,Bool.and_false,Bool.false_and,Bool.and_self,Bool.true_and]
  rw[gv];clear gv;refine gO F220 ?_;refine I.loop (κ:=Nat) ([2,4,5]++rg 52 25) (fun k=>[(52,.d (.int .i64 k))]) (fun _=>[]) (fun k=>k<=s.data.length/\mq r none s.data=mq r (lH s.data k) (s.data.drop k)) (fun k=>s.data.length-k) 0 ⟨Nat.zero_le _,rfl⟩ ?_ ?_
  ·exact sZ
  ·intro k hk IH;refine I.head ab F220 2000 ?_;(conv=>whnf);refine ai (fun h5=>?_) (fun h5=>?_)
   ·have ah:k<s.data.length:=by simpa using h5
    obtain⟨d,hd⟩:=aG ah;have aF:=Ld (r:=r) hd;rw[<- hk.2]at aF;refine gO F220 ?_;refine eM d.enc (by omega) (kL hd) rfl ?_;refine gO F220 ?_;refine I.bJ ab bG 2000 (by kernel_rfl) ?_;(conv=>whnf);refine au (Tc r d (hf.texts d (List.mem_of_getElem? hd))) ?_;refine gD ?_;refine ai (fun h6=>?_) (fun h6=>?_)
    ·refine gD ?_;refine gO F220 ?_;refine bj ?_;refine gO F220 ?_;rw[Bool.not_eq_true']at h6;rw[aF,h6,Bool.false_and,Bool.false_and]
    ·rw[Bool.not_eq_false']at h6;refine gD ?_;refine ai (fun h7=>?_) (fun h7=>?_)
     ·have bY:0<k:=by simpa using h7
      obtain⟨e,he⟩:=aG (l:=s.data) (k:=k-1) (by omega);have hw:IntKind.i64.wrap ((k:Int)-1)=((k-1:Nat):Int):=by rw[wrap64 (by omega) (by omega)];omega
      have qU:lH s.data k=some e:=by simp[lH,he];omega
      refine gD ?_;rw[hw];refine eM e.enc (by omega) (kL he) rfl ?_;refine gD ?_;refine au (S6 _ _) ?_;refine gD ?_;refine gO F220 ?_;refine ai (fun h8=>?_) (fun h8=>?_)
      ·refine gO F220 ?_;have:decide (qS e d<0)=false:=by simp at h8 ⊢;omega
       rw[aF,qU];dsimp only;rw[this,Bool.and_false,Bool.false_and]
      ·refine gO F220 ?_;have:decide (qS e d<0)=true:=by simp at h8 ⊢;omega
       refine I.back (IH (k+1) ⟨by omega,by rw[aF,qU];dsimp only;rw[this,h6];rfl⟩ (by omega)) ?_;exact sZ
     ·have bY:k=0:=by simp at h7;omega
      have qU:lH s.data k=none:=by simp[lH,bY]
      refine gD ?_;refine gO F220 ?_;refine aR ?_;refine gO F220 ?_;refine I.back (IH (k+1) ⟨by omega,by rw[aF,qU,h6];rfl⟩ (by omega)) ?_;exact sZ
   ·have aA:s.data.length<=k:=by simpa using h5
    refine gO F220 ?_;rw[hk.2,List.drop_of_length_le aA];rfl
def fO(n:Int):List DV:=[56,48,40,32,24,16,8,0].map fun k => .int .u8 (IntKind.u8.wrap (lu .shr .u64 (IntKind.u64.wrap n) k))
def eO(t:Text):List DV := .int .u8 (IntKind.u8.wrap t.length)::t.map kB
theorem dv(n:Int):(fO n).length=8:=rfl
theorem mr(t:Text):(eO t).length=t.length+1:=by simp[eO]
theorem Te(n:Int){k:Nat}(h:k<8):(fO n).take k++[.int .u8 (IntKind.u8.wrap (lu .shr .u64 (IntKind.u64.wrap n) (56-8*(k:Int)).toNat))]=(fO n).take (k+1):=by
 match k,h with
 |0,_=>rfl
 |1,_=>rfl
 |2,_=>rfl
 |3,_=>rfl
 |4,_=>rfl
 |5,_=>rfl
 |6,_=>rfl
 |7,_=>rfl
theorem Tf(l:List DV)(t:Text)(hl:l.length+t.length<2147483648):ar E 325 [.arr 0 (5,1) l] [.own 0 0,.d (.str t)] (fun a b=>a=.own 0 2/\b=[.arr 2 (5,1) (l++eO t)]):=by
 refine ar.run ab (fn:=Tryz.f325) Tryz.func325 (body:=Tryz.f325.body.getD .skip) rfl (by decide) 2000 rfl ?_;(conv=>whnf);refine aV ⟨by simp;omega,by simp[DV.cells]⟩ ?_;refine gO Tryz.func325 ?_;refine aV ⟨by simp;omega,by simp[kB,DV.cells]⟩ ?_;refine gO Tryz.func325 ?_;simp[eO]
theorem Tg(t:Text)(hl:t.length<2147483648):ar E 325 [] [.d .aH,.d (.str t)] (fun a b=>a=.own 0 2/\b=[.arr 2 (5,1) (eO t)]):=by
 refine ar.run ab (fn:=Tryz.f325) Tryz.func325 (body:=Tryz.f325.body.getD .skip) rfl (by decide) 2000 rfl ?_;(conv=>whnf);refine aV ⟨by simp,by simp[DV.cells]⟩ ?_;refine gO Tryz.func325 ?_;refine aV ⟨by simp;omega,by simp[kB,DV.cells]⟩ ?_;refine gO Tryz.func325 ?_;simp[eO]
theorem Cq(l:List DV)(n:Int)(hl:l.length<2000000000):ar E 326 [.arr 0 (5,1) l] [.own 0 0,.d (.int .i64 n)] (fun a b=>a=.own 0 1/\b=[.arr 1 (5,1) (l++fO n)]):=by
 refine ar.run ab (fn:=Tryz.f326) Tryz.func326 (body:=Tryz.f326.body.getD .skip) rfl (by decide) 2000 rfl ?_;(conv=>whnf);refine I.loop (κ:=Nat) ([0]++rg 5 13) (fun k=>[(5,.d (.int .i64 (56-8*(k:Int)))),(0,.own 0 1)]) (fun k=>[(0,.arr 1 (5,1) (l++(fO n).take k))]) (fun k=>k<=8) (fun k=>8-k) 0 (Nat.zero_le _) ?_ ?_
 ·(conv=>whnf);repeat (first|exact trivial|(refine sI ?_;conv=>whnf))
  refine And.intro (by simp) ?_;exact sZ
 ·intro k hk IH;refine I.head ab Tryz.func326 2000 ?_;(conv=>whnf);refine ai (fun h=>?_) (fun h=>?_)
  ·have ah:k<8:=by simp at h;omega
   refine gO Tryz.func326 ?_;refine aV (by omega) ?_;refine gO Tryz.func326 ?_;refine aV ⟨by simp[dv];omega,by simp[DV.cells]⟩ ?_;refine gO Tryz.func326 ?_;refine I.back (IH (k+1) (by omega) (by omega)) ?_;(conv=>whnf);repeat (first|exact trivial|(refine sI ?_;conv=>whnf))
   refine And.intro (by rw[List.append_assoc,Te n ah]) ?_;exact sZ
  ·have aA:k=8:=by simp at h;omega
   subst aA;refine gO Tryz.func326 ?_;simp[show List.take 8 (fO n)=fO n from rfl]
def sV(d:Datum):List DV:=eO d.text++fO d.n++fO d.m
def sW(s:cM):List DV:=eO s.name++fO s.type++fO s.cy++[.int .u8 (IntKind.u8.wrap s.data.length)]
def mu(s:cM):List DV:=sW s++s.data.flatMap sV
theorem Th{r:pO}{t:Text}(h:nn r t=true):t.length<=60:=by
 unfold nn at h;split at h
 ·simp at h;exact dO h.1
 ·split at h
  ·exact dO h
  ·split at h
   ·simp[hY]at h;omega
   ·simp at h;simp[h]
theorem Gc{r:pO}:∀ {p:Option Datum} {l:List Datum},mq r p l=true->∀ d∈l,jX r d=true
 |_,[],_,d,hd=>by simp at hd
 |p,e::l,h,d,hd=>by
  simp only[mq,Bool.and_eq_true]at h;rcases List.mem_cons.1 hd with rfl|hd
  ·exact h.1.1
  ·exact Gc h.2 d hd
theorem xr{s:cM}(h:ef s=true):s.name.length<=60/\s.data.length<=8/\1<=s.data.length/\∀ d∈s.data,d.text.length<=60:=by
 simp only[ef,Bool.and_eq_true,decide_eq_true_eq]at h;obtain⟨⟨⟨⟨⟨⟨h1,h2⟩,h3⟩,h4⟩,h5⟩,h6⟩,h7⟩:=h;refine⟨dO h1,by omega,by omega,fun d hd=>?_⟩;have:=Gc h7 d hd;simp only[jX,Bool.and_eq_true]at this;exact Th this.2
theorem Ti{d:Datum}(h:d.text.length<=60):(sV d).length<=77:=by simp[sV,mr,dv];omega
theorem Lf{l:List Datum}(h:∀ d∈l,d.text.length<=60):(l.flatMap sV).length<=77*l.length:=by
 induction l with
 |nil=>simp
 |cons d l ih =>
  have h1:=Ti (h d (List.mem_cons_self ..));have h2:=ih (fun e he=>h e (List.mem_cons_of_mem _ he));simp only[List.flatMap_cons,List.length_append,List.length_cons];omega
theorem Lg{s:cM}(h:s.name.length<=60):(sW s).length<=78:=by simp[sW,mr,dv];omega
theorem Tj(s:cM)(hf:s.Fits)(hs:ef s=true):aq E 267 [s.enc] (· = .aD [.sl (mu s),.int .i64 0]):=by
 obtain⟨hn,hd,-,ht⟩:=xr hs;have hh:=Lg hn;have hlen:∀ k,(sW s++(s.data.take k).flatMap sV).length<=700:=fun k=>by
  have h1:=Lf (l:=s.data.take k) (fun d hd=>ht d (List.mem_of_mem_take hd));have h2:(s.data.take k).length<=8:=by simp;omega
  simp only[List.length_append];omega
 refine eP F267 ?_
 with_reducible refine ao (sU s hf) ?_
 refine gO F267 ?_;rw[hs];refine aR ?_;refine gO F267 ?_;refine wV (Tg _ (by omega)) rfl ?_;refine gO F267 ?_
 with_reducible refine aO (Cq _ _ (by simp[mr];omega)) ?_
 refine gO F267 ?_
 with_reducible refine aO (Cq _ _ (by simp[mr,dv];omega)) ?_
 refine gO F267 ?_;refine aV ⟨by simp[mr,dv];omega,by simp[DV.cells]⟩ ?_;refine gO F267 ?_;refine I.loop (κ:=Nat) ([4,6]++rg 32 17) (fun k=>[(32,.d (.int .i64 k)),(4,.own 1 1)]) (fun k=>[(1,.arr 1 (5,1) (sW s++(s.data.take k).flatMap sV))]) (fun k=>k<=s.data.length) (fun k=>s.data.length-k) 0 (Nat.zero_le _) ?_ ?_
 ·(conv=>whnf);repeat (first|exact trivial|(refine sI ?_;conv=>whnf))
  refine And.intro (by simp[sW,List.length_map]) ?_;exact sZ
 ·intro k hk IH;have zR:=hlen k;refine I.head ab F267 2000 ?_;(conv=>whnf);refine ai (fun h=>?_) (fun h=>?_)
  ·have ah:k<s.data.length:=by simpa using h
   obtain⟨d,hd⟩:=aG ah;have nU:=ht d (List.mem_of_getElem? hd);refine gO F267 ?_;refine eM d.enc (by omega) (kL hd) rfl ?_;refine gO F267 ?_
   with_reducible refine aO (Tf _ _ (by omega)) ?_
   refine gO F267 ?_
   with_reducible refine aO (Cq _ _ (by rw[List.length_append,mr];omega)) ?_
   refine gO F267 ?_
   with_reducible refine aO (Cq _ _ (by rw[List.length_append,List.length_append,mr,dv];omega)) ?_
   refine gO F267 ?_;refine I.back (IH (k+1) (by omega) (by omega)) ?_;(conv=>whnf);repeat (first|exact trivial|(refine sI ?_;conv=>whnf))
   refine And.intro (by simp[cK hd,sV]) ?_;exact sZ
  ·have aA:k=s.data.length:=by simp at h;omega
   subst aA;refine gO F267 ?_;simp[mu]
def Lh(d:Int)(x:DV):Int:=match x with
 | .int _ n=>IntKind.u64.wrap (Bo .xor .u64 d (IntKind.u64.wrap n)*1099511628211)
 |_=>d
def np(d:Int)(l:List DV):Int:=l.foldl Lh d
@[reducible] def isByte (x : DV) : Prop := ∃ n, x = .int .u8 n
theorem Tk(d:Int)(l m:List DV):np d (l++m)=np (np d l) m:=List.foldl_append
theorem Tl{d:Int}{l:List DV}{k:Nat}{x:DV}(h:l[k]?=some x):np d (l.take (k+1))=Lh (np d (l.take k)) x:=by rw[cK h,Tk];rfl
theorem Tm(d:Int)(l:List DV)(hl:l.length<=2147483648)(hb:∀ x∈l,isByte x):ar E 203 [.cells [.d (.int .u64 d)]] [.ptr 0 0,.d (.sl l)] (fun a b=>a=.aD []/\b=[.cells [.d (.int .u64 (np d l))]]):=by
 refine ar.run ab (fn:=Tryz.f203) Tryz.func203 (body:=Tryz.f203.body.getD .skip) rfl (by decide) 2000 rfl ?_;(conv=>whnf);refine I.loop (κ:=Nat) ([5]++rg 8 14) (fun k=>[(8,.d (.int .i64 k))]) (fun k=>[(0,.cells [.d (.int .u64 (np d (l.take k)))])]) (fun k=>k<=l.length) (fun k=>l.length-k) 0 (Nat.zero_le _) ?_ ?_
 ·(conv=>whnf);repeat (first|exact trivial|(refine And.intro (by first|with_reducible rfl|exact congrArg (DV.int .i64) (by omega)|exact rfl|exact congrArg (DV.int .i64) (wrap64 (by omega) (by omega))|exact congrArg (DV.int .i64) ((wrap64 (by omega) (by omega)).trans (by omega))) ?_;conv=>whnf))
 ·intro k hk IH;refine I.head ab Tryz.func203 2000 ?_;(conv=>whnf);refine ai (fun h=>?_) (fun h=>?_)
  ·have ah:k<l.length:=by simpa using h
   obtain⟨x,hx⟩:=aG ah;obtain⟨n,rfl⟩:=hb x (List.mem_of_getElem? hx);refine gO Tryz.func203 ?_;refine eM (.int .u8 n) (by omega) (by simpa using hx) rfl ?_;refine gO Tryz.func203 ?_;refine I.back (IH (k+1) (by omega) (by omega)) ?_;(conv=>whnf);repeat (first|exact trivial|(refine And.intro (by first|with_reducible rfl|exact congrArg (DV.int .i64) (by omega)|exact congrArg _ (Tl hx).symm|exact congrArg (DV.int .i64) (wrap64 (by omega) (by omega))|exact congrArg (DV.int .i64) ((wrap64 (by omega) (by omega)).trans (by omega))) ?_;conv=>whnf))
  ·have aA:k=l.length:=by simp at h;omega
   subst aA;refine gO Tryz.func203 ?_;simp
theorem gb(n:Int):∀ x∈fO n,isByte x:=by
 intro x hx;simp only[fO,List.mem_map]at hx;obtain⟨k,-,rfl⟩:=hx;exact⟨_,rfl⟩
theorem kO(t:Text):∀ x∈eO t,isByte x:=by
 intro x hx;simp only[eO,List.mem_cons,List.mem_map]at hx;rcases hx with rfl|⟨b,-,rfl⟩
 ·exact⟨_,rfl⟩
 ·exact⟨_,rfl⟩
def xt:Int:=14695981039346656037
theorem Tn(l:List DV)(hl:l.length<=2147483648)(hb:∀ x∈l,isByte x):aq E 123 [.sl l] (· = .int .u64 (np xt l)):=by
 refine eP Tryz.func123 ?_
 with_reducible refine aO (Tm _ l hl hb) ?_
 refine gO Tryz.func123 ?_;rfl
def To(k:Key):Bool:=decide (k.n>=1)&&decide (k.n<=1000000)&&decide (k.jV>=1)&&decide (k.jV<=3)
def zS(a b:Int):Bool:=decide (a>=0)&&decide (a<=b)&&decide (b<=20000000)
def Tp(s:cM)(aw:Text)(k:Key)(cu upto:Int):Bool:=To k&&zS cu upto&&Nm.valid aw && !Nm.ia aw&&ef s&&Nm.mn s.name aw
def zT:da:=⟨[],0,0,0,0,0⟩
theorem Gd(s:cM):∀ x∈mu s,isByte x:=by
 intro x hx;simp only[mu,sW,List.mem_append,List.mem_flatMap,sV,List.mem_singleton]at hx;rcases hx with(((h|h)|h)|h)|⟨d,-,((h|h)|h)⟩
 ·exact kO _ x h
 ·exact gb _ x h
 ·exact gb _ x h
 ·exact⟨_,h⟩
 ·exact kO _ x h
 ·exact gb _ x h
 ·exact gb _ x h
theorem Tq{s:cM}(h:ef s=true):(mu s).length<=700:=by
 obtain⟨hn,hd,-,ht⟩:=xr h;have h1:=Lg hn;have h2:=Lf ht;simp only[mu,List.length_append];omega
def Cr(a b:da):Bool:=(a.aw==b.aw&&(a.key==b.key&&(a.jV==b.jV&&(a.cu==b.cu&&(a.upto==b.upto&&(a.sum==b.sum&&true))))))
theorem Li{a b:da}:Cr a b=true↔a=b:=by
 obtain⟨a1,a2,a3,a4,a5,a6⟩:=a;obtain⟨b1,b2,b3,b4,b5,b6⟩:=b;simp[Cr]
theorem di{α:Type}{p:α->Bool}{l:List α}{k:Nat}{x:α}(h:l[k]?=some x)(hx:p x=false):l.all p=false:=by
 rw[Bool.eq_false_iff];intro aJ;have:=List.all_eq_true.1 aJ x (List.mem_of_getElem? h);rw[hx]at this;cases this
theorem dw{α:Type}{p:α->Bool}{l:List α}{k:Nat}{x:α}(hk:(l.take k).all p=true)(h:l[k]?=some x)(hx:p x=true):(l.take (k+1)).all p=true:=by
 rw[cK h,List.all_append,hk];simp[hx]
theorem lI{α:Type}{p:α->Bool}{l:List α}{k:Nat}(hk:(l.take k).all p=true)(h:l.length<=k):l.all p=true:=by
 rwa [List.take_of_length_le h]at hk
theorem jA(x a b:Int):aq E 208 [.int .i64 x,.int .i64 a,.int .i64 b] (· = .bool (decide (a<=x)&&decide (x<=b))):=by
 refine eP Tryz.func208 ?_;repeat' (first|with_reducible(first|refine cY ?_|refine cN ?_|refine ai (fun _=>?_) (fun _=>?_))|refine gA Tryz.func208 ?_|refine gB ?_|with_reducible rfl)
 all_goals simp_all
 all_goals omega
theorem Lj(t:Int):aq E 209 [.int .i64 t] (· = .bool (t==3||t==4)):=by
 refine eP Tryz.func209 ?_;repeat' (first|with_reducible(first|refine cY ?_|refine cN ?_|refine ai (fun _=>?_) (fun _=>?_))|refine gA Tryz.func209 ?_|refine gB ?_|with_reducible rfl)
 all_goals simp_all
def Cs(a b:Datum):Bool:=if a.text≠b.text then Op.bytesLess a.text b.text else if a.n≠b.n then decide (a.n<b.n)else decide (a.m<b.m)
theorem Tr(a b:Datum):aq E 211 [a.enc,b.enc] (· = .bool (Cs a b)):=by
 refine eP Tryz.func211 ?_;repeat' (first|with_reducible(first|refine cY ?_|refine cN ?_|refine ai (fun _=>?_) (fun _=>?_))|refine gA Tryz.func211 ?_|refine gB ?_|with_reducible rfl)
 all_goals simp_all[Cs]
theorem Lk(a b:Int):aq E 297 [.int .i64 a,.int .i64 b] (· = .bool (zS a b)):=by
 refine eP Tryz.func297 ?_;repeat' (first|with_reducible(first|refine cY ?_|refine cN ?_|refine ai (fun _=>?_) (fun _=>?_))|refine gA Tryz.func297 ?_|refine gB ?_|with_reducible rfl)
 all_goals simp_all[zS]
 all_goals omega
theorem kP(t:Text):aq E 274 [.str t] (· = .bool (hY t)):=by
 by_cases hb:1<=t.length/\t.length<=40
 ·obtain⟨c0,qT⟩:=aG (l:=t) (k:=0) (by omega);obtain⟨c1,lk⟩:=aG (l:=t) (k:=t.length-1) (by omega);have hw:(IntKind.i64.wrap (t.length-1))=((t.length-1:Nat):Int):=by rw[wrap64 (by omega) (by omega)];omega
  refine eP F274 ?_;refine aW (by simp;omega) ?_;refine gO F274 ?_;refine aW (by simp;omega) ?_;refine gO F274 ?_;refine kD c0 (by decide) qT ?_;refine gO F274 ?_;refine ai (fun h2=>?_) (fun h2=>?_)
  ·refine gO F274 ?_;refine bj ?_;refine gO F274 ?_;have e1:t.head?=some c0:=by rw[<- qT];exact List.head?_eq_getElem?
   simp only[hY,e1,Option.any_some,h2,Bool.not_true,Bool.and_false,Bool.false_and]
  ·refine gO F274 ?_;rw[hw];refine kD c1 (by omega) (by rw[Int.toNat_natCast];exact lk) ?_;refine gO F274 ?_;refine ai (fun h3=>?_) (fun h3=>?_)
   ·refine gO F274 ?_;have e2:t.getLast?=some c1:=by rw[<- lk,List.getLast?_eq_getElem?]
    simp only[hY,e2,Option.any_some,h3,Bool.not_true,Bool.and_false,Bool.false_and]
   ·rw[K7 hb.1 hb.2 qT lk h2 h3];refine gO F274 ?_;refine I.loop (κ:=Nat) ([2,4,5]++rg 26 26) (fun k=>[(4,.d (.int .i64 k))]) (fun _=>[]) (fun k=>k<=t.length/\(t.take k).all oX=true) (fun k=>t.length-k) 0 ⟨Nat.zero_le _,rfl⟩ ?_ ?_
    ·exact sZ
    ·intro k hk IH;refine I.head ab F274 2000 ?_;(conv=>whnf);refine ai (fun h4=>?_) (fun h4=>?_)
     ·simp at h4;obtain⟨c,hc⟩:=aG h4;refine gO F274 ?_;refine kD c (by omega) (by rw[Int.toNat_natCast];exact hc) ?_;refine gO F274 ?_;repeat' (first|with_reducible(first|refine cY ?_|refine cN ?_|refine ai (fun _=>?_) (fun _=>?_))|refine gA F274 ?_|refine gB ?_|with_reducible rfl)
      all_goals first
       |(rw[di hc (by simp_all[oX]<;>omega)];done)
       |skip
      all_goals
       refine gO F274 ?_;refine I.back (IH (k+1) ⟨by omega,dw hk.2 hc (by simp_all[oX]<;>omega)⟩ (by omega)) ?_;exact sZ
     ·simp at h4;refine gO F274 ?_;rw[lI hk.2 h4]
 ·have bK:hY t=false:=by
   simp only[hY,Bool.and_eq_false_iff,decide_eq_false_iff_not];omega
  rw[bK];refine eP F274 ?_;refine ai (fun h=>?_) (fun h=>?_)
  ·refine gO F274 ?_;refine bj ?_;refine gO F274 ?_;refine bj ?_;refine gO F274 ?_;refine bj ?_;refine gO F274 ?_
   with_reducible rfl
  ·simp at h;refine gO F274 ?_;refine aU (by simp;omega) ?_;refine gO F274 ?_;refine bj ?_;refine gO F274 ?_;refine bj ?_;refine gO F274 ?_
   with_reducible rfl
theorem sX(n:Int):(n==0)=(decide (0<=n)&&decide (n<=0)):=by
 rw[Bool.eq_iff_iff];simp;omega
theorem Ts(k:Nat)(d:Datum)(hk:1<=k/\k<=8)(hd:d.text.length<=maxLen):aq E 210 [.int .i64 k,d.enc] (· = .bool (jX (fN k) d)):=by
 match k,hk with
 |1,_ =>
  refine eP F210 ?_;repeat' (first|with_reducible(first|refine ao (jA _ _ _) ?_|refine au (jA _ _ _) ?_|refine ao (eG _ hd) ?_|refine au (eG _ hd) ?_|refine ao (iW _ hd) ?_|refine au (iW _ hd) ?_|refine ao (kP _) ?_|refine au (kP _) ?_|refine cY ?_|refine cN ?_|refine ai (fun _=>?_) (fun _=>?_))|refine gA F210 ?_|refine gB ?_|with_reducible rfl)
  all_goals simp_all[jX,nn,fN]
  all_goals first|omega|exact sX _
 |2,_ =>
  refine eP F210 ?_;repeat' (first|with_reducible(first|refine ao (jA _ _ _) ?_|refine au (jA _ _ _) ?_|refine ao (eG _ hd) ?_|refine au (eG _ hd) ?_|refine ao (iW _ hd) ?_|refine au (iW _ hd) ?_|refine ao (kP _) ?_|refine au (kP _) ?_|refine cY ?_|refine cN ?_|refine ai (fun _=>?_) (fun _=>?_))|refine gA F210 ?_|refine gB ?_|with_reducible rfl)
  all_goals simp_all[jX,nn,fN]
  all_goals first|omega|exact sX _
 |3,_ =>
  refine eP F210 ?_;repeat' (first|with_reducible(first|refine ao (jA _ _ _) ?_|refine au (jA _ _ _) ?_|refine ao (eG _ hd) ?_|refine au (eG _ hd) ?_|refine ao (iW _ hd) ?_|refine au (iW _ hd) ?_|refine ao (kP _) ?_|refine au (kP _) ?_|refine cY ?_|refine cN ?_|refine ai (fun _=>?_) (fun _=>?_))|refine gA F210 ?_|refine gB ?_|with_reducible rfl)
  all_goals simp_all[jX,nn,fN]
  all_goals first|omega|exact sX _
 |4,_ =>
  refine eP F210 ?_;repeat' (first|with_reducible(first|refine ao (jA _ _ _) ?_|refine au (jA _ _ _) ?_|refine ao (eG _ hd) ?_|refine au (eG _ hd) ?_|refine ao (iW _ hd) ?_|refine au (iW _ hd) ?_|refine ao (kP _) ?_|refine au (kP _) ?_|refine cY ?_|refine cN ?_|refine ai (fun _=>?_) (fun _=>?_))|refine gA F210 ?_|refine gB ?_|with_reducible rfl)
  all_goals simp_all[jX,nn,fN]
  all_goals first|omega|exact sX _
 |5,_ =>
  refine eP F210 ?_;repeat' (first|with_reducible(first|refine ao (jA _ _ _) ?_|refine au (jA _ _ _) ?_|refine ao (eG _ hd) ?_|refine au (eG _ hd) ?_|refine ao (iW _ hd) ?_|refine au (iW _ hd) ?_|refine ao (kP _) ?_|refine au (kP _) ?_|refine cY ?_|refine cN ?_|refine ai (fun _=>?_) (fun _=>?_))|refine gA F210 ?_|refine gB ?_|with_reducible rfl)
  all_goals simp_all[jX,nn,fN]
  all_goals first|omega|exact sX _
 |6,_ =>
  refine eP F210 ?_;repeat' (first|with_reducible(first|refine ao (jA _ _ _) ?_|refine au (jA _ _ _) ?_|refine ao (eG _ hd) ?_|refine au (eG _ hd) ?_|refine ao (iW _ hd) ?_|refine au (iW _ hd) ?_|refine ao (kP _) ?_|refine au (kP _) ?_|refine cY ?_|refine cN ?_|refine ai (fun _=>?_) (fun _=>?_))|refine gA F210 ?_|refine gB ?_|with_reducible rfl)
  all_goals simp_all[jX,nn,fN]
  all_goals first|omega|exact sX _
 |7,_ =>
  refine eP F210 ?_;repeat' (first|with_reducible(first|refine ao (jA _ _ _) ?_|refine au (jA _ _ _) ?_|refine ao (eG _ hd) ?_|refine au (eG _ hd) ?_|refine ao (iW _ hd) ?_|refine au (iW _ hd) ?_|refine ao (kP _) ?_|refine au (kP _) ?_|refine cY ?_|refine cN ?_|refine ai (fun _=>?_) (fun _=>?_))|refine gA F210 ?_|refine gB ?_|with_reducible rfl)
  all_goals simp_all[jX,nn,fN]
  all_goals first|omega|exact sX _
 |8,_ =>
  refine eP F210 ?_;repeat' (first|with_reducible(first|refine ao (jA _ _ _) ?_|refine au (jA _ _ _) ?_|refine ao (eG _ hd) ?_|refine au (eG _ hd) ?_|refine ao (iW _ hd) ?_|refine au (iW _ hd) ?_|refine ao (kP _) ?_|refine au (kP _) ?_|refine cY ?_|refine cN ?_|refine ai (fun _=>?_) (fun _=>?_))|refine gA F210 ?_|refine gB ?_|with_reducible rfl)
  all_goals simp_all[jX,nn,fN]
  all_goals first|omega|exact sX _
theorem lJ:∀ (a:Text),Op.bytesLess a a=false
 |[]=>rfl
 |c::a=>by simp[Op.bytesLess,lJ a]
theorem Tt(a b:Datum):Cs a b=decide (qS a b<0):=by
 unfold Cs qS;by_cases h1:a.text=b.text
 ·simp only[h1,ne_eq,not_true_eq_false,if_false,xq,lJ,Bool.false_eq_true,qR,if_true,jz];by_cases h2:a.n=b.n
  ·simp only[h2,not_true_eq_false,if_false,Int.lt_irrefl,if_true];rw[Bool.eq_iff_iff];simp only[decide_eq_true_eq];repeat' split
   all_goals omega
  ·simp only[h2,not_false_eq_true,if_true];rw[Bool.eq_iff_iff];simp only[decide_eq_true_eq];repeat' split
   all_goals omega
 ·simp only[h1,ne_eq,not_false_eq_true,if_true,xq,qR];cases h:Op.bytesLess a.text b.text
  ·simp[h1]
  ·simp
theorem Tu{k:Nat}(h:1<=k/\k<=8):(fN k).single=((k:Int)==3||(k:Int)==4):=by
 match k,h with
 |1,_=>rfl
 |2,_=>rfl
 |3,_=>rfl
 |4,_=>rfl
 |5,_=>rfl
 |6,_=>rfl
 |7,_=>rfl
 |8,_=>rfl
theorem Tv{k:Nat}(h:1<=k/\k<=8):(!(fN k).ia)=((k:Int) != 1&&(k:Int) != 5&&(k:Int) != 8):=by
 match k,h with
 |1,_=>rfl
 |2,_=>rfl
 |3,_=>rfl
 |4,_=>rfl
 |5,_=>rfl
 |6,_=>rfl
 |7,_=>rfl
 |8,_=>rfl
end Go.Proofs.YtfmdaiojokniiaaGreatDoor.P
end
section
namespace Go.Proofs.YtfmdaiojokniiaaGreatDoor.P
open Go Go.ay
set_option maxRecDepth 100000
set_option maxHeartbeats 4000000
theorem Tx(s:cM):ef s=(Nm.valid s.name&&(decide (1<=s.type)&&decide (s.type<=8))&&(decide (0<=s.cy)&&decide (s.cy<=100000))&&(decide (1<=(s.data.length:Int))&&decide ((s.data.length:Int)<=8)) &&
  !((s.type==3||s.type==4)&&decide ((s.data.length:Int)>1)) && !(Nm.ia s.name&&(s.type != 1&&s.type != 5&&s.type != 8))&&mq (fN s.type.toNat) none s.data):=by
 by_cases ht:1<=s.type/\s.type<=8
 ·by_cases hn:1<=(s.data.length:Int)
  ·obtain⟨t,nO⟩:=Int.eq_ofNat_of_zero_le (a:=s.type) (by omega);have h8:1<=t/\t<=8:=by omega
   have e1:=Tu h8;have e2:=Tv h8;have e3:((s.data.length:Int) != 1)=decide ((s.data.length:Int)>1):=by
    rw[Bool.eq_iff_iff];simp;omega
   simp only[ef,nO,Int.toNat_natCast,e1,e2,e3]
  ·simp[ef,hn]
 ·simp only[ef];have:(decide (1<=s.type)&&decide (s.type<=8))=false:=by
   rw[Bool.and_eq_false_iff];simp;omega
  simp only[this,Bool.and_false,Bool.false_and]
theorem Ty(k:Int)(d:Datum)(hk:1<=k/\k<=8)(hd:d.text.length<=maxLen):aq E 210 [.int .i64 k,d.enc] (· = .bool (jX (fN k.toNat) d)):=by
 obtain⟨t,rfl⟩:=Int.eq_ofNat_of_zero_le (a:=k) (by omega);rw[Int.toNat_natCast];exact Ts t d (by omega) hd
theorem xu(s:cM)(hf:s.Fits):aq E 140 [s.enc] (· = .bool (ef s)):=by
 rw[Tx];refine eP F140 ?_;repeat' (first|with_reducible(first|refine ao (eG _ hf.name) ?_|refine au (eG _ hf.name) ?_|refine ao (jA _ _ _) ?_|refine au (jA _ _ _) ?_|refine ao (Lj _) ?_|refine au (Lj _) ?_|refine ao (iW _ hf.name) ?_|refine au (iW _ hf.name) ?_|refine cY ?_|refine cN ?_|refine ai (fun _=>?_) (fun _=>?_))|refine gA F140 ?_|refine gB ?_|with_reducible rfl)
 all_goals try simp only[List.length_map]at *
 all_goals try (simp only[Bool.not_eq_true',Bool.not_eq_false']at *;simp only[*,Bool.false_and,Bool.and_false,Bool.true_and,Bool.not_true,Bool.not_false,Bool.and_true,Bool.and_self];done)
 all_goals
  have gv:∀ {a b c d e f:Bool},(!a)=false->(!b)=false->(!c)=false->(!d)=false->e=false->f=false->∀ g:Bool,(a&&b&&c&&d && !e && !f&&g)=g:=fun h1 h2 h3 h4 h5 h6 g=>by
   simp_all
  have Ll:1<=s.type/\s.type<=8:=by simp_all
  have hl:s.data.length<=8:=by simp_all<;>omega
  rw[gv (by assumption) (by assumption) (by assumption) (by assumption) (by simp_all<;>omega) (by simp_all) _];clear gv;refine gO F140 ?_;refine I.loop (κ:=Nat) ([2,4]++rg 56 33) (fun k=>[(4,.d (.int .i64 k))]) (fun _=>[]) (fun k=>k<=s.data.length/\mq (fN s.type.toNat) none s.data=mq (fN s.type.toNat) (lH s.data k) (s.data.drop k)) (fun k=>s.data.length-k) 0 ⟨Nat.zero_le _,rfl⟩ ?_ ?_
  ·exact sZ
  ·intro k hk IH;refine I.head ab F140 2000 ?_;(conv=>whnf);refine ai (fun h5=>?_) (fun h5=>?_)
   ·have ah:k<s.data.length:=by simpa using h5
    obtain⟨d,hd⟩:=aG ah;have aF:=Ld (r:=fN s.type.toNat) hd;rw[<- hk.2]at aF;refine gO F140 ?_;refine I.bJ ab bG 2000 (by kernel_rfl) ?_;(conv=>whnf);refine eM d.enc (by omega) (kL hd) rfl ?_;refine gD ?_;refine au (Ty _ d Ll (hf.texts d (List.mem_of_getElem? hd))) ?_;refine gD ?_;refine ai (fun h6=>?_) (fun h6=>?_)
    ·refine gD ?_;refine gO F140 ?_;refine bj ?_;refine gO F140 ?_;rw[Bool.not_eq_true']at h6;rw[aF,h6,Bool.false_and,Bool.false_and]
    ·rw[Bool.not_eq_false']at h6;refine gD ?_;refine ai (fun h7=>?_) (fun h7=>?_)
     ·have bY:0<k:=by simpa using h7
      obtain⟨e,he⟩:=aG (l:=s.data) (k:=k-1) (by omega);have hw:IntKind.i64.wrap ((k:Int)-1)=((k-1:Nat):Int):=by rw[wrap64 (by omega) (by omega)];omega
      have qU:lH s.data k=some e:=by simp[lH,he];omega
      refine gD ?_;rw[hw];refine eM e.enc (by omega) (kL he) rfl ?_;refine gD ?_;refine eM d.enc (by omega) (kL hd) rfl ?_;refine gD ?_;refine au (Tr _ _) ?_;refine gD ?_;rw[Tt];refine gO F140 ?_;refine ai (fun h8=>?_) (fun h8=>?_)
      ·refine gO F140 ?_;have:decide (qS e d<0)=false:=by simpa using h8
       rw[aF,qU];dsimp only;rw[this,Bool.and_false,Bool.false_and]
      ·refine gO F140 ?_;have:decide (qS e d<0)=true:=by simpa using h8
       refine I.back (IH (k+1) ⟨by omega,by rw[aF,qU];dsimp only;rw[this,h6];rfl⟩ (by omega)) ?_;exact sZ
     ·have bY:k=0:=by simp at h7;omega
      have qU:lH s.data k=none:=by simp[lH,bY]
      refine gD ?_;refine gO F140 ?_;refine aR ?_;refine gO F140 ?_;refine I.back (IH (k+1) ⟨by omega,by rw[aF,qU,h6];rfl⟩ (by omega)) ?_;exact sZ
   ·have aA:s.data.length<=k:=by simpa using h5
    refine gO F140 ?_;rw[hk.2,List.drop_of_length_le aA];rfl
def Tz:cM:=⟨[97,46,120],1,5,[⟨[],7,0⟩]⟩
def TA:Key:=⟨3,1⟩
theorem qV:Tp Tz [120] TA 10 20=true:=by decide +kernel
def lM(t:Text):Bool:=match Nm.labels t with
 |[]=>false
 |x::_=>x==[42]
theorem CB(t:Text)(ht:t.length<=1000):aq E 139 [.str t] (· = .bool (lM t)):=by
 unfold lM;refine eP Tryz.func139 ?_
 with_reducible refine ao (zH _ ht) ?_
 refine gO Tryz.func139 ?_;cases hl:Nm.labels t with
 |nil =>
  refine aW (by simp) ?_;refine gO Tryz.func139 ?_
  with_reducible rfl
 |cons x l =>
  refine aU (by simp) ?_;refine gO Tryz.func139 ?_;refine eM (.str x) (by decide) rfl rfl ?_;refine gO Tryz.func139 ?_
  with_reducible rfl
def cmpL:List Text->List Text->Int
 |[],[]=>0
 |[],_::_ => -1
 |_::_,[]=>1
 |x::l,y::m=>if Op.bytesLess x y then -1 else if x==y then cmpL l m else 1
def bC(a b:Text):Int:=cmpL (Nm.labels a).reverse (Nm.labels b).reverse
theorem rev_at{α:Type}{l:List α}{k:Nat}(hk:k<l.length):∃ x,l[l.length-(k+1)]?=some x/\l.reverse.drop k=x::l.reverse.drop (k+1):=by
 have h1:l.length-(k+1)<l.length:=by omega
 refine⟨l[l.length-(k+1)],by simp[h1],?_⟩;rw[List.drop_eq_getElem_cons (by simpa using hk)]
 congr 1
 simp only[List.getElem_reverse]
 congr 1
 omega
theorem Gs(a b:Text)(ha:a.length<=1000)(hb:b.length<=1000):aq E 146 [.str a,.str b] (· = .int .i64 (bC a b)):=by
 have sQ:=Cf a;have sS:=Cf b;unfold bC;refine eP F146 ?_
 with_reducible refine ao (zH _ ha) ?_
 refine gO F146 ?_
 with_reducible refine ao (zH _ hb) ?_
 refine gO F146 ?_;generalize Nm.labels a=l at *;generalize Nm.labels b=m at *;refine I.loop (κ:=Nat) ([4,7,8,9]++rg 14 32) (fun k=>[(7,.d (.int .i64 (k+1)))]) (fun _=>[]) (fun k=>k<=l.length/\k<=m.length/\cmpL l.reverse m.reverse=cmpL (l.reverse.drop k) (m.reverse.drop k)) (fun k=>l.length-k) 0 ⟨Nat.zero_le _,Nat.zero_le _,rfl⟩ ?_ ?_
 ·exact sZ
 ·intro k hk IH;refine I.head ab F146 2000 ?_;(conv=>whnf);refine ai (fun h1=>?_) (fun h1=>?_)
  ·refine gO F146 ?_;refine ai (fun h2=>?_) (fun h2=>?_)
   ·have qx:k<l.length:=by simp at h1;omega
    have uY:k<m.length:=by simp at h2;omega
    obtain⟨x,hx,Gt⟩:=rev_at qx;obtain⟨y,hy,Gu⟩:=rev_at uY;have xl:IntKind.i64.wrap ((l.length:Int)-(k+1))=((l.length-(k+1):Nat):Int):=by rw[wrap64 (by omega) (by omega)];omega
    have fG:IntKind.i64.wrap ((m.length:Int)-(k+1))=((m.length-(k+1):Nat):Int):=by rw[wrap64 (by omega) (by omega)];omega
    have hc:=hk.2.2;rw[Gt,Gu]at hc;refine gO F146 ?_;simp only[List.length_map];rw[xl];refine eM (.str x) (by omega) (kL hx) rfl ?_;refine gO F146 ?_;simp only[List.length_map];rw[fG];refine eM (.str y) (by omega) (kL hy) rfl ?_;refine gO F146 ?_;refine ai (fun h3=>?_) (fun h3=>?_)
    ·refine gO F146 ?_;rw[hc,cmpL,if_pos h3]
    ·refine gO F146 ?_;refine ai (fun h4=>?_) (fun h4=>?_)
     ·refine gO F146 ?_;rw[hc,cmpL,if_neg (by rw[h3];decide),if_neg (by simp[h3]at h4;simpa using h4)]
     ·refine gO F146 ?_;refine I.back (IH (k+1) ⟨by omega,by omega,by rw[hc,cmpL,if_neg (by rw[h3];decide),if_pos (by simpa [h3]using h4)]⟩ (by omega)) ?_;exact sZ
   ·have qx:k<l.length:=by simp at h1;omega
    have uY:k=m.length:=by simp at h2;omega
    obtain⟨x,hx,Gt⟩:=rev_at qx;have hc:=hk.2.2;rw[Gt,List.drop_of_length_le (l:=m.reverse) (by simp;omega),cmpL]at hc;refine gO F146 ?_;refine aW (by simp;omega) ?_;refine gO F146 ?_;refine aU (by simp;omega) ?_;refine gO F146 ?_;rw[hc]
  ·have qx:k=l.length:=by simp at h1;omega
   have hc:=hk.2.2;rw[List.drop_of_length_le (l:=l.reverse) (by simp;omega)]at hc;refine gO F146 ?_;refine aR ?_;refine gO F146 ?_;refine ai (fun h2=>?_) (fun h2=>?_)
   ·have uY:k<m.length:=by simp at h2;omega
    obtain⟨y,hy,Gu⟩:=rev_at uY;rw[Gu,cmpL]at hc;refine gO F146 ?_;rw[hc]
   ·have uY:k=m.length:=by simp at h2;omega
    rw[List.drop_of_length_le (l:=m.reverse) (by simp;omega),cmpL]at hc;refine gO F146 ?_;refine aW (by simp;omega) ?_;refine gO F146 ?_;rw[hc]
theorem LH(a b:Text)(ha:Nm.valid a=true)(hb:Nm.valid b=true):aq E 275 [.str a,.str b] (· = .aD [.int .i64 (bC a b),.int .i64 0]):=by
 have h1:=dO ha;have h2:=dO hb;refine eP Tryz.func275 ?_
 with_reducible refine ao (eG _ (by unfold maxLen;omega)) ?_
 refine gO Tryz.func275 ?_
 with_reducible refine ao (eG _ (by unfold maxLen;omega)) ?_
 refine gO Tryz.func275 ?_;rw[ha,hb];refine aW (by decide) ?_;refine gO Tryz.func275 ?_;refine aW (by decide) ?_;refine gO Tryz.func275 ?_
 with_reducible refine ao (Gs _ _ (by omega) (by omega)) ?_
 refine gO Tryz.func275 ?_
 with_reducible rfl
def oc(a b:cM):Int:=if bC a.name b.name≠0 then bC a.name b.name else jz a.type b.type
theorem LI(a b:cM)(ha:Nm.valid a.name=true)(hb:Nm.valid b.name=true):aq E 212 [a.enc,b.enc] (· = .int .i64 (oc a b)):=by
 refine eP Tryz.func212 ?_;repeat' (first|with_reducible(first|refine ao (LH _ _ ha hb) ?_|refine au (LH _ _ ha hb) ?_|refine cY ?_|refine cN ?_|refine ai (fun _=>?_) (fun _=>?_))|refine gA Tryz.func212 ?_|refine gB ?_|with_reducible rfl)
 all_goals simp_all[oc,jz]
 all_goals omega
theorem qX{α:Type}{a b:List α}{k:Nat}{x y:α}(h:a.take k=b.take k)(ha:a[k]?=some x)(hb:b[k]?=some y)(e:x=y):a.take (k+1)=b.take (k+1):=by
 subst e;rw[cK ha,cK hb,h]
theorem qY{α:Type}{a b:List α}{k:Nat}(h:a.take k=b.take k)(ha:a.length<=k)(hb:b.length<=k):a=b:=by
 rwa [List.take_of_length_le ha,List.take_of_length_le hb]at h
theorem od{α:Type}{a b:List α}{k:Nat}{x y:α}(ha:a[k]?=some x)(hb:b[k]?=some y)(e:x≠y):a≠b:=by
 rintro rfl;rw[ha]at hb;cases hb;exact e rfl
def CC(a b:Datum):Bool:=(a.text==b.text&&(a.n==b.n&&(a.m==b.m&&true)))
theorem LJ{a b:Datum}:CC a b=true↔a=b:=by
 obtain⟨a1,a2,a3⟩:=a;obtain⟨b1,b2,b3⟩:=b;simp[CC]
theorem LK(a b:cM)(ha:a.data.length<=2147483648):aq E 116 [a.enc,b.enc] (· = .bool (decide (a=b))):=by
 obtain⟨an,at',al,ad⟩:=a;obtain⟨bn,bt,bl,bd⟩:=b;simp only at ha;refine eP F116 ?_;repeat' (first|with_reducible(first|refine cY ?_|refine cN ?_|refine ai (fun _=>?_) (fun _=>?_))|refine gA F116 ?_|refine gB ?_|with_reducible rfl)
 all_goals try (simp_all;done)
 case' refine_2.refine_2.refine_2.refine_1 =>
  rename_i h4;rw[decide_eq_false];intro h;have:=congrArg (fun s:cM=>s.data.length) h;simp only at this;simp[this]at h4
 all_goals
  rename_i h1 h2 h3 h4;simp only[bne_eq_false_iff_eq,Bool.not_eq_false',beq_iff_eq,List.length_map]at h1 h2 h3 h4;subst h1;subst h2;subst h3;have hl:ad.length=bd.length:=by omega
  rw[show decide (cM.mk an at' al ad=cM.mk an at' al bd)=decide (ad=bd) by simp];refine gO F116 ?_;refine I.loop (κ:=Nat) ([4,5]++rg 34 18) (fun k=>[(5,.d (.int .i64 k))]) (fun _=>[]) (fun k=>k<=ad.length/\ad.take k=bd.take k) (fun k=>ad.length-k) 0 ⟨Nat.zero_le _,rfl⟩ ?_ ?_
  ·exact sZ
  ·intro k hk IH;refine I.head ab F116 2000 ?_;(conv=>whnf);refine ai (fun h5=>?_) (fun h5=>?_)
   ·have ah:k<ad.length:=by simpa using h5
    obtain⟨x,hx⟩:=aG ah;obtain⟨y,hy⟩:=aG (l:=bd) (k:=k) (by omega);refine gO F116 ?_;refine I.bJ ab bG 2000 (by kernel_rfl) ?_;(conv=>whnf);refine eM x.enc (by omega) (kL hx) rfl ?_;refine gD ?_;refine eM y.enc (by omega) (kL hy) rfl ?_;refine gD ?_;refine gO F116 ?_;refine ai (fun h6=>?_) (fun h6=>?_)
    ·have aI:x≠y:=fun e=>by
      have:=LJ.2 e;simp[CC]at this;simp[this]at h6
     refine gO F116 ?_;rw[decide_eq_false (od hx hy aI)]
    ·have he:x=y:=LJ.1 (by simpa [CC]using h6);refine gO F116 ?_;refine I.back (IH (k+1) ⟨by omega,qX hk.2 hx hy he⟩ (by omega)) ?_;exact sZ
   ·have aA:k=ad.length:=by simp at h5;omega
    refine gO F116 ?_;rw[decide_eq_true (qY hk.2 (by omega) (by omega))]
theorem Uy(a b:Signed)(ha:a.set.data.length<=2147483648)(hs:a.sigs.length<=2147483648):aq E 138 [a.enc,b.enc] (· = .bool (decide (a=b))):=by
 obtain⟨CD,ad⟩:=a;obtain⟨CE,bd⟩:=b;simp only at ha hs;rw[show decide (Signed.mk CD ad=Signed.mk CE bd)=(decide (CD=CE)&&decide (ad=bd)) by simp];have LL:=LK CD CE ha;generalize decide (CD=CE)=q at LL ⊢;refine eP F138 ?_
 with_reducible refine ao (LL) ?_
 refine gO F138 ?_;cases q
 ·refine aU rfl ?_;refine gO F138 ?_;refine bj ?_;refine gO F138 ?_;rfl
 ·refine aW rfl ?_;refine gO F138 ?_;refine ai (fun h4=>?_) (fun h4=>?_)
  ·refine gO F138 ?_;rw[decide_eq_false]
   ·rfl
   ·rintro rfl;simp at h4
  ·simp only[bne_eq_false_iff_eq,List.length_map]at h4;have hl:ad.length=bd.length:=by omega
   rw[Bool.true_and];refine gO F138 ?_;refine I.loop (κ:=Nat) ([4,5]++rg 21 18) (fun k=>[(5,.d (.int .i64 k))]) (fun _=>[]) (fun k=>k<=ad.length/\ad.take k=bd.take k) (fun k=>ad.length-k) 0 ⟨Nat.zero_le _,rfl⟩ ?_ ?_
   ·exact sZ
   ·intro k hk IH;refine I.head ab F138 2000 ?_;(conv=>whnf);refine ai (fun h5=>?_) (fun h5=>?_)
    ·have ah:k<ad.length:=by simpa using h5
     obtain⟨x,hx⟩:=aG ah;obtain⟨y,hy⟩:=aG (l:=bd) (k:=k) (by omega);refine gO F138 ?_;refine I.bJ ab bG 2000 (by kernel_rfl) ?_;(conv=>whnf);refine eM x.enc (by omega) (kL hx) rfl ?_;refine gD ?_;refine eM y.enc (by omega) (kL hy) rfl ?_;refine gD ?_;refine gO F138 ?_;refine ai (fun h6=>?_) (fun h6=>?_)
     ·have aI:x≠y:=fun e=>by
       have:=Li.2 e;simp[Cr]at this;simp[this]at h6
      refine gO F138 ?_;rw[decide_eq_false (od hx hy aI)]
     ·have he:x=y:=Li.1 (by simpa [Cr]using h6);refine gO F138 ?_;refine I.back (IH (k+1) ⟨by omega,qX hk.2 hx hy he⟩ (by omega)) ?_;exact sZ
    ·have aA:k=ad.length:=by simp at h5;omega
     refine gO F138 ?_;rw[decide_eq_true (qY hk.2 (by omega) (by omega))]
structure Signed.kS(s:Signed):Prop where
 data:s.set.data.length<=2147483648
 sigs:s.sigs.length<=2147483648
theorem Uz(a b:List Signed)(hl:a.length<=2147483648)(ha:∀ s∈a,s.kS):aq E 72 [zE a,zE b] (· = .bool (decide (a=b))):=by
 refine eP F72 ?_;refine ai (fun h4=>?_) (fun h4=>?_)
 ·refine gO F72 ?_;rw[decide_eq_false];rintro rfl;simp at h4
 ·simp only[bne_eq_false_iff_eq,List.length_map]at h4;have nu:a.length=b.length:=by omega
  refine gO F72 ?_;refine I.loop (κ:=Nat) ([4,5]++rg 11 16) (fun k=>[(5,.d (.int .i64 k))]) (fun _=>[]) (fun k=>k<=a.length/\a.take k=b.take k) (fun k=>a.length-k) 0 ⟨Nat.zero_le _,rfl⟩ ?_ ?_
  ·exact sZ
  ·intro k hk IH;refine I.head ab F72 2000 ?_;(conv=>whnf);refine ai (fun h5=>?_) (fun h5=>?_)
   ·have ah:k<a.length:=by simpa using h5
    obtain⟨x,hx⟩:=aG ah;obtain⟨y,hy⟩:=aG (l:=b) (k:=k) (by omega);have gP:=ha x (List.mem_of_getElem? hx);refine gO F72 ?_;refine I.bJ ab bG 2000 (by kernel_rfl) ?_;(conv=>whnf);refine eM x.enc (by omega) (kL hx) rfl ?_;refine gD ?_;refine eM y.enc (by omega) (kL hy) rfl ?_;refine gD ?_;refine au (Uy x y gP.data gP.sigs) ?_;refine gD ?_;refine gO F72 ?_;refine ai (fun h6=>?_) (fun h6=>?_)
    ·have aI:x≠y:=by simpa using h6
     refine gO F72 ?_;rw[decide_eq_false (od hx hy aI)]
    ·have he:x=y:=by simpa using h6
     refine gO F72 ?_;refine I.back (IH (k+1) ⟨by omega,qX hk.2 hx hy he⟩ (by omega)) ?_;exact sZ
   ·have aA:k=a.length:=by simp at h5;omega
    refine gO F72 ?_;rw[decide_eq_true (qY hk.2 (by omega) (by omega))]
structure aX.kS(z:aX):Prop where
 ae:z.ae.length<=2147483648
 each:∀ s∈z.ae,s.kS
theorem UA(a b:aX)(ha:a.kS):aq E 27 [a.enc,b.enc] (· = .bool (decide (a=b))):=by
 obtain⟨aa,sa⟩:=a;obtain⟨ba,sb⟩:=b;rw[show decide (aX.mk aa sa=aX.mk ba sb)=(decide (aa=ba)&&decide (sa=sb)) by simp];have hs:=Uz sa sb ha.ae ha.each;refine eP Tryz.func27 ?_;repeat' (first|with_reducible(first|refine ao (hs) ?_|refine au (hs) ?_|refine cY ?_|refine cN ?_|refine ai (fun _=>?_) (fun _=>?_))|refine gA Tryz.func27 ?_|refine gB ?_|with_reducible rfl)
 all_goals simp_all
def chain{α:Type}(ok:α->Bool)(rel:α->α->Bool):Option α->List α->Bool
 |_,[]=>true
 |p,x::l=>ok x&&(match p with|none=>true|some q=>rel q x)&&chain ok rel (some x) l
def bL{α:Type}(l:List α)(k:Nat):Option α:=if k=0 then none else l[k-1]?
theorem uZ{α:Type}{ok:α->Bool}{rel:α->α->Bool}{l:List α}{k:Nat}{x:α}(hx:l[k]?=some x):chain ok rel (bL l k) (l.drop k)=(ok x&&(match bL l k with|none=>true|some q=>rel q x)&&chain ok rel (bL l (k+1)) (l.drop (k+1))):=by
 have hk:=aQ hx;rw[List.drop_eq_getElem_cons hk];have e1:l[k]=x:=by simpa [hk]using hx
 have e2:bL l (k+1)=some x:=by simp[bL,hx]
 rw[e1,e2];rfl
theorem qZ{α:Type}{l:List α}{k:Nat}(h0:0<k)(hk:k<=l.length):∃ q,l[k-1]?=some q/\bL l k=some q:=by
 obtain⟨q,hq⟩:=aG (l:=l) (k:=k-1) (by omega);exact⟨q,hq,by simp[bL,hq];omega⟩
def dB(aj:Text)(g0 g:da):Bool:=(g.aw==aj)&&decide (1<=g.key)&&decide (g.key<=1000000)&&decide (1<=g.jV)&&decide (g.jV<=3)&&(g.cu==g0.cu)&&(g.upto==g0.upto)&&decide (0<=g.cu)&&decide (g.cu<=g.upto)&&decide (g.upto<=20000000)
def fP(q g:da):Bool:=decide (q.key<g.key)
def jC(l:List da)(aj:Text):Bool:=decide ((l.length:Int)<=6)&&chain (dB aj (l.headD zT)) fP none l
theorem Gv{l:List da}{k:Nat}(h:k<l.length):l[0]?=some (l.headD zT):=by
 cases l with
 |nil=>simp at h
 |cons x l=>rfl
theorem Gw(l:List da)(aj:Text):aq E 217 [pF l,.str aj] (· = .bool (jC l aj)):=by
 unfold jC;have hg:∃ g0,g0=l.headD zT:=⟨_,rfl⟩;obtain⟨g0,hg⟩:=hg;rw[<- hg];refine eP F217 ?_;refine ai (fun h1=>?_) (fun h1=>?_)
 ·refine gO F217 ?_;simp only[List.length_map]at h1;rw[decide_eq_false (by simp at h1;omega),Bool.false_and]
 ·have h6:l.length<=6:=by simp at h1;omega
  rw[decide_eq_true (by omega),Bool.true_and];refine gO F217 ?_;refine I.loop (κ:=Nat) ([4,5,6]++rg 10 82) (fun k=>[(5,.d (.int .i64 k))]) (fun _=>[]) (fun k=>k<=l.length/\chain (dB aj g0) fP none l=chain (dB aj g0) fP (bL l k) (l.drop k)) (fun k=>l.length-k) 0 ⟨Nat.zero_le _,rfl⟩ ?_ ?_
  ·exact sZ
  ·intro k hk IH;refine I.head ab F217 2000 ?_;(conv=>whnf);refine ai (fun h5=>?_) (fun h5=>?_)
   ·have ah:k<l.length:=by simpa using h5
    obtain⟨x,hx⟩:=aG ah;have h0:=Gv ah;rw[<- hg]at h0;have aF:=uZ (ok:=dB aj g0) (rel:=fP) hx;rw[<- hk.2]at aF;refine gO F217 ?_;refine aB (aN hx) rfl ?_;refine gO F217 ?_;refine I.bJ ab bG 2000 (by kernel_rfl) ?_;(conv=>whnf);rcases Nat.eq_zero_or_pos k with bY|bY
    ·have dH:bL l k=none:=by simp[bL,bY]
     rw[dH]at aF;dsimp only at aF;rw[Bool.and_true]at aF;repeat' (first|with_reducible(first|refine aB (aN hx) rfl ?_|refine aB (sP h0) rfl ?_|refine cY ?_|refine cN ?_|refine ai (fun _=>?_) (fun _=>?_))|refine gA F217 ?_|refine gB ?_|with_reducible rfl)
     all_goals first
      |(have bK : dB aj g0 x=false := by clear aF hk IH hg;simp_all[dB, fP, bL]<;>(intros;omega)
        rw[aF, bK, Bool.false_and]
        done)
      |(exfalso;clear aF hk IH hg;simp_all;done)
      |skip
     all_goals
      refine gO F217 ?_;refine I.back (IH (k+1) ⟨by omega,by rw[aF,show dB aj g0 x=true by clear aF hk IH hg;simp_all[dB,fP,bL]<;>omega,Bool.true_and]⟩ (by omega)) ?_;exact sZ
    ·obtain⟨q,hq,dH⟩:=qZ bY hk.1;rw[dH]at aF;repeat' (first|with_reducible(first|refine aB (aN hx) rfl ?_|refine aB (sP h0) rfl ?_|refine aB (nh hq bY (by omega)) rfl ?_|refine cY ?_|refine cN ?_|refine ai (fun _=>?_) (fun _=>?_))|refine gA F217 ?_|refine gB ?_|with_reducible rfl)
     all_goals first
      |(have bK : (dB aj g0 x && fP q x)=false := by clear aF hk IH hg;simp_all[dB, fP, bL]<;>(intros;omega)
        rw[aF, bK, Bool.false_and]
        done)
      |(exfalso;clear aF hk IH hg;simp_all;done)
      |skip
     all_goals
      refine gO F217 ?_;refine I.back (IH (k+1) ⟨by omega,by rw[aF,show(dB aj g0 x&&fP q x)=true by clear aF hk IH hg;simp_all[dB,fP,bL]<;>omega,Bool.true_and]⟩ (by omega)) ?_;exact sZ
   ·have aA:l.length<=k:=by simpa using h5
    refine gO F217 ?_;rw[hk.2,List.drop_of_length_le aA];rfl
def va(t:Int)(aj:Bool):Bool:=if aj then t != 3&&t != 6 else t != 4&&t != 7
theorem LM(t:Int)(aj:Bool):aq E 214 [.int .i64 t,.bool aj] (· = .bool (va t aj)):=by
 refine eP Tryz.func214 ?_;repeat' (first|with_reducible(first|refine cY ?_|refine cN ?_|refine ai (fun _=>?_) (fun _=>?_))|refine gA Tryz.func214 ?_|refine gB ?_|with_reducible rfl)
 all_goals simp_all[va]
def cZ(q:bB)(s:Signed):Bool:=s.set.name==q.name&&s.set.type==q.type
def bh(l:List Signed)(q:bB):Int:=match l.findIdx? (cZ q)with
 |some i=>i
 |none => -1
theorem LN{l:List Signed}{q:bB}{k:Nat}{x:Signed}(h:∀ j y,j<k->l[j]?=some y->cZ q y=false)(hx:l[k]?=some x)(hq:cZ q x=true):bh l q=k:=by
 have:l.findIdx? (cZ q)=some k:=by
  rw[List.findIdx?_eq_some_iff_getElem];have hk:=aQ hx;refine⟨hk,?_,fun j hj=>?_⟩
  ·have:l[k]=x:=by simpa [hk]using hx
   rw[this];exact hq
  ·have:=h j l[j] hj (by simp);rw[this];decide
 rw[bh,this]
theorem UB{l:List Signed}{q:bB}(h:∀ j y,j<l.length->l[j]?=some y->cZ q y=false):bh l q = -1:=by
 have:l.findIdx? (cZ q)=none:=by
  rw[List.findIdx?_eq_none_iff];intro x hx;obtain⟨j,hj⟩:=List.getElem?_of_mem hx;exact h j x (aQ hj) hj
 rw[bh,this]
theorem LO(z:aX)(q:bB)(hl:z.ae.length<=2147483648):aq E 213 [z.enc,q.enc] (· = .int .i64 (bh z.ae q)):=by
 obtain⟨aj,l⟩:=z;simp only at hl ⊢;refine eP Tryz.func213 ?_;refine I.loop (κ:=Nat) (rg 4 32) (fun k=>[(5,.d (.int .i64 k))]) (fun _=>[]) (fun k=>k<=l.length/\∀ j y,j<k->l[j]?=some y->cZ q y=false) (fun k=>l.length-k) 0 ⟨Nat.zero_le _,fun j y h=>by omega⟩ ?_ ?_
 ·exact sZ
 ·intro k hk IH;refine I.head ab Tryz.func213 2000 ?_;(conv=>whnf);refine ai (fun h5=>?_) (fun h5=>?_)
  ·have ah:k<l.length:=by simpa using h5
   obtain⟨x,hx⟩:=aG ah;refine gO Tryz.func213 ?_;refine I.bJ ab bG 2000 (by kernel_rfl) ?_;(conv=>whnf);repeat' (first|with_reducible(first|refine aB (aN hx) rfl ?_|refine cY ?_|refine cN ?_|refine ai (fun _=>?_) (fun _=>?_))|refine gA Tryz.func213 ?_|refine gB ?_|with_reducible rfl)
   all_goals first
    |(rw[LN hk.2 hx (by simp_all[cZ])];done)
    |skip
   all_goals
    refine gO Tryz.func213 ?_;refine I.back (IH (k+1) ⟨by omega,fun j y hj hy=>?_⟩ (by omega)) ?_
    ·rcases Nat.lt_or_ge j k with h|h
     ·exact hk.2 j y h hy
     ·obtain rfl:j=k:=by omega
      rw[hx]at hy;cases hy;simp_all[cZ]
    ·exact sZ
  ·have aA:k=l.length:=by simp at h5;omega
   subst aA;refine gO Tryz.func213 ?_;rw[UB hk.2]
def xw(s:Signed):Bool := !(decide ((s.set.data.length:Int)>20)) && !(decide ((s.sigs.length:Int)>20))
def lN(z:aX):Bool:=(z.ae.take 101).all xw&&decide ((z.ae.length:Int)<=100)
theorem Gx(z:aX):aq E 34 [z.enc] (· = .bool (lN z)):=by
 obtain⟨aj,l⟩:=z;unfold lN;simp only;refine eP F34 ?_;refine I.loop (κ:=Nat) (rg 2 32) (fun k=>[(3,.d (.int .i64 k))]) (fun _=>[]) (fun k=>k<=l.length/\k<=101/\(l.take k).all xw=true) (fun k=>l.length-k) 0 ⟨Nat.zero_le _,by omega,rfl⟩ ?_ ?_
 ·exact sZ
 ·intro k hk IH;refine I.head ab F34 2000 ?_;(conv=>whnf);refine ai (fun h5=>?_) (fun h5=>?_)
  ·have ah:k<l.length:=by simpa using h5
   obtain⟨x,hx⟩:=aG ah;refine gO F34 ?_;refine ai (fun h6=>?_) (fun h6=>?_)
   ·have LP:k<=100:=by simp at h6;omega
    have dX:(l.take 101)[k]?=some x:=by rw[List.getElem?_take,if_pos (by omega)];exact hx
    refine gO F34 ?_;repeat' (first|with_reducible(first|refine aB (aN hx) rfl ?_|refine cY ?_|refine cN ?_|refine ai (fun _=>?_) (fun _=>?_))|refine gA F34 ?_|refine gB ?_|with_reducible rfl)
    all_goals first
     |(rw[di dX (by simp_all[xw]),Bool.false_and];done)
     |skip
    all_goals
     refine gO F34 ?_;refine I.back (IH (k+1) ⟨by omega,by omega,dw hk.2.2 hx (by simp_all[xw])⟩ (by omega)) ?_;exact sZ
   ·have LP:k=101:=by simp at h6;omega
    subst LP;refine gO F34 ?_;rw[hk.2.2,Bool.true_and];simp
  ·have aA:k=l.length:=by simp at h5;omega
   refine gO F34 ?_;refine aR ?_;refine gO F34 ?_;rw[show(l.take 101).all xw=true by rw[List.take_of_length_le (by omega)];exact lI hk.2.2 (by omega),Bool.true_and];simp
def ra(z:aX):Bool := !(decide (bh z.ae ⟨z.aj,4⟩<0)) && !(decide (bh z.ae ⟨z.aj,2⟩<0))&&z.ae.all fun s=>va s.set.type (s.set.name==z.aj)
theorem LQ(z:aX)(hl:z.ae.length<=2147483648):aq E 142 [z.enc] (· = .bool (ra z)):=by
 obtain⟨aj,l⟩:=z;simp only at hl;have h1:=LO ⟨aj,l⟩ ⟨aj,4⟩ hl;have h2:=LO ⟨aj,l⟩ ⟨aj,2⟩ hl;refine eP F142 ?_;repeat' (first|with_reducible(first|refine ao (h1) ?_|refine au (h1) ?_|refine ao (h2) ?_|refine au (h2) ?_|refine cY ?_|refine cN ?_|refine ai (fun _=>?_) (fun _=>?_))|refine gA F142 ?_|refine gB ?_|with_reducible rfl)
 all_goals try (simp_all[ra];done)
 all_goals
  rename_i h3 h4;simp only[ra,h3,h4,Bool.not_false,Bool.true_and];refine gO F142 ?_;refine I.loop (κ:=Nat) ([2,3]++rg 18 26) (fun k=>[(3,.d (.int .i64 k))]) (fun _=>[]) (fun k=>k<=l.length/\(l.take k).all (fun s=>va s.set.type (s.set.name==aj))=true) (fun k=>l.length-k) 0 ⟨Nat.zero_le _,rfl⟩ ?_ ?_
  ·exact sZ
  ·intro k hk IH;refine I.head ab F142 2000 ?_;(conv=>whnf);refine ai (fun h5=>?_) (fun h5=>?_)
   ·have ah:k<l.length:=by simpa using h5
    obtain⟨x,hx⟩:=aG ah;refine gO F142 ?_;refine I.bJ ab bG 2000 (by kernel_rfl) ?_;(conv=>whnf);repeat' (first|with_reducible(first|refine aB (aN hx) rfl ?_|refine ao (LM _ _) ?_|refine au (LM _ _) ?_|refine cY ?_|refine cN ?_|refine ai (fun _=>?_) (fun _=>?_))|refine gA F142 ?_|refine gB ?_|with_reducible rfl)
    all_goals first
     |(rw[di hx (by simp_all)];done)
     |skip
    all_goals
     refine gO F142 ?_;refine I.back (IH (k+1) ⟨by omega,dw hk.2 hx (by simp_all)⟩ (by omega)) ?_;exact sZ
   ·have aA:l.length<=k:=by simpa using h5
    refine gO F142 ?_;rw[lI hk.2 aA]
def mw:Text->Option Text->List Signed->Bool
 |_,_,[]=>true
 |al,p,s::l=>(match p with
   |none=>true
   |some n=>if n==s.set.name then !((s.set.name != []&&s.set.type==3)||(s.set.name != []&&(s.set.name==if s.set.type==3 then s.set.name else al)&&s.set.type != 3&&s.set.type != 8))else true)
  && mw (if s.set.type==3 then s.set.name else al) (some s.set.name) l
theorem UC{al : Text}{l : List Signed}{k : Nat}{x : Signed}(hx : l[k]?=some x) : mw al (bL (l.map (·.set.name)) k) (l.drop k)=((match bL (l.map (·.set.name)) k with
      |none => true
      |some n => if n == x.set.name then !((x.set.name != [] && x.set.type == 3) || (x.set.name != [] && (x.set.name == if x.set.type == 3 then x.set.name else al) && x.set.type != 3 && x.set.type != 8))else true)
  && mw (if x.set.type==3 then x.set.name else al) (bL (l.map (·.set.name)) (k+1)) (l.drop (k+1))):=by
 have hk:=aQ hx;rw[List.drop_eq_getElem_cons hk];have e1:l[k]=x:=by simpa [hk]using hx
 have e2:bL (l.map (·.set.name)) (k+1)=some x.set.name:=by simp[bL,hx]
 rw[e1,e2];rfl
theorem LR(z:aX)(hl:z.ae.length<=2147483648):aq E 143 [z.enc] (· = .bool (mw [] none z.ae)):=by
 obtain⟨aj,l⟩:=z;simp only at hl ⊢;refine eP F143 ?_;refine I.loop (κ:=Nat × Text) [2,3,4,5,6,7,8,9,10,11,12,13,14,15,16,17,18,19,20,21,22,23,24,25,26,27,28,29,30,31,32,33,34,35,36,37,38,39,40,41,42,43,44,45,46,47,48,49,50,51,52,53,54,55,56,57,58,59,60,61,62,63,64,65,66,67,68,69,70,71,72,73,74,75,76,77,78,79,80,81,82,83,84,85] (fun k=>[(4,.d (.int .i64 k.1)),(3,.d (.str k.2))]) (fun _=>[]) (fun k=>k.1<=l.length/\mw [] none l=mw k.2 (bL (l.map (·.set.name)) k.1) (l.drop k.1)) (fun k=>l.length-k.1) (0,[]) ⟨Nat.zero_le _,rfl⟩ ?_ ?_
 ·exact sZ
 ·rintro⟨k,al⟩ hk IH;simp only at hk;refine I.head ab F143 2000 ?_;(conv=>whnf);refine ai (fun h5=>?_) (fun h5=>?_)
  ·have ah:k<l.length:=by simpa using h5
   obtain⟨x,hx⟩:=aG ah;have aF:=UC (al:=al) hx;rw[<- hk.2]at aF;refine gO F143 ?_;refine aB (aN hx) rfl ?_;refine gO F143 ?_;refine ai (fun h6=>?_) (fun h6=>?_);all_goals
    rcases Nat.eq_zero_or_pos k with bY|bY
    ·have dH:bL (l.map (·.set.name)) k=none:=by simp[bL,bY]
     rw[dH]at aF;refine gO F143 ?_;repeat' (first|with_reducible(first|refine aB (aN hx) rfl ?_|refine cY ?_|refine cN ?_|refine ai (fun _=>?_) (fun _=>?_))|refine gA F143 ?_|refine gB ?_|with_reducible rfl)
     refine gO F143 ?_;refine I.bJ ab bG 2000 (by kernel_rfl) ?_;(conv=>whnf);repeat' (first|with_reducible(first|refine aB (aN hx) rfl ?_|refine cY ?_|refine cN ?_|refine ai (fun _=>?_) (fun _=>?_))|refine gA F143 ?_|refine gB ?_|with_reducible rfl)
     all_goals first
      |(exfalso;clear aF hk IH;simp_all;done)
      |skip
     all_goals
      refine gO F143 ?_;refine I.back (IH (k+1,if x.set.type==3 then x.set.name else al) ⟨by simp only;omega,by simp only;rw[aF];simp⟩ (by simp only;omega)) ?_;(conv=>whnf);repeat (first|exact trivial|(refine And.intro (by first|with_reducible rfl|exact congrArg (DV.int .i64) (by omega)|exact congrArg DV.str (by simp[h6])|exact congrArg (DV.int .i64) (wrap64 (by omega) (by omega))|exact congrArg (DV.int .i64) ((wrap64 (by omega) (by omega)).trans (by omega))) ?_;conv=>whnf))
    ·obtain⟨q,hq,-⟩:=qZ bY hk.1;have dH:bL (l.map (·.set.name)) k=some q.set.name:=by simp[bL,hq];omega
     rw[dH]at aF;refine gO F143 ?_;repeat' (first|with_reducible(first|refine aB (aN hx) rfl ?_|refine aB (nh hq bY (by omega)) rfl ?_|refine cY ?_|refine cN ?_|refine ai (fun _=>?_) (fun _=>?_))|refine gA F143 ?_|refine gB ?_|with_reducible rfl)
     refine gO F143 ?_;refine I.bJ ab bG 2000 (by kernel_rfl) ?_;(conv=>whnf);repeat' (first|with_reducible(first|refine aB (aN hx) rfl ?_|refine aB (nh hq bY (by omega)) rfl ?_|refine cY ?_|refine cN ?_|refine ai (fun _=>?_) (fun _=>?_))|refine gA F143 ?_|refine gB ?_|with_reducible rfl)
     all_goals first
      |(rw[aF];clear aF hk IH;simp_all;done)
      |(exfalso;clear aF hk IH;simp_all;done)
      |skip
     all_goals
      refine gO F143 ?_;refine I.back (IH (k+1,if x.set.type==3 then x.set.name else al) ⟨by simp only;omega,by simp only;rw[aF];clear aF hk IH;simp_all⟩ (by simp only;omega)) ?_;(conv=>whnf);repeat (first|exact trivial|(refine And.intro (by first|with_reducible rfl|exact congrArg (DV.int .i64) (by omega)|exact congrArg DV.str (by simp[h6])|exact congrArg (DV.int .i64) (wrap64 (by omega) (by omega))|exact congrArg (DV.int .i64) ((wrap64 (by omega) (by omega)).trans (by omega))) ?_;conv=>whnf))
  ·have aA:l.length<=k:=by simpa using h5
   refine gO F143 ?_;rw[hk.2,List.drop_of_length_le aA];rfl
def iF(aj:Text)(s:Signed):Bool:=s.set.type==2&&s.set.name != aj
def b9(aj:Text)(l:List Signed):List Text:=(l.filter (iF aj)).map (·.set.name)
theorem UD{aj:Text}{l:List Signed}{k:Nat}{x:Signed}(h:l[k]?=some x):b9 aj (l.take (k+1))=b9 aj (l.take k)++(if iF aj x then[x.set.name]else[]):=by
 rw[cK h];simp only[b9,List.filter_append,List.map_append]
 congr 1
 cases hc:iF aj x<;>simp[hc]
theorem Gy(aj:Text)(l:List Signed):(b9 aj l).length<=l.length:=by
 simp only[b9,List.length_map];exact List.length_filter_le _ _
theorem pR{aj:Text}{l:List Signed}{c:Text}(h:c∈b9 aj l):∃ s∈l,s.set.name=c/\iF aj s=true:=by
 simp only[b9,List.mem_map,List.mem_filter]at h;obtain⟨s,⟨h1,h2⟩,h3⟩:=h;exact⟨s,h1,h3,h2⟩
theorem UE(z:aX)(hl:z.ae.length<=1000000000):aq E 329 [z.enc] (· = .sl ((b9 z.aj z.ae).map .str)):=by
 obtain⟨aj,l⟩:=z;simp only at hl ⊢;refine eP Tryz.func329 ?_;refine I.wB 3 (9,1) (by decide) rfl ?_;(conv=>whnf);refine I.loop (κ:=Nat) (rg 3 31) (fun k=>[(4,.d (.int .i64 k)),(3,.own 1 1)]) (fun k=>[(1,.arr 1 (9,1) ((b9 aj (l.take k)).map .str))]) (fun k=>k<=l.length) (fun k=>l.length-k) 0 (Nat.zero_le _) ?_ ?_
 ·(conv=>whnf);repeat (first|exact trivial|(refine And.intro (by first|with_reducible rfl|exact congrArg (DV.int .i64) (by omega)|exact rfl|exact congrArg (DV.int .i64) (wrap64 (by omega) (by omega))|exact congrArg (DV.int .i64) ((wrap64 (by omega) (by omega)).trans (by omega))) ?_;conv=>whnf))
 ·intro k hk IH;have dA:=Gy aj (l.take k);rw[List.length_take]at dA;refine I.head ab Tryz.func329 2000 ?_;(conv=>whnf);refine ai (fun h5=>?_) (fun h5=>?_)
  ·have ah:k<l.length:=by simpa using h5
   obtain⟨x,hx⟩:=aG ah;have aF:=UD (aj:=aj) hx;refine gO Tryz.func329 ?_;repeat' (first|with_reducible(first|refine aB (aN hx) rfl ?_|refine cY ?_|refine cN ?_|refine ai (fun _=>?_) (fun _=>?_))|refine gA Tryz.func329 ?_|refine gB ?_|with_reducible rfl)
   all_goals first
    |(refine aV ⟨by simp;omega, by simp[DV.cells]⟩ ?_
      have hc : iF aj x=true := by simp_all[iF])
    |(have hc:iF aj x=false:=by simp_all[iF])
   all_goals
    rw[hc]at aF;refine gO Tryz.func329 ?_;refine I.back (IH (k+1) (by omega) (by omega)) ?_;(conv=>whnf);repeat (first|exact trivial|(refine sI ?_;conv=>whnf))
    refine And.intro (by rw[aF];simp) ?_;exact sZ
  ·have aA:l.length<=k:=by simpa using h5
   refine gO Tryz.func329 ?_;rw[List.take_of_length_le aA]
def kT(out:List Text)(c:Text):List Text:=match out.getLast? with
 |none=>out++[c]
 |some d=>if Nm.under c d then out else out++[c]
def fe(l:List Text):List Text:=l.foldl kT []
theorem UF{l:List Text}{k:Nat}{x:Text}(h:l[k]?=some x):fe (l.take (k+1))=kT (fe (l.take k)) x:=by
 rw[cK h,fe,List.foldl_append];rfl
theorem UG(o:List Text)(c:Text):(kT o c).length<=o.length+1:=by
 unfold kT;split
 ·simp
 ·split<;>simp
theorem LS(l:List Text):(fe l).length<=l.length:=by
 have:∀ (l o:List Text),(l.foldl kT o).length<=o.length+l.length:=by
  intro l
  induction l with
  |nil=>simp
  |cons x l ih=>intro o;have:=ih (kT o x);have:=UG o x;simp;omega
 have:=this l []
 simpa [fe]using this
theorem xx{l:List Text}:∀ c∈fe l,c∈l:=by
 have:∀ (l o:List Text),∀ c∈l.foldl kT o,c∈o\/c∈l:=by
  intro l
  induction l with
  |nil=>intro o c h;exact .inl h
  |cons x l ih =>
   intro o c h;rcases ih (kT o x) c h with h|h
   ·have:c∈o\/c=x:=by
     unfold kT at h;split at h
     ·simpa using h
     ·split at h
      ·exact .inl h
      ·simpa using h
    rcases this with h|h
    ·exact .inl h
    ·exact .inr (by simp[h])
   ·exact .inr (List.mem_cons_of_mem _ h)
 intro c h;rcases this l [] c h with h|h
 ·simp at h
 ·exact h
theorem UH(z:aX)(hl:z.ae.length<=1000000000)(hn:∀ s∈z.ae,s.set.name.length<=1000):aq E 276 [z.enc] (· = .sl ((fe (b9 z.aj z.ae)).map .str)):=by
 have ea:∀ c∈b9 z.aj z.ae,c.length<=1000:=fun c hc=>by
  obtain⟨s,h1,rfl,-⟩:=pR hc;exact hn s h1
 have dA:=Gy z.aj z.ae;refine eP F276 ?_
 with_reducible refine ao (UE z hl) ?_
 refine gO F276 ?_;generalize b9 z.aj z.ae=l at *;refine I.wB 4 (9,1) (by decide) rfl ?_;(conv=>whnf);refine I.loop (κ:=Nat) ([4,5]++rg 8 30) (fun k=>[(5,.d (.int .i64 k)),(4,.own 1 1)]) (fun k=>[(1,.arr 1 (9,1) ((fe (l.take k)).map .str))]) (fun k=>k<=l.length) (fun k=>l.length-k) 0 (Nat.zero_le _) ?_ ?_
 ·(conv=>whnf);repeat (first|exact trivial|(refine And.intro (by first|with_reducible rfl|exact congrArg (DV.int .i64) (by omega)|exact rfl|exact congrArg (DV.int .i64) (wrap64 (by omega) (by omega))|exact congrArg (DV.int .i64) ((wrap64 (by omega) (by omega)).trans (by omega))) ?_;conv=>whnf))
 ·intro k hk IH;have CF:=LS (l.take k);rw[List.length_take]at CF;have UI:∀ c∈fe (l.take k),c.length<=1000:=fun c hc=>ea c (List.mem_of_mem_take (xx c hc));refine I.head ab F276 2000 ?_;(conv=>whnf);refine ai (fun h5=>?_) (fun h5=>?_)
  ·have ah:k<l.length:=by simpa using h5
   obtain⟨x,hx⟩:=aG ah;have gP:=ea x (List.mem_of_getElem? hx);have aF:=UF hx;generalize fe (l.take k)=o at *;rcases List.eq_nil_or_concat o with rfl|⟨i,d,rfl⟩
   ·refine gO F276 ?_;refine I.bJ ab bG 2000 (by kernel_rfl) ?_;(conv=>whnf);refine aU (by simp) ?_;refine gD ?_;refine gO F276 ?_;refine bj ?_;refine gO F276 ?_;refine aB (aN hx) rfl ?_;refine gO F276 ?_;refine aV ⟨by simp,by simp[DV.cells]⟩ ?_;refine gO F276 ?_;refine I.back (IH (k+1) (by omega) (by omega)) ?_;(conv=>whnf);repeat (first|exact trivial|(refine sI ?_;conv=>whnf))
    refine And.intro (by rw[aF];simp[kT]) ?_;exact sZ
   ·simp only[List.concat_eq_append]at *;have hw:IntKind.i64.wrap ((((i++[d]).map DV.str).length:Int)-1)=(i.length:Int):=by
     rw[wrap64 (by simp) (by simp;simp at CF;omega)];simp
    have dY:((i++[d]).map DV.str)[((i.length:Nat):Int).toNat]?=some (.str d):=by simp
    have nr:=UI d (by simp);have bg:kT (i++[d]) x=if Nm.under x d then i++[d]else i++[d]++[x]:=by simp[kT]
    rw[bg]at aF;refine gO F276 ?_;refine I.bJ ab bG 2000 (by kernel_rfl) ?_;(conv=>whnf);refine aW (by simp;omega) ?_;refine gD ?_;refine aB (aN hx) rfl ?_;refine gD ?_;rw[hw];refine aV ⟨by omega,by simp;omega⟩ ?_;refine gD ?_;refine eM (.str d) (by omega) (by simp) rfl ?_;refine gD ?_;refine au (zI _ _ gP nr) ?_;refine gD ?_;cases hu:Nm.under x d
    ·rw[hu]at aF;refine gO F276 ?_;refine aU (by decide) ?_;refine gO F276 ?_;refine aB (aN hx) rfl ?_;refine gO F276 ?_;refine aV ⟨by simp;simp at CF;omega,by simp[DV.cells]⟩ ?_;refine gO F276 ?_;refine I.back (IH (k+1) (by omega) (by omega)) ?_;(conv=>whnf);repeat (first|exact trivial|(refine sI ?_;conv=>whnf))
     refine And.intro (by rw[aF];simp) ?_;exact sZ
    ·rw[hu]at aF;refine gO F276 ?_;refine aW (by decide) ?_;refine gO F276 ?_;refine I.back (IH (k+1) (by omega) (by omega)) ?_;(conv=>whnf);repeat (first|exact trivial|(refine sI ?_;conv=>whnf))
     refine And.intro (by rw[aF];simp) ?_;exact sZ
  ·have aA:l.length<=k:=by simpa using h5
   refine gO F276 ?_;rw[List.take_of_length_le aA]
def eQ(cL:List Text)(n:Text)(k:Nat):Nat:=k+((cL.drop k).takeWhile fun c=>decide (bC c n<=0)).length
theorem UJ{cL:List Text}{n c:Text}{k:Nat}(h:cL[k]?=some c)(ho:bC c n<=0):eQ cL n k=eQ cL n (k+1):=by
 have hk:=aQ h;have e1:cL[k]=c:=by simpa [hk]using h
 unfold eQ;rw[List.drop_eq_getElem_cons hk,e1,List.takeWhile_cons_of_pos (by simpa using ho)];simp;omega
theorem UK{cL:List Text}{n c:Text}{k:Nat}(h:cL[k]?=some c)(ho:¬ bC c n<=0):eQ cL n k=k:=by
 have hk:=aQ h;have e1:cL[k]=c:=by simpa [hk]using h
 unfold eQ;rw[List.drop_eq_getElem_cons hk,e1,List.takeWhile_cons_of_neg (by simpa using ho)];simp
theorem UL{cL:List Text}{n:Text}{k:Nat}(h:cL.length<=k):eQ cL n k=k:=by
 unfold eQ;rw[List.drop_of_length_le h];simp
theorem CG{cL:List Text}{n:Text}{k:Nat}(h:k<=cL.length):eQ cL n k<=cL.length:=by
 unfold eQ;have h1:((cL.drop k).takeWhile fun c=>decide (bC c n<=0)).length<=(cL.drop k).length:=(List.takeWhile_prefix _).length_le;simp at h1 ⊢;omega
def my(cL:List Text)(n:Text)(k:Nat):Text:=if k=0 then[]else match cL[k-1]? with
 |some c=>if Nm.under n c then c else[]
 |none=>[]
def nv(cL:List Text):Nat->List Text->List Text
 |_,[]=>[]
 |k,n::ns=>my cL n (eQ cL n k)::nv cL (eQ cL n k) ns
theorem LU(cL:List Text):∀ (k:Nat) (ns:List Text),(nv cL k ns).length=ns.length
 |_,[]=>rfl
 |k,n::ns=>by simp[nv,LU cL _ ns]
def iZ(z:aX):List Text:=nv (fe (b9 z.aj z.ae)) 0 (z.ae.map (·.set.name))
theorem s4(z:aX):(iZ z).length=z.ae.length:=by simp[iZ,LU]
theorem s5{α:Type}{B:List α}{e x:α}{i n:Nat}(hB:B.length=n)(h:B[i]?=some x):(B.take i++List.replicate (n-i) e).set i x=B.take (i+1)++List.replicate (n-(i+1)) e:=by
 have hi:=aQ h;rw[cK h,List.set_append_right _ _ (by simp;omega)];simp only[List.length_take,List.append_assoc]
 congr 1
 rw[show n-i=(n-(i+1))+1 by omega,List.replicate_succ];simp[Nat.min_eq_left (Nat.le_of_lt hi)]
theorem CH{α:Type}{B:List α}{e:α}{i n:Nat}(hB:B.length=n)(h:B[i]?=some e):B.take i++List.replicate (n-i) e=B.take (i+1)++List.replicate (n-(i+1)) e:=by
 have hi:=aQ h;rw[cK h,List.append_assoc]
 congr 1
 rw[show n-i=(n-(i+1))+1 by omega,List.replicate_succ];rfl
theorem s6{α:Type}{B:List α}{e:α}{i n:Nat}(hB:B.length=n)(hi:i<n):(B.take i++List.replicate (n-i) e)[i]?=some e:=by
 rw[List.getElem?_append_right (by simp;omega)];simp only[List.length_take];rw[show i-min i B.length=0 by omega];rw[List.getElem?_replicate,if_pos (by omega)]
theorem LV(z:aX)(hl:z.ae.length<=1000000)(hn:∀ s∈z.ae,s.set.name.length<=1000):aq E 215 [z.enc] (· = .sl ((iZ z).map .str)):=by
 have ea:∀ c∈fe (b9 z.aj z.ae),c.length<=1000:=fun c hc=>by
  obtain⟨s,h1,rfl,-⟩:=pR (xx c hc);exact hn s h1
 have dA:(fe (b9 z.aj z.ae)).length<=z.ae.length:=Nat.le_trans (LS _) (Gy _ _);have ie:=s4 z;have Gz:iZ z=nv (fe (b9 z.aj z.ae)) 0 (z.ae.map (·.set.name)):=rfl;generalize iZ z=B at *;refine eP F215 ?_
 with_reducible refine ao (UH z (by omega) hn) ?_
 refine gO F215 ?_;generalize fe (b9 z.aj z.ae)=cL at *;obtain⟨aj,l⟩:=z;simp only at *;refine aV ?_ ?_
 ·simp;omega
 ·refine gO F215 ?_;refine I.loop (κ:=Nat × Nat) [5,6,7,14,15,16,17,18,19,20,21,22,23,24,25,26,27,28,29,30,31,32,33,34,35,36,37,38,39,40,41,42,43,44,45,46,47,48,49,50,51,52,53,54,55,56,57,58,59,60,61] (fun k=>[(6,.d (.int .i64 k.1)),(5,.d (.int .i64 k.2)),(4,.own 1 0)]) (fun k=>[(1,.arr 0 (9,1) ((B.take k.1++List.replicate (l.length-k.1) []).map .str))]) (fun k=>k.1<=l.length/\k.2<=cL.length/\B.drop k.1=nv cL k.2 ((l.drop k.1).map (·.set.name))) (fun k=>l.length-k.1) (0,0) ⟨Nat.zero_le _,Nat.zero_le _,by simpa using Gz⟩ ?_ ?_
  ·(conv=>whnf);repeat (first|exact trivial|(refine sI ?_;conv=>whnf))
   refine And.intro (by simp) ?_;exact sZ
  ·rintro⟨i,k⟩ hk IH;simp only at hk;refine I.head ab F215 2000 ?_;(conv=>whnf);refine ai (fun h5=>?_) (fun h5=>?_)
   ·have ah:i<l.length:=by simpa using h5
    obtain⟨x,hx⟩:=aG ah;have gP:=hn x (List.mem_of_getElem? hx);have GA:(l.drop i).map (·.set.name)=x.set.name::(l.drop (i+1)).map (·.set.name):=by
     have e1:l[i]=x:=by simpa [ah]using hx
     rw[List.drop_eq_getElem_cons ah,e1];rfl
    obtain⟨-,fM,vb⟩:=hk;rw[GA,nv]at vb;have fH:B[i]?=some (my cL x.set.name (eQ cL x.set.name k)):=by
     have:=congrArg (fun l=>l[0]?) vb
     simpa using this
    have ja:B.drop (i+1)=nv cL (eQ cL x.set.name k) ((l.drop (i+1)).map (·.set.name)):=by
     have:=congrArg List.tail vb
     simpa using this
    have rf:=CG (n:=x.set.name) fM;refine gO F215 ?_;refine aB (aN hx) rfl ?_;refine gO F215 ?_;refine I.loop (κ:=Nat) ([5]++rg 28 15) (fun j=>[(5,.d (.int .i64 j))]) (fun _=>[]) (fun j=>j<=cL.length/\eQ cL x.set.name k=eQ cL x.set.name j) (fun j=>cL.length-j) k ⟨fM,rfl⟩ ?_ ?_
    ·exact sZ
    ·intro j hj oZ;have leave:∀ (Cg:eQ cL x.set.name k=j),True:=fun _=>trivial;refine I.head ab F215 2000 ?_;(conv=>whnf);refine ai (fun h6=>?_) (fun h6=>?_)
     ·have lO:j<cL.length:=by simpa using h6
      obtain⟨c,hc⟩:=aG lO;have UM:=ea c (List.mem_of_getElem? hc);refine gO F215 ?_;refine aB (aN hc) rfl ?_;refine gO F215 ?_
      with_reducible refine ao (Gs _ _ UM gP) ?_
      refine gO F215 ?_;refine ai (fun h7=>?_) (fun h7=>?_)
      ·refine gO F215 ?_;refine I.back (oZ (j+1) ⟨by omega,by rw[hj.2];exact UJ hc (by simpa using h7)⟩ (by omega)) ?_;exact sZ
      ·have GB:eQ cL x.set.name k=j:=by rw[hj.2];exact UK hc (by simpa using h7)
       rw[GB]at fH ja;refine gO F215 ?_;rcases Nat.eq_zero_or_pos j with mX|mX
       ·have jO:my cL x.set.name j=[]:=by simp[my,mX]
        rw[jO]at fH;refine aW (by simp;omega) ?_;refine gO F215 ?_;refine aR ?_;refine gO F215 ?_;refine I.back (IH (i+1,j) ⟨by simp only;omega,by simp only;omega,ja⟩ (by simp only;omega)) ?_;(conv=>whnf);repeat (first|exact trivial|(refine sI ?_;conv=>whnf))
        refine And.intro (by rw[CH ie fH]) ?_;exact sZ
       ·obtain⟨c,hc⟩:=aG (l:=cL) (k:=j-1) (by omega);have GC:=ea c (List.mem_of_getElem? hc);have jO:my cL x.set.name j=if Nm.under x.set.name c then c else[]:=by simp[my,hc];omega
        rw[jO]at fH;refine aU (by simp;omega) ?_;refine gO F215 ?_;refine aB (nh hc mX (by omega)) rfl ?_;refine gO F215 ?_
        with_reducible refine ao (zI _ _ gP GC) ?_
        refine gO F215 ?_;cases hu:Nm.under x.set.name c
        ·rw[hu]at fH;refine aR ?_;refine gO F215 ?_;refine I.back (IH (i+1,j) ⟨by simp only;omega,by simp only;omega,ja⟩ (by simp only;omega)) ?_;(conv=>whnf);repeat (first|exact trivial|(refine sI ?_;conv=>whnf))
         refine And.intro (by rw[CH ie (by simpa using fH)]) ?_;exact sZ
        ·rw[hu]at fH;refine bj ?_;refine gO F215 ?_;refine aB (nh hc mX (by omega)) rfl ?_;refine gO F215 ?_;refine aV ⟨by omega,by simp;omega⟩ ?_;refine gO F215 ?_;refine eM (.str []) (by omega) (by simp only[Int.toNat_natCast,List.getElem?_map];rw[s6 ie ah];rfl) rfl ?_;refine gO F215 ?_;refine I.back (IH (i+1,j) ⟨by simp only;omega,by simp only;omega,ja⟩ (by simp only;omega)) ?_;(conv=>whnf);repeat (first|exact trivial|(refine sI ?_;conv=>whnf))
         refine And.intro (by rw[<- s5 (e:=[]) ie (by simpa using fH)];simp[List.map_set]) ?_;exact sZ
     ·have GB:eQ cL x.set.name k=j:=by rw[hj.2];exact UL (by simpa using h6)
      rw[GB]at fH ja;refine gO F215 ?_;refine aR ?_;refine gO F215 ?_;rcases Nat.eq_zero_or_pos j with mX|mX
      ·have jO:my cL x.set.name j=[]:=by simp[my,mX]
       rw[jO]at fH;refine aW (by simp;omega) ?_;refine gO F215 ?_;refine aR ?_;refine gO F215 ?_;refine I.back (IH (i+1,j) ⟨by simp only;omega,by simp only;omega,ja⟩ (by simp only;omega)) ?_;(conv=>whnf);repeat (first|exact trivial|(refine sI ?_;conv=>whnf))
       refine And.intro (by rw[CH ie fH]) ?_;exact sZ
      ·obtain⟨c,hc⟩:=aG (l:=cL) (k:=j-1) (by omega);have GC:=ea c (List.mem_of_getElem? hc);have jO:my cL x.set.name j=if Nm.under x.set.name c then c else[]:=by simp[my,hc];omega
       rw[jO]at fH;refine aU (by simp;omega) ?_;refine gO F215 ?_;refine aB (nh hc mX (by omega)) rfl ?_;refine gO F215 ?_
       with_reducible refine ao (zI _ _ gP GC) ?_
       refine gO F215 ?_;cases hu:Nm.under x.set.name c
       ·rw[hu]at fH;refine aR ?_;refine gO F215 ?_;refine I.back (IH (i+1,j) ⟨by simp only;omega,by simp only;omega,ja⟩ (by simp only;omega)) ?_;(conv=>whnf);repeat (first|exact trivial|(refine sI ?_;conv=>whnf))
        refine And.intro (by rw[CH ie (by simpa using fH)]) ?_;exact sZ
       ·rw[hu]at fH;refine bj ?_;refine gO F215 ?_;refine aB (nh hc mX (by omega)) rfl ?_;refine gO F215 ?_;refine aV ⟨by omega,by simp;omega⟩ ?_;refine gO F215 ?_;refine eM (.str []) (by omega) (by simp only[Int.toNat_natCast,List.getElem?_map];rw[s6 ie ah];rfl) rfl ?_;refine gO F215 ?_;refine I.back (IH (i+1,j) ⟨by simp only;omega,by simp only;omega,ja⟩ (by simp only;omega)) ?_;(conv=>whnf);repeat (first|exact trivial|(refine sI ?_;conv=>whnf))
        refine And.intro (by rw[<- s5 (e:=[]) ie (by simpa using fH)];simp[List.map_set]) ?_;exact sZ
   ·have aA:l.length<=i:=by simpa using h5
    refine gO F215 ?_;simp only[show l.length-i=0 by omega,List.replicate_zero,List.append_nil];rw[List.take_of_length_le (by omega)]
theorem xy{α β:Type}{a:List α}{b:List β}{k:Nat}{x:α}{y:β}(ha:a[k]?=some x)(hb:b[k]?=some y):(a.zip b)[k]?=some (x,y):=by
 rw[List.getElem?_zip_eq_some];exact⟨ha,hb⟩
def rh(s:Signed)(b:Text):Bool:=b==[]||(s.set.type != 2&&s.set.type != 1)
def rj(z:aX):List Bool:=(z.ae.zip (iZ z)).map fun p=>rh p.1 p.2
theorem GF(z:aX):(rj z).length=z.ae.length:=by simp[rj,s4]
theorem UN(z:aX)(hl:z.ae.length<=1000000)(hn:∀ s∈z.ae,s.set.name.length<=1000):aq E 216 [z.enc] (· = .sl ((rj z).map .bool)):=by
 have ie:=s4 z;have GG:=GF z;have hO:rj z=(z.ae.zip (iZ z)).map fun p=>rh p.1 p.2:=rfl;generalize rj z=O at *;refine eP F216 ?_
 with_reducible refine ao (LV z hl hn) ?_
 refine gO F216 ?_;generalize iZ z=B at *;obtain⟨aj,l⟩:=z;simp only at *;refine aV (by simp;omega) ?_;refine gO F216 ?_;refine I.loop (κ:=Nat) ([5,6]++rg 13 30) (fun k=>[(5,.d (.int .i64 k)),(4,.own 1 0)]) (fun k=>[(1,.arr 0 (4,1) ((O.take k++List.replicate (l.length-k) false).map .bool))]) (fun k=>k<=l.length) (fun k=>l.length-k) 0 (Nat.zero_le _) ?_ ?_
 ·(conv=>whnf);repeat (first|exact trivial|(refine sI ?_;conv=>whnf))
  refine And.intro (by simp) ?_;exact sZ
 ·intro k hk IH;refine I.head ab F216 2000 ?_;(conv=>whnf);refine ai (fun h5=>?_) (fun h5=>?_)
  ·have ah:k<l.length:=by simpa using h5
   obtain⟨x,hx⟩:=aG ah;obtain⟨b,hb⟩:=aG (l:=B) (k:=k) (by omega);have LW:O[k]?=some (rh x b):=by rw[hO,List.getElem?_map,xy hx hb];rfl
   have LX:=s6 (e:=false) GG ah;have dM:=s5 (e:=false) GG LW;refine gO F216 ?_;repeat' (first|with_reducible(first|refine aB (aN hx) rfl ?_|refine aB (aN hb) rfl ?_|refine cY ?_|refine cN ?_|refine ai (fun _=>?_) (fun _=>?_))|refine gA F216 ?_|refine gB ?_|with_reducible rfl)
   all_goals
    refine aV ⟨by omega,by simp;omega⟩ ?_;refine gO F216 ?_;refine eM (.bool false) (by omega) (by simp only[Int.toNat_natCast,List.getElem?_map];rw[LX];rfl) rfl ?_;refine gO F216 ?_;refine I.back (IH (k+1) (by omega) (by omega)) ?_;(conv=>whnf);repeat (first|exact trivial|(refine sI ?_;conv=>whnf))
    refine And.intro (by rw[<- dM];simp only[Int.toNat_natCast,List.map_set];congr 2;clear dM LX LW hO IH hb;rcases b with _|⟨c,b⟩<;>simp_all[rh]) ?_;exact sZ
  ·have aA:l.length<=k:=by simpa using h5
   refine gO F216 ?_;simp only[show l.length-k=0 by omega,List.replicate_zero,List.append_nil];rw[List.take_of_length_le (by omega)]
def fo(aj:Text)(s:Signed):Bool:=ef s.set&&Nm.under s.set.name aj
def gR(q s:Signed):Bool:=decide (oc q.set s.set<0)
def oe(z:aX):Bool:=Nm.valid z.aj && !lM z.aj && !(decide ((z.ae.length:Int)>20000))&&chain (fo z.aj) gR none z.ae
theorem s7{s:cM}(h:ef s=true):Nm.valid s.name=true:=by
 simp only[ef,Bool.and_eq_true]at h;exact h.1.1.1.1.1.1
structure aX.Fits(z:aX):Prop where
 aj:z.aj.length<=maxLen
 ae:∀ s∈z.ae,s.set.Fits
theorem LY(z:aX)(hf:z.Fits):aq E 141 [z.enc] (· = .bool (oe z)):=by
 obtain⟨aj,l⟩:=z;have oJ:aj.length<=maxLen:=hf.aj;have gY:∀ s∈l,s.set.Fits:=hf.ae;unfold oe;simp only;cases hv:Nm.valid aj
 ·refine eP F141 ?_
  with_reducible refine ao (eG _ oJ) ?_
  refine gO F141 ?_;rw[hv];refine aU rfl ?_;refine gO F141 ?_;refine bj ?_;refine gO F141 ?_;refine bj ?_;refine gO F141 ?_;simp
 ·have rf:=dO hv;refine eP F141 ?_
  with_reducible refine ao (eG _ oJ) ?_
  refine gO F141 ?_;rw[hv];refine aW rfl ?_;refine gO F141 ?_
  with_reducible refine ao (CB aj (by omega)) ?_
  refine gO F141 ?_;cases hw:lM aj
  case true =>
   refine bj ?_;refine gO F141 ?_;refine bj ?_;refine gO F141 ?_;simp
  refine aR ?_;refine gO F141 ?_;refine ai (fun h3=>?_) (fun h3=>?_)
  ·refine gO F141 ?_;simp only[List.length_map]at h3;rw[h3];simp
  ·simp only[List.length_map]at h3;rw[h3];simp only[Bool.not_false,Bool.true_and];have vc:l.length<=20000:=by simp at h3;omega
   refine gO F141 ?_;refine I.loop (κ:=Nat) ([2,3,4]++rg 20 40) (fun k=>[(3,.d (.int .i64 k))]) (fun _=>[]) (fun k=>k<=l.length/\chain (fo aj) gR none l=chain (fo aj) gR (bL l k) (l.drop k)/\∀ q,bL l k=some q->ef q.set=true) (fun k=>l.length-k) 0 ⟨Nat.zero_le _,rfl,fun q h=>by simp[bL]at h⟩ ?_ ?_
   ·exact sZ
   ·intro k hk IH;refine I.head ab F141 2000 ?_;(conv=>whnf);refine ai (fun h5=>?_) (fun h5=>?_)
    ·have ah:k<l.length:=by simpa using h5
     obtain⟨x,hx⟩:=aG ah;have aF:=uZ (ok:=fo aj) (rel:=gR) hx;rw[<- hk.2.1]at aF;have og:=gY x (List.mem_of_getElem? hx);have ve:bL l (k+1)=some x:=by simp[bL,hx]
     cases hs:ef x.set
     ·refine gO F141 ?_;refine aB (aN hx) rfl ?_;refine gO F141 ?_;refine I.bJ ab bG 2000 (by kernel_rfl) ?_;(conv=>whnf);refine au (xu x.set og) ?_;refine gD ?_;rw[hs];refine aU rfl ?_;refine gD ?_;repeat' (first|with_reducible(first|refine cY ?_|refine cN ?_|refine ai (fun _=>?_) (fun _=>?_))|refine gA F141 ?_|refine gB ?_|with_reducible rfl)
      rw[aF,fo,hs];simp
     ·have cG:=s7 hs;have gP:=dO cG;refine gO F141 ?_;refine aB (aN hx) rfl ?_;refine gO F141 ?_;refine I.bJ ab bG 2000 (by kernel_rfl) ?_;(conv=>whnf);refine au (xu x.set og) ?_;refine gD ?_;rw[hs];refine aW rfl ?_;refine gD ?_;refine au (zI x.set.name aj (by omega) (by omega)) ?_;refine gD ?_;rcases Nat.eq_zero_or_pos k with bY|bY
      ·have dH:bL l k=none:=by simp[bL,bY]
       rw[dH]at aF;dsimp only at aF;rw[Bool.and_true]at aF;repeat' (first|with_reducible(first|refine cY ?_|refine cN ?_|refine ai (fun _=>?_) (fun _=>?_))|refine gA F141 ?_|refine gB ?_|with_reducible rfl)
       all_goals first
        |(have bK : fo aj x=false := by clear aF hk IH;simp_all[fo]
          rw[aF, bK, Bool.false_and]
          done)
        |(exfalso;clear aF hk IH;simp_all;done)
        |skip
       all_goals
        refine gO F141 ?_;refine I.back (IH (k+1) ⟨by omega,by rw[aF,show fo aj x=true by clear aF hk IH;simp_all[fo],Bool.true_and],fun q hq=>by rw[ve]at hq;cases hq;exact hs⟩ (by omega)) ?_;exact sZ
      ·obtain⟨q,hq,dH⟩:=qZ bY hk.1;have CI:=s7 (hk.2.2 q dH);rw[dH]at aF;repeat' (first|with_reducible(first|refine aB (nh hq bY (by omega)) rfl ?_|refine ao (LI q.set x.set CI cG) ?_|refine au (LI q.set x.set CI cG) ?_|refine cY ?_|refine cN ?_|refine ai (fun _=>?_) (fun _=>?_))|refine gA F141 ?_|refine gB ?_|with_reducible rfl)
       all_goals first
        |(have bK : (fo aj x && gR q x)=false := by clear aF hk IH;simp_all[fo, gR]
          rw[aF, bK, Bool.false_and]
          done)
        |(exfalso;clear aF hk IH;simp_all;omega)
        |skip
       all_goals
        refine gO F141 ?_;refine I.back (IH (k+1) ⟨by omega,by rw[aF,show(fo aj x&&gR q x)=true by clear aF hk IH;simp_all[fo,gR],Bool.true_and],fun q hq=>by rw[ve]at hq;cases hq;exact hs⟩ (by omega)) ?_;exact sZ
    ·have aA:l.length<=k:=by simpa using h5
     refine gO F141 ?_;rw[hk.2.1,List.drop_of_length_le aA];rfl
def pS(s:Signed)(b:Text):Bool := !(b != []&&s.set.type != 1 && !(b != []&&s.set.name==b)) && !((b != []&&s.set.name==b)&&s.set.type != 1&&s.set.type != 2&&s.set.type != 6&&s.set.type != 8) && !(s.set.type==6 && !(b != []&&s.set.name==b))
def zY(z:aX):Bool:=(z.ae.zip (iZ z)).all fun p=>pS p.1 p.2
theorem LZ(z:aX)(hl:z.ae.length<=1000000)(hn:∀ s∈z.ae,s.set.name.length<=1000):aq E 144 [z.enc] (· = .bool (zY z)):=by
 have ie:=s4 z;unfold zY;refine eP F144 ?_
 with_reducible refine ao (LV z hl hn) ?_
 refine gO F144 ?_;generalize iZ z=B at *;obtain⟨aj,l⟩:=z;simp only at *;refine I.loop (κ:=Nat) ([2,4,5,6]++rg 9 69) (fun k=>[(4,.d (.int .i64 k))]) (fun _=>[]) (fun k=>k<=l.length/\((l.zip B).take k).all (fun p=>pS p.1 p.2)=true) (fun k=>l.length-k) 0 ⟨Nat.zero_le _,rfl⟩ ?_ ?_
 ·exact sZ
 ·intro k hk IH;refine I.head ab F144 2000 ?_;(conv=>whnf);refine ai (fun h5=>?_) (fun h5=>?_)
  ·have ah:k<l.length:=by simpa using h5
   obtain⟨x,hx⟩:=aG ah;obtain⟨b,hb⟩:=aG (l:=B) (k:=k) (by omega);have hz:=xy hx hb;refine gO F144 ?_;refine aB (aN hx) rfl ?_;refine gO F144 ?_;refine I.bJ ab bG 2000 (by kernel_rfl) ?_;(conv=>whnf);repeat' (first|with_reducible(first|refine aB (aN hb) rfl ?_|refine cY ?_|refine cN ?_|refine ai (fun _=>?_) (fun _=>?_))|refine gA F144 ?_|refine gB ?_|with_reducible rfl)
   all_goals first
    |(rw[di hz (by clear hz hb hk IH;rcases b with _|⟨c,b⟩<;>simp_all[pS])];done)
    |(exfalso;clear hz hb hk IH;rcases b with _|⟨c,b⟩<;>simp_all;done)
    |skip
   all_goals
    refine gO F144 ?_;refine I.back (IH (k+1) ⟨by omega,dw hk.2 hz (by clear hz hb hk IH;rcases b with _|⟨c,b⟩<;>simp_all[pS])⟩ (by omega)) ?_;exact sZ
  ·have aA:l.length<=k:=by simpa using h5
   refine gO F144 ?_;rw[lI hk.2 (by simp;omega)]
def vf(aj:Text)(s:Signed)(o:Bool):Bool:=jC s.sigs aj && !(!o&&decide ((s.sigs.length:Int)>0))
def CJ(z:aX):Bool:=(z.ae.zip (rj z)).all fun p=>vf z.aj p.1 p.2
theorem L0(z:aX)(hl:z.ae.length<=1000000)(hn:∀ s∈z.ae,s.set.name.length<=1000):aq E 145 [z.enc] (· = .bool (CJ z)):=by
 have GG:=GF z;unfold CJ;refine eP F145 ?_
 with_reducible refine ao (UN z hl hn) ?_
 refine gO F145 ?_;generalize rj z=O at *;obtain⟨aj,l⟩:=z;simp only at *;refine I.loop (κ:=Nat) ([2,4]++rg 7 34) (fun k=>[(4,.d (.int .i64 k))]) (fun _=>[]) (fun k=>k<=l.length/\((l.zip O).take k).all (fun p=>vf aj p.1 p.2)=true) (fun k=>l.length-k) 0 ⟨Nat.zero_le _,rfl⟩ ?_ ?_
 ·exact sZ
 ·intro k hk IH;refine I.head ab F145 2000 ?_;(conv=>whnf);refine ai (fun h5=>?_) (fun h5=>?_)
  ·have ah:k<l.length:=by simpa using h5
   obtain⟨x,hx⟩:=aG ah;obtain⟨b,hb⟩:=aG (l:=O) (k:=k) (by omega);have hz:=xy hx hb;refine gO F145 ?_;refine I.bJ ab bG 2000 (by kernel_rfl) ?_;(conv=>whnf);repeat' (first|with_reducible(first|refine aB (aN hx) rfl ?_|refine aB (aN hb) rfl ?_|refine ao (Gw _ _) ?_|refine au (Gw _ _) ?_|refine cY ?_|refine cN ?_|refine ai (fun _=>?_) (fun _=>?_))|refine gA F145 ?_|refine gB ?_|with_reducible rfl)
   all_goals first
    |(rw[di hz (by clear hz hb hk IH;simp_all[vf])];done)
    |(exfalso;clear hz hb hk IH;simp_all;done)
    |skip
   all_goals
    refine gO F145 ?_;refine I.back (IH (k+1) ⟨by omega,dw hk.2 hz (by clear hz hb hk IH;simp_all[vf])⟩ (by omega)) ?_;exact sZ
  ·have aA:l.length<=k:=by simpa using h5
   refine gO F145 ?_;rw[lI hk.2 (by simp;omega)]
def eB(z:aX):Bool:=oe z&&(ra z&&(mw [] none z.ae&&(zY z&&CJ z)))
theorem CK{α:Type}{ok:α->Bool}{rel:α->α->Bool}:∀ {p:Option α} {l:List α},chain ok rel p l=true->∀ x∈l,ok x=true
 |_,[],_,x,hx=>by simp at hx
 |p,y::l,h,x,hx=>by
  simp only[chain,Bool.and_eq_true]at h;rcases List.mem_cons.1 hx with rfl|hx
  ·exact h.1.1
  ·exact CK h.2 x hx
theorem xz{z:aX}(h:oe z=true):z.ae.length<=20000/\(∀ s∈z.ae,fo z.aj s=true)/\Nm.valid z.aj=true:=by
 simp only[oe,Bool.and_eq_true]at h;refine⟨by have:=h.1.2;simp at this;omega,CK h.2,h.1.1.1⟩
theorem UO{aj:Text}{s:Signed}(h:fo aj s=true):s.set.name.length<=60:=by
 simp only[fo,Bool.and_eq_true]at h;exact dO (s7 h.1)
theorem GH(z:aX)(hf:z.Fits):aq E 75 [z.enc] (· = .bool (eB z)):=by
 unfold eB;cases h1:oe z
 ·have bW:=LY z hf;rw[h1]at bW;refine eP Tryz.func75 ?_;repeat' (first|with_reducible(first|refine ao (bW) ?_|refine au (bW) ?_|refine cY ?_|refine cN ?_|refine ai (fun _=>?_) (fun _=>?_))|refine gA Tryz.func75 ?_|refine gB ?_|with_reducible rfl)
  all_goals simp_all
 ·obtain⟨g1,g2,-⟩:=xz h1;have gl:z.ae.length<=1000000:=by omega
  have gn:∀ s∈z.ae,s.set.name.length<=1000:=fun s hs=>by have:=UO (g2 s hs);omega
  have bW:=LY z hf;rw[h1]at bW;refine eP Tryz.func75 ?_;repeat' (first|with_reducible(first|refine ao (bW) ?_|refine au (bW) ?_|refine ao (LQ z (by omega)) ?_|refine au (LQ z (by omega)) ?_|refine ao (LR z (by omega)) ?_|refine au (LR z (by omega)) ?_|refine ao (LZ z gl gn) ?_|refine au (LZ z gl gn) ?_|refine ao (L0 z gl gn) ?_|refine au (L0 z gl gn) ?_|refine cY ?_|refine cN ?_|refine ai (fun _=>?_) (fun _=>?_))|refine gA Tryz.func75 ?_|refine gB ?_|with_reducible rfl)
  all_goals simp_all
theorem L7(t:Int)(aj:Bool):aq E 245 [.int .i64 t,.bool aj] (· = .bool (va t aj)):=by
 refine eP Tryz.func245 ?_;repeat' (first|with_reducible(first|refine cY ?_|refine cN ?_|refine ai (fun _=>?_) (fun _=>?_))|refine gA Tryz.func245 ?_|refine gB ?_|with_reducible rfl)
 all_goals (cases aj<;>simp_all[va])
theorem L8(l:List da)(aj:Text):aq E 246 [pF l,.str aj] (· = .bool (jC l aj)):=by
 unfold jC;have hg:∃ g0,g0=l.headD zT:=⟨_,rfl⟩;obtain⟨g0,hg⟩:=hg;rw[<- hg];refine eP F246 ?_;refine ai (fun h1=>?_) (fun h1=>?_)
 ·refine gO F246 ?_;simp only[List.length_map]at h1;rw[decide_eq_false (by simp at h1;omega),Bool.false_and]
 ·have h6:l.length<=6:=by simp at h1;omega
  rw[decide_eq_true (by omega),Bool.true_and];refine gO F246 ?_;refine I.loop (κ:=Nat) ([4,5,6]++rg 12 76) (fun k=>[(12,.d (.int .i64 k))]) (fun _=>[]) (fun k=>k<=l.length/\chain (dB aj g0) fP none l=chain (dB aj g0) fP (bL l k) (l.drop k)) (fun k=>l.length-k) 0 ⟨Nat.zero_le _,rfl⟩ ?_ ?_
  ·exact sZ
  ·intro k hk IH;refine I.head ab F246 2000 ?_;(conv=>whnf);refine ai (fun h5=>?_) (fun h5=>?_)
   ·have ah:k<l.length:=by simpa using h5
    obtain⟨x,hx⟩:=aG ah;have h0:=Gv ah;rw[<- hg]at h0;have aF:=uZ (ok:=dB aj g0) (rel:=fP) hx;rw[<- hk.2]at aF;rcases Nat.eq_zero_or_pos k with bY|bY
    ·have dH:bL l k=none:=by simp[bL,bY]
     rw[dH]at aF;dsimp only at aF;rw[Bool.and_true]at aF;have CM:x=g0:=by subst bY;rw[hx]at h0;exact Option.some.inj h0
     refine gO F246 ?_;repeat' (first|with_reducible(first|refine aB (aN hx) rfl ?_|refine cY ?_|refine cN ?_|refine ai (fun _=>?_) (fun _=>?_))|refine gA F246 ?_|refine gB ?_|with_reducible rfl)
     all_goals first
      |(have bK : dB aj g0 x=false := by clear aF hk IH hg;simp_all[dB]<;>(intros;omega)
        rw[aF, bK, Bool.false_and]
        done)
      |skip
     refine gO F246 ?_;refine I.bJ ab bG 2000 (by kernel_rfl) ?_;(conv=>whnf);repeat' (first|with_reducible(first|refine aB (aN hx) rfl ?_|refine aB (sP h0) rfl ?_|refine cY ?_|refine cN ?_|refine ai (fun _=>?_) (fun _=>?_))|refine gA F246 ?_|refine gB ?_|with_reducible rfl)
     all_goals first
      |(exfalso;clear aF hk IH hg;simp_all;done)
      |skip
     all_goals
      refine gO F246 ?_;refine I.back (IH (k+1) ⟨by omega,by rw[aF,show dB aj g0 x=true by clear aF hk IH hg;simp_all[dB]<;>omega,Bool.true_and]⟩ (by omega)) ?_;exact sZ
    ·obtain⟨q,hq,dH⟩:=qZ bY hk.1;rw[dH]at aF;refine gO F246 ?_;repeat' (first|with_reducible(first|refine aB (aN hx) rfl ?_|refine cY ?_|refine cN ?_|refine ai (fun _=>?_) (fun _=>?_))|refine gA F246 ?_|refine gB ?_|with_reducible rfl)
     all_goals first
      |(have bK : dB aj g0 x=false := by clear aF hk IH hg;simp_all[dB]<;>(intros;omega)
        rw[aF, bK, Bool.false_and, Bool.false_and]
        done)
      |skip
     refine gO F246 ?_;refine I.bJ ab bG 2000 (by kernel_rfl) ?_;(conv=>whnf);repeat' (first|with_reducible(first|refine aB (aN hx) rfl ?_|refine aB (sP h0) rfl ?_|refine aB (nh hq bY (by omega)) rfl ?_|refine cY ?_|refine cN ?_|refine ai (fun _=>?_) (fun _=>?_))|refine gA F246 ?_|refine gB ?_|with_reducible rfl)
     all_goals first
      |(have bK : (dB aj g0 x && fP q x)=false := by clear aF hk IH hg;simp_all[dB, fP]<;>(intros;omega)
        rw[aF, bK, Bool.false_and]
        done)
      |(exfalso;clear aF hk IH hg;simp_all;omega)
      |skip
     all_goals
      refine gO F246 ?_;refine I.back (IH (k+1) ⟨by omega,by rw[aF,show(dB aj g0 x&&fP q x)=true by clear aF hk IH hg;simp_all[dB,fP]<;>omega,Bool.true_and]⟩ (by omega)) ?_;exact sZ
   ·have aA:l.length<=k:=by simpa using h5
    refine gO F246 ?_;rw[hk.2,List.drop_of_length_le aA];rfl
@[reducible] def Aa (z : aX) (b : List Text) : DV := .agg [.str z.aj, zE z.ae, .sl (b.map .str)]
theorem UZ(z:aX)(B:List Text)(hB:B.length=z.ae.length)(hl:z.ae.length<=1000000):aq E 172 [Aa z B] (· = .bool ((z.ae.zip B).all fun p=>pS p.1 p.2)):=by
 obtain⟨aj,l⟩:=z;simp only at *;refine eP Tryz.func172 ?_;refine I.loop (κ:=Nat) (rg 2 4++rg 11 39) (fun k=>[(11,.d (.int .i64 k))]) (fun _=>[]) (fun k=>k<=l.length/\((l.zip B).take k).all (fun p=>pS p.1 p.2)=true) (fun k=>l.length-k) 0 ⟨Nat.zero_le _,rfl⟩ ?_ ?_
 ·exact sZ
 ·intro k hk IH;refine I.head ab Tryz.func172 2000 ?_;(conv=>whnf);refine ai (fun h5=>?_) (fun h5=>?_)
  ·have ah:k<l.length:=by simpa using h5
   obtain⟨x,hx⟩:=aG ah;obtain⟨b,hb⟩:=aG (l:=B) (k:=k) (by omega);have hz:=xy hx hb;refine gO Tryz.func172 ?_;repeat' (first|with_reducible(first|refine aB (aN hx) rfl ?_|refine aB (aN hb) rfl ?_|refine cY ?_|refine cN ?_|refine ai (fun _=>?_) (fun _=>?_))|refine gA Tryz.func172 ?_|refine gB ?_|with_reducible rfl)
   all_goals first
    |(have bK : pS x b=false := by clear hz hb hk IH hx;obtain⟨⟨nm, ty, lf, dt⟩, sg⟩ := x;rcases b with _|⟨c, b⟩<;>simp_all[pS]<;>first|(rintro rfl;simp_all;done)|(intro h;exact absurd h.symm (by assumption))|(subst_vars;simp_all;done)|(intros;simp_all;done)
      rw[di hz bK]
      done)
    |(exfalso;clear hz hb hk IH;rcases b with _|⟨c,b⟩<;>simp_all;done)
    |skip
   all_goals
    refine gO Tryz.func172 ?_;refine I.back (IH (k+1) ⟨by omega,dw hk.2 hz (by clear hz hb hk IH hx;obtain⟨⟨nm,ty,lf,dt⟩,sg⟩:=x;rcases b with _|⟨c,b⟩<;>simp_all[pS]<;>first|(rintro rfl;simp_all;done)|(intro h;exact absurd h.symm (by assumption))|(subst_vars;simp_all;done)|(intros;simp_all;done))⟩ (by omega)) ?_;exact sZ
  ·have aA:l.length<=k:=by simpa using h5
   refine gO Tryz.func172 ?_;rw[lI hk.2 (by simp;omega)]
def s8(s:Signed)(b:Text):Bool := !(!rh s b&&decide ((s.sigs.length:Int)>0))
theorem U0(z:aX)(B:List Text)(hB:B.length=z.ae.length)(hl:z.ae.length<=1000000):aq E 173 [Aa z B] (· = .bool ((z.ae.zip B).all fun p=>s8 p.1 p.2)):=by
 obtain⟨aj,l⟩:=z;simp only at *;refine eP Tryz.func173 ?_;refine I.loop (κ:=Nat) (rg 2 4++rg 11 31) (fun k=>[(11,.d (.int .i64 k))]) (fun _=>[]) (fun k=>k<=l.length/\((l.zip B).take k).all (fun p=>s8 p.1 p.2)=true) (fun k=>l.length-k) 0 ⟨Nat.zero_le _,rfl⟩ ?_ ?_
 ·exact sZ
 ·intro k hk IH;refine I.head ab Tryz.func173 2000 ?_;(conv=>whnf);refine ai (fun h5=>?_) (fun h5=>?_)
  ·have ah:k<l.length:=by simpa using h5
   obtain⟨x,hx⟩:=aG ah;obtain⟨b,hb⟩:=aG (l:=B) (k:=k) (by omega);have hz:=xy hx hb;refine gO Tryz.func173 ?_;repeat' (first|with_reducible(first|refine aB (aN hx) rfl ?_|refine aB (aN hb) rfl ?_|refine cY ?_|refine cN ?_|refine ai (fun _=>?_) (fun _=>?_))|refine gA Tryz.func173 ?_|refine gB ?_|with_reducible rfl)
   all_goals first
    |(rw[di hz (by clear hz hb hk IH;rcases b with _|⟨c,b⟩<;>simp_all[s8,rh])];done)
    |(exfalso;clear hz hb hk IH;rcases b with _|⟨c,b⟩<;>simp_all;done)
    |skip
   all_goals
    refine gO Tryz.func173 ?_;refine I.back (IH (k+1) ⟨by omega,dw hk.2 hz (by clear hz hb hk IH;rcases b with _|⟨c,b⟩<;>simp_all[s8,rh])⟩ (by omega)) ?_;exact sZ
  ·have aA:l.length<=k:=by simpa using h5
   refine gO Tryz.func173 ?_;rw[lI hk.2 (by simp;omega)]
theorem U1(z:aX)(B:List Text)(hl:z.ae.length<=1000000):aq E 174 [Aa z B] (· = .bool (z.ae.all fun s=>jC s.sigs z.aj)):=by
 obtain⟨aj,l⟩:=z;simp only at *;refine eP Tryz.func174 ?_;refine I.loop (κ:=Nat) ([2,4]++rg 10 13) (fun k=>[(10,.d (.int .i64 k))]) (fun _=>[]) (fun k=>k<=l.length/\(l.take k).all (fun s=>jC s.sigs aj)=true) (fun k=>l.length-k) 0 ⟨Nat.zero_le _,rfl⟩ ?_ ?_
 ·exact sZ
 ·intro k hk IH;refine I.head ab Tryz.func174 2000 ?_;(conv=>whnf);refine ai (fun h5=>?_) (fun h5=>?_)
  ·have ah:k<l.length:=by simpa using h5
   obtain⟨x,hx⟩:=aG ah;refine gO Tryz.func174 ?_;repeat' (first|with_reducible(first|refine aB (aN hx) rfl ?_|refine ao (L8 _ _) ?_|refine au (L8 _ _) ?_|refine cY ?_|refine cN ?_|refine ai (fun _=>?_) (fun _=>?_))|refine gA Tryz.func174 ?_|refine gB ?_|with_reducible rfl)
   all_goals first
    |(rw[di hx (by simp_all)];done)
    |skip
   all_goals
    refine gO Tryz.func174 ?_;refine I.back (IH (k+1) ⟨by omega,dw hk.2 hx (by simp_all)⟩ (by omega)) ?_;exact sZ
  ·have aA:l.length<=k:=by simpa using h5
   refine gO Tryz.func174 ?_;rw[lI hk.2 aA]
def s9(p:Option Text)(s:Signed)(t:Option Signed):Bool:=s.set.type != 3||(p != some s.set.name&&(match t with|none=>true|some t => !(t.set.name==s.set.name&&t.set.type != 8)))
def kb:Option Text->List Signed->Bool
 |_,[]=>true
 |p,s::l=>s9 p s l.head? && kb (some s.set.name) l
theorem U2{l:List Signed}{k:Nat}{x:Signed}(hx:l[k]?=some x):kb (bL (l.map (·.set.name)) k) (l.drop k)=(s9 (bL (l.map (·.set.name)) k) x l[k+1]? && kb (bL (l.map (·.set.name)) (k+1)) (l.drop (k+1))):=by
 have hk:=aQ hx;rw[List.drop_eq_getElem_cons hk];have e1:l[k]=x:=by simpa [hk]using hx
 have e2:bL (l.map (·.set.name)) (k+1)=some x.set.name:=by simp[bL,hx]
 have e3:(l.drop (k+1)).head?=l[k+1]? := by rw[List.head?_drop]
 rw[e1,e2,kb,e3]
theorem U3(z:aX)(B:List Text)(hl:z.ae.length<=1000000):aq E 171 [Aa z B] (· = .bool (kb none z.ae)):=by
 obtain⟨aj,l⟩:=z;simp only at *;refine eP F171 ?_;refine I.loop (κ:=Nat) ([2,3,4]++rg 10 65) (fun k=>[(10,.d (.int .i64 k))]) (fun _=>[]) (fun k=>k<=l.length/\kb none l=kb (bL (l.map (·.set.name)) k) (l.drop k)) (fun k=>l.length-k) 0 ⟨Nat.zero_le _,rfl⟩ ?_ ?_
 ·exact sZ
 ·intro k hk IH;refine I.head ab F171 2000 ?_;(conv=>whnf);refine ai (fun h5=>?_) (fun h5=>?_)
  ·have ah:k<l.length:=by simpa using h5
   obtain⟨x,hx⟩:=aG ah;have aF:=U2 hx;rw[<- hk.2]at aF;have hw:IntKind.i64.wrap ((k:Int)+1)=((k+1:Nat):Int):=by rw[wrap64 (by omega) (by omega)];omega
   refine gO F171 ?_;refine aB (aN hx) rfl ?_;refine gO F171 ?_;refine ai (fun h6=>?_) (fun h6=>?_)
   ·refine gO F171 ?_;refine I.back (IH (k+1) ⟨by omega,by rw[aF];simp only[s9,h6,Bool.true_or,Bool.true_and]⟩ (by omega)) ?_;exact sZ
   ·have e1:s9 (bL (l.map (·.set.name)) k) x l[k+1]?=(bL (l.map (·.set.name)) k != some x.set.name&&(match l[k+1]? with|none=>true|some t => !(t.set.name==x.set.name&&t.set.type != 8))):=by simp only[s9,h6,Bool.false_or]
    rw[e1]at aF;clear e1;rcases Nat.eq_zero_or_pos k with bY|bY
    ·have dH:bL (l.map (·.set.name)) k=none:=by simp[bL,bY]
     rw[dH]at aF;refine gO F171 ?_;refine I.bJ ab bG 2000 (by kernel_rfl) ?_;(conv=>whnf);refine aW (by simp;omega) ?_;refine gD ?_;refine gO F171 ?_;refine aR ?_;refine gO F171 ?_;refine I.bJ ab bG 2000 (by kernel_rfl) ?_;(conv=>whnf);by_cases dz:k+1<l.length
     ·obtain⟨t,ht⟩:=aG dz;rw[ht]at aF;refine aU (by rw[hw];simp;omega) ?_;refine gD ?_;repeat' (first|with_reducible(first|refine aB (at_next ht (by omega)) rfl ?_|refine cY ?_|refine cN ?_|refine ai (fun _=>?_) (fun _=>?_))|refine gA F171 ?_|refine gB ?_|with_reducible rfl)
      all_goals first
       |(rw[aF];clear aF hk IH dH;simp_all;done)
       |skip
      all_goals
       refine gO F171 ?_;refine I.back (IH (k+1) ⟨by omega,by rw[aF];clear aF hk IH dH;simp_all⟩ (by omega)) ?_;exact sZ
     ·have ht:l[k+1]?=none:=List.getElem?_eq_none (by omega);rw[ht]at aF;refine aW (by rw[hw];simp;omega) ?_;refine gD ?_;repeat' (first|with_reducible(first|refine cY ?_|refine cN ?_|refine ai (fun _=>?_) (fun _=>?_))|refine gA F171 ?_|refine gB ?_|with_reducible rfl)
      refine gO F171 ?_;refine I.back (IH (k+1) ⟨by omega,by rw[aF];clear aF hk IH dH;simp_all⟩ (by omega)) ?_;exact sZ
    ·obtain⟨q,hq,-⟩:=qZ bY hk.1;have dH:bL (l.map (·.set.name)) k=some q.set.name:=by simp[bL,hq];omega
     rw[dH]at aF;refine gO F171 ?_;refine I.bJ ab bG 2000 (by kernel_rfl) ?_;(conv=>whnf);refine aU (by simp;omega) ?_;refine gD ?_;refine aB (nh hq bY (by omega)) rfl ?_;refine gD ?_;refine gO F171 ?_;refine ai (fun h7=>?_) (fun h7=>?_)
     ·refine gO F171 ?_;rw[aF];clear aF hk IH dH;simp_all
     ·refine gO F171 ?_;refine I.bJ ab bG 2000 (by kernel_rfl) ?_;(conv=>whnf);by_cases dz:k+1<l.length
      ·obtain⟨t,ht⟩:=aG dz;rw[ht]at aF;refine aU (by rw[hw];simp;omega) ?_;refine gD ?_;repeat' (first|with_reducible(first|refine aB (at_next ht (by omega)) rfl ?_|refine cY ?_|refine cN ?_|refine ai (fun _=>?_) (fun _=>?_))|refine gA F171 ?_|refine gB ?_|with_reducible rfl)
       all_goals first
        |(rw[aF];clear aF hk IH dH;simp_all;done)
        |skip
       all_goals
        refine gO F171 ?_;refine I.back (IH (k+1) ⟨by omega,by rw[aF];clear aF hk IH dH;simp_all⟩ (by omega)) ?_;exact sZ
      ·have ht:l[k+1]?=none:=List.getElem?_eq_none (by omega);rw[ht]at aF;refine aW (by rw[hw];simp;omega) ?_;refine gD ?_;repeat' (first|with_reducible(first|refine cY ?_|refine cN ?_|refine ai (fun _=>?_) (fun _=>?_))|refine gA F171 ?_|refine gB ?_|with_reducible rfl)
       refine gO F171 ?_;refine I.back (IH (k+1) ⟨by omega,by rw[aF];clear aF hk IH dH;simp_all⟩ (by omega)) ?_;exact sZ
  ·have aA:l.length<=k:=by simpa using h5
   refine gO F171 ?_;rw[hk.2,List.drop_of_length_le aA];rfl
theorem L9(c d:UInt8):c<d\/c=d\/d<c:=by
 rcases Nat.lt_trichotomy c.toNat d.toNat with h|h|h
 ·exact .inl (UInt8.lt_iff_toNat_lt.2 h)
 ·exact .inr (.inl (UInt8.toNat_inj.1 h))
 ·exact .inr (.inr (UInt8.lt_iff_toNat_lt.2 h))
theorem GI{c d:UInt8}{a b:Text}:Op.bytesLess (c::a) (d::b)=true↔c<d\/(c=d/\Op.bytesLess a b=true):=by
 simp[Op.bytesLess]
theorem GJ:∀ {a b c:Text},Op.bytesLess a b=true->Op.bytesLess b c=true->Op.bytesLess a c=true
 |_,[],_,h,_=>by simp[Op.bytesLess]at h
 |_,_::_,[],_,h=>by simp[Op.bytesLess]at h
 |[],_::_,_::_,_,_=>by simp[Op.bytesLess]
 |x::a,y::b,z::c,h,k=>by
  rw[GI]at h k ⊢;rcases h with h|⟨rfl,h⟩
  ·rcases k with k|⟨rfl,k⟩
   ·exact .inl (UInt8.lt_trans h k)
   ·exact .inl h
  ·rcases k with k|⟨rfl,k⟩
   ·exact .inl k
   ·exact .inr ⟨rfl,GJ h k⟩
theorem Ma:∀ (a b:Text),Op.bytesLess a b=true\/a=b\/Op.bytesLess b a=true
 |[],[] => .inr (.inl rfl)
 |[],_::_ => .inl (by simp[Op.bytesLess])
 |_::_,[] => .inr (.inr (by simp[Op.bytesLess]))
 |c::a,d::b=>by
  rw[GI,GI];rcases L9 c d with h|rfl|h
  ·exact .inl (.inl h)
  ·rcases Ma a b with h|rfl|h
   ·exact .inl (.inr ⟨rfl,h⟩)
   ·exact .inr (.inl rfl)
   ·exact .inr (.inr (.inr ⟨rfl,h⟩))
  ·exact .inr (.inr (.inl h))
theorem GK{a b:Text}(h:Op.bytesLess a b=true):Op.bytesLess b a=false:=by
 rw[<- Bool.not_eq_true];intro k;have:=GJ h k;rw[lJ]at this;cases this
theorem Mb{a b:Text}(h:Op.bytesLess a b=true):a≠b:=by
 rintro rfl;rw[lJ]at h;cases h
theorem Mc:∀ (a b:Text),Lib.compareBytes a b=if Op.bytesLess a b then -1 else if a==b then 0 else 1
 |[],[]=>by simp[Lib.compareBytes,Op.bytesLess]
 |[],_::_=>by simp[Lib.compareBytes,Op.bytesLess]
 |_::_,[]=>by simp[Lib.compareBytes,Op.bytesLess]
 |c::a,d::b=>by
  simp only[Lib.compareBytes,Op.bytesLess];rcases L9 c d with h|rfl|h
  ·simp[h]
  ·simp[Mc a b]
  ·have h1:¬ c<d:=UInt8.not_lt.2 (UInt8.le_of_lt h);have h2:¬ c=d:=by rintro rfl;exact absurd h (by simp)
   simp[h,h1,h2]
theorem rq(x y:Text)(l m:List Text):(Op.bytesLess x y=true/\cmpL (x::l) (y::m) = -1)\/(x=y/\cmpL (x::l) (y::m)=cmpL l m)\/(Op.bytesLess y x=true/\cmpL (x::l) (y::m)=1):=by
 rcases Ma x y with h|rfl|h
 ·exact .inl ⟨h,by simp[cmpL,h]⟩
 ·exact .inr (.inl ⟨rfl,by simp[cmpL,lJ]⟩)
 ·exact .inr (.inr ⟨h,by simp[cmpL,GK h,(Mb h).symm]⟩)
theorem Md:∀ (l:List Text),cmpL l l=0
 |[]=>rfl
 |x::l=>by simp[cmpL,lJ,Md l]
theorem Me:∀ {l m:List Text},cmpL l m=0->l=m
 |[],[],_=>rfl
 |[],_::_,h=>by simp[cmpL]at h
 |_::_,[],h=>by simp[cmpL]at h
 |x::l,y::m,h=>by
  rcases rq x y l m with⟨-,e⟩|⟨rfl,e⟩|⟨-,e⟩
  ·rw[e]at h;cases h
  ·rw[e]at h;rw[Me h]
  ·rw[e]at h;cases h
theorem Mf:∀ (l m:List Text),cmpL m l = - cmpL l m
 |[],[]=>rfl
 |[],_::_=>rfl
 |_::_,[]=>rfl
 |x::l,y::m=>by
  rcases rq x y l m with⟨h,e⟩|⟨rfl,e⟩|⟨h,e⟩
  ·rw[e];simp[cmpL,GK h,(Mb h).symm]
  ·rw[e,<- Mf l m];simp[cmpL,lJ]
  ·rw[e];simp[cmpL,h]
theorem Mg:∀ {a b c:List Text},cmpL a b<0->cmpL b c<0->cmpL a c<0
 |[],[],_,h,_=>by simp[cmpL]at h
 |_::_,[],_,h,_=>by simp[cmpL]at h
 |_,_::_,[],_,h=>by simp[cmpL]at h
 |[],_::_,_::_,_,_=>by simp[cmpL]
 |x::a,y::b,z::c,h,k=>by
  rcases rq x y a b with⟨h1,e1⟩|⟨rfl,e1⟩|⟨h1,e1⟩
  ·rcases rq y z b c with⟨h2,e2⟩|⟨rfl,e2⟩|⟨h2,e2⟩
   ·simp[cmpL,GJ h1 h2]
   ·simp[cmpL,h1]
   ·rw[e2]at k;simp at k
  ·rcases rq x z b c with⟨h2,e2⟩|⟨rfl,e2⟩|⟨h2,e2⟩
   ·simp[cmpL,h2]
   ·rw[e1]at h;rw[e2]at k;have:=Mg h k;rcases rq x x a c with⟨h3,-⟩|⟨-,e3⟩|⟨h3,-⟩
    ·rw[lJ]at h3;cases h3
    ·rw[e3];exact this
    ·rw[lJ]at h3;cases h3
   ·rw[e2]at k;simp at k
  ·rw[e1]at h;simp at h
theorem Mh:∀ {c m n:List Text},cmpL c m<=0->cmpL m n<=0->c <+: n->c <+: m
 |[],_,_,_,_,_=>List.nil_prefix
 |_::_,[],_,h,_,_=>by simp[cmpL]at h
 |_::_,_::_,[],_,_,h=>by simp at h
 |x::c,y::m,z::n,h,k,hp=>by
  rw[List.cons_prefix_cons]at hp;obtain⟨rfl,hp⟩:=hp;rcases rq x y c m with⟨h1,e1⟩|⟨rfl,e1⟩|⟨h1,e1⟩
  ·rcases rq y x m n with⟨h2,e2⟩|⟨rfl,e2⟩|⟨h2,e2⟩
   ·have:=GK h1;rw[h2]at this;cases this
   ·rw[lJ]at h1;cases h1
   ·rw[e2]at k;simp at k
  ·rcases rq x x m n with⟨h2,-⟩|⟨-,e2⟩|⟨h2,-⟩
   ·rw[lJ]at h2;cases h2
   ·rw[List.cons_prefix_cons];rw[e1]at h;rw[e2]at k;exact⟨rfl,Mh h k hp⟩
   ·rw[lJ]at h2;cases h2
  ·rw[e1]at h;simp at h
theorem Mi:∀ {c n:List Text},c <+: n->cmpL c n<=0
 |[],[],_=>by simp[cmpL]
 |[],_::_,_=>by simp[cmpL]
 |_::_,[],h=>by simp at h
 |x::c,y::n,h=>by
  rw[List.cons_prefix_cons]at h;obtain⟨rfl,h⟩:=h;simp only[cmpL,lJ,Bool.false_eq_true,if_false,beq_self_eq_true,if_true];exact Mi h
theorem o3(a:Text):bC a a=0:=Md _
theorem pT{a b:Text}(h:bC a b=0):a=b:=S3 (List.reverse_inj.1 (Me h))
theorem Ab(a b:Text):bC b a = - bC a b:=Mf _ _
theorem Ac{a b c:Text}(h:bC a b<0)(k:bC b c<0):bC a c<0:=Mg h k
theorem zM{s z:Text}:Nm.under s z=true↔(Nm.labels z).reverse <+: (Nm.labels s).reverse:=by
 simp[Nm.under,List.reverse_prefix]
theorem xE{c m n:Text}(h:bC c m<=0)(k:bC m n<=0)(hp:Nm.under n c=true):Nm.under m c=true:=zM.2 (Mh h k (zM.1 hp))
theorem Ad{c n:Text}(h:Nm.under n c=true):bC c n<=0:=Mi (zM.1 h)
set_option maxHeartbeats 1000000 in
open Go.RowKit in
theorem U4(a b:ByteArray)(w:World):Calls Tryz.prog 357 #[.string a,.string b] w fun e w'=>e=.returned (.int .i64 (Lib.compareBytes a.data.toList b.data.toList))/\w'=w:=by
  go_enter Tryz.func357,Tryz.ntmps357
  go_wp2
  rw[run_callFunc_extern Tryz.func361 (by kernel_rfl) (by kernel_rfl) (by kernel_rfl) (e:=Extern.BytealgCompare.compare) (by kernel_rfl),Lib.run_compareString];simp only[Result.andThen];rw[Oper.upon_value]
  go_wp2
  go_ret
  exact⟨rfl,rfl⟩
theorem U5(a b:Text):aq E 357 [.str a,.str b] (· = .int .i64 (Lib.compareBytes a b)):=by
 unfold aq;refine⟨⟨_,Tryz.func357,rfl,by decide⟩,fun az w vs _ _ ⟨hl,hv⟩=>?_⟩;obtain⟨u,v,rfl⟩:∃ u v,vs=[u,v]:=by
  match vs,hl with
  |[u,v],_=>exact⟨u,v,rfl⟩
 have h1:=hv 0 (.str a) u rfl rfl;have h2:=hv 1 (.str b) v rfl rfl;cases h1;cases h2;refine(U4 ⟨a.toArray⟩ ⟨b.toArray⟩ w).mono fun e w' ⟨h1,h2⟩=>⟨_,_,h1,rfl,?_,h2 ▸ Ext.refl w⟩
 simpa using VD.int _ _
theorem U6(a b:Text):aq E 341 [.str a,.str b] (· = .int .i64 (Lib.compareBytes a b)):=by
 have c1:=U5 a b;refine eP Tryz.func341 ?_;refine ao (c1) ?_;refine gO Tryz.func341 ?_
 with_reducible rfl
def PS(more:Bool)(rest:Text)(R:List Text):Prop:=if more then(Nm.split rest).reverse=R else R=[]
theorem U7(t:Text):ar E 340 [] [.d (.str t)] (fun x h=>x=.fn (.func 356) [] [.ptr 1 0,.ptr 0 0]/\h=[.cells [.d (.str t)],.cells [.d (.bool (t != [46]))]]):=by
 refine ar.run ab (fn:=Tryz.f340) Tryz.func340 (body:=Tryz.f340.body.getD .skip) rfl (by decide) 2000 rfl ?_;(conv=>whnf);exact⟨rfl,rfl⟩
theorem U8(rest:Text):ar E 356 [.cells [.d (.bool false)],.cells [.d (.str rest)]] [.ptr 0 0,.ptr 1 0] (fun x h=>x=.aD [.d (.str []),.d (.bool false)]/\h=[.cells [.d (.bool false)],.cells [.d (.str rest)]]):=by
 refine ar.run ab (fn:=Tryz.f356) Tryz.func356 (body:=Tryz.f356.body.getD .skip) rfl (by decide) 2000 rfl ?_;(conv=>whnf);refine aU (by decide) ?_;refine gO F356 ?_;exact⟨rfl,rfl⟩
theorem U9(rest:Text)(hl:rest.length<=60){y:Text}{R:List Text}(h:PS true rest (y::R)):ar E 356 [.cells [.d (.bool true)],.cells [.d (.str rest)]] [.ptr 0 0,.ptr 1 0] (fun x h=>x=.aD [.d (.str y),.d (.bool true)]/\∃ m r,h=[.cells [.d (.bool m)],.cells [.d (.str r)]]/\PS m r R/\r.length<=60):=by
 have c1:=Cl rest (by unfold maxLen;omega);obtain⟨i,x,P,e1,e2,e3,e4,e5,e6,e7⟩:=Cm rest;have hw:IntKind.i64.wrap (i+1)=i+1:=wrap64 (by omega) (by omega);rw[e1]at c1;refine ar.run ab (fn:=Tryz.f356) Tryz.func356 (body:=Tryz.f356.body.getD .skip) rfl (by decide) 2000 rfl ?_;(conv=>whnf);refine aW (by decide) ?_;refine gO F356 ?_;refine ao (c1) ?_;refine gO F356 ?_;refine aV ⟨by rw[hw];simp;omega,by rw[hw];simp;omega,by simp⟩ ?_;refine gO F356 ?_;rw[hw];simp only[Option.getD_none,Option.getD_some,Int.toNat_natCast,List.take_length,e4];have hR:x=y/\P.reverse=R:=by
  have:(Nm.split rest).reverse=y::R:=h;rw[e5]at this
  simpa using this
 obtain⟨rfl,rfl⟩:=hR;refine ai (fun h5=>?_) (fun h5=>?_)
 ·refine gO F356 ?_;rw[e6 (of_decide_eq_true h5)];exact⟨rfl,false,rest,rfl,rfl,hl⟩
 ·have h5:0<=i:=by simpa using h5
  refine gO F356 ?_;refine aV ⟨by simp,by simp;omega,by simp;omega⟩ ?_;refine gO F356 ?_;refine⟨rfl,true,rest.take i.toNat,rfl,?_,by simp;omega⟩;rw[e7 h5];rfl
theorem GL(a b:Text)(ha:Nm.valid a=true)(hb:Nm.valid b=true):aq E 298 [.str a,.str b] (· = .aD [.int .i64 (bC a b),.int .i64 0]):=by
 have c1:=uT a (pt (by have:=dO ha;omega));have c2:=uT b (pt (by have:=dO hb;omega));rw[ha]at c1;rw[hb]at c2;have sQ:=dO ha;have sS:=dO hb;refine eP F298 ?_;refine ao (c1) ?_;refine gO F298 ?_;refine aR ?_;refine gO F298 ?_;refine ao (c2) ?_;refine gO F298 ?_;refine aR ?_;refine gO F298 ?_;refine ai (fun h3=>?_) (fun h3=>?_)
 ·obtain rfl:a=b:=by simpa using h3
  refine gO F298 ?_;rw[o3]
 have aI:a≠b:=by simpa using h3
 refine gO F298 ?_;refine wV (U7 b) rfl ?_;refine gO F298 ?_;refine I.rangeFunc (aS rfl) Tryz.func233 rfl (by decide) rfl (fun ll d tt=>?_);refine gO F233 ?_;refine ai (fun h4=>?_) (fun h4=>?_)
 ·obtain rfl:a=[46]:=by simpa using h4
  refine gO F233 ?_;refine I.kN ab F233 rfl rfl rfl rfl (fun e=>nomatch e) ?_;(conv=>whnf);refine gO F298 ?_;refine I.mo ab F298 rfl rfl rfl rfl rfl ?_;have:bC [46] b = -1:=by
   have h0:=fun h=>aI (pT (a:=[46]) (b:=b) h);unfold bC at h0 ⊢;rw[show(Nm.labels [46]).reverse=[]from rfl]at h0 ⊢;cases h5:(Nm.labels b).reverse with
   |nil=>rw[h5]at h0;exact absurd rfl h0
   |cons z R=>rfl
  rw[this];rfl
 have hr:a≠[46]:=by simpa using h4
 refine gO F233 ?_;refine I.loop (κ:=Text × Bool × Text × List Text) [4,5,9,10,11,12,13,14,15,16,17,18,19,20,21,22,23,24] (fun x=>[(4,.d (.str x.1))]) (fun x=>[(2,.cells [.d (.str x.2.2.1)]),(3,.cells [.d (.bool x.2.1)])]) (fun x=>x.1.length<=60/\x.2.2.1.length<=60/\PS x.2.1 x.2.2.1 x.2.2.2/\bC a b=cmpL (Nm.split x.1).reverse x.2.2.2) (fun x=>x.1.length) (a,b != [46],b,(Nm.labels b).reverse) ⟨sQ,sS,by by_cases h:b=[46]<;>simp[PS,Nm.labels,h],by simp[bC,Nm.labels,hr]⟩ ?_ ?_
 ·exact sZ
 rintro⟨rest,more,rb,R⟩ ⟨k1,k2,k3,k4⟩ IH;simp only at k1 k2 k3 k4;obtain⟨i,x,P,e1,e2,e3,e4,e5,e6,e7⟩:=Cm rest;have c1:=Cl rest (by unfold maxLen;omega);have hw:IntKind.i64.wrap (i+1)=i+1:=wrap64 (by omega) (by omega);rw[e5,List.reverse_append,List.reverse_singleton,List.singleton_append]at k4;rw[e1]at c1;refine I.head ab F233 2000 ?_;(conv=>whnf);refine ao (c1) ?_;refine gO F233 ?_;refine aV ⟨by rw[hw];simp;omega,by rw[hw];simp;omega,by simp⟩ ?_;refine gO F233 ?_;rw[hw];simp only[Option.getD_none,Option.getD_some,Int.toNat_natCast,List.take_length,e4];refine I.yield 0 rfl rfl rfl (aS rfl) (ml (aS rfl)) rfl ?_;(conv=>whnf);refine gO F298 ?_;refine I.begin 0 rfl rfl rfl ?_;(conv=>whnf);refine gO F298 ?_;cases R with
 |nil =>
  obtain rfl:more=false:=by
   cases more
   ·rfl
   ·exact absurd (List.reverse_eq_nil_iff.1 k3) (Nm.n' rb)
  with_reducible refine aO (U8 rb) ?_
  refine gO F298 ?_;refine bj ?_;refine gO F298 ?_;refine I.Ci 0 rfl rfl rfl ?_;(conv=>whnf);refine gO F233 ?_;refine aU (by decide) ?_;refine gO F233 ?_;refine bj ?_;refine gO F233 ?_;refine I.kN ab F233 rfl rfl rfl rfl (fun e=>nomatch e) ?_;(conv=>whnf);refine gO F298 ?_;refine I.mo ab F298 rfl rfl rfl rfl rfl ?_;rw[k4];rfl
 |cons y R =>
  obtain rfl:more=true:=by
   cases more
   ·exact absurd k3 (by simp[PS])
   ·rfl
  with_reducible refine jv (U9 rb k2 k3) ?_
  rintro r h1 ⟨rfl,m,rr,rfl,q1,q2⟩;have c3:=U6 x y;rw[Mc]at c3;refine gO F298 ?_;refine aR ?_;refine gO F298 ?_;refine ao (c3) ?_;refine gO F298 ?_;by_cases ni:x=y
  ·subst ni;rw[lJ];refine aW (by simp) ?_;refine gO F298 ?_;refine I.pM 0 rfl rfl rfl ?_;(conv=>whnf);refine gO F233 ?_;refine aW (by decide) ?_;refine gO F233 ?_;have k5:bC a b=cmpL P.reverse R:=by rw[k4];simp[cmpL,lJ]
   refine ai (fun h5=>?_) (fun h5=>?_)
   ·refine gO F233 ?_;refine I.kN ab F233 rfl rfl rfl rfl (fun e=>nomatch e) ?_;(conv=>whnf);refine gO F298 ?_;refine I.mo ab F298 rfl rfl rfl rfl rfl ?_;rw[e6 (by simpa using h5)]at k5;have:bC a b = -1:=by
     cases R with
     |nil=>exact absurd (pT k5) aI
     |cons z R=>exact k5
    rw[this];rfl
   ·have h5:0<=i:=by simpa using h5
    refine gO F233 ?_;refine aV ⟨by simp,by simp;omega,by simp;omega⟩ ?_;refine gO F233 ?_;simp only[Option.getD_none,Option.getD_some,Int.toNat_zero,List.drop_zero];refine I.back (IH (rest.take i.toNat,m,rr,R) ⟨by simp;omega,q2,q1,by simp only;rw[k5,e7 h5]⟩ (by simp;omega)) ?_;exact sZ
  ·refine aU (by split<;>simp[ni]) ?_;refine gO F298 ?_;refine I.Ci 0 rfl rfl rfl ?_;(conv=>whnf);refine gO F233 ?_;refine aU (by decide) ?_;refine gO F233 ?_;refine bj ?_;refine gO F233 ?_;refine I.kN ab F233 rfl rfl rfl rfl (fun e=>nomatch e) ?_;(conv=>whnf);refine gO F298 ?_;refine I.mo ab F298 rfl rfl rfl rfl rfl ?_;have:bC a b=if Op.bytesLess x y=true then -1 else if (x==y)=true then 0 else 1:=by
    rw[k4,cmpL];split
    ·rfl
    ·simp[ni]
   rw[this];rfl
def oh(a:Text)(s:Int)(b:Text)(t:Int):Int:=if a≠b then bC a b else jz s t
theorem Mj(a:Text)(s:Int)(b:Text)(t:Int)(ha:Nm.valid a=true)(hb:Nm.valid b=true):aq E 244 [.str a,.int .i64 s,.str b,.int .i64 t] (· = .int .i64 (oh a s b t)):=by
 refine eP Tryz.func244 ?_;repeat' (first|with_reducible(first|refine ao (GL _ _ ha hb) ?_|refine au (GL _ _ ha hb) ?_|refine ao (Cn _ _) ?_|refine au (Cn _ _) ?_|refine cY ?_|refine cN ?_|refine ai (fun _=>?_) (fun _=>?_))|refine gA Tryz.func244 ?_|refine gB ?_|with_reducible rfl)
 all_goals simp_all[oh]
theorem xF(a b:cM):oh a.name a.type b.name b.type=oc a b:=by
 unfold oh oc;by_cases h:a.name=b.name
 ·simp[h,o3]
 ·have:bC a.name b.name≠0:=fun e=>h (pT e);simp[h,this]
def vh(s:Signed)(q:bB):Int:=oh s.set.name s.set.type q.name q.type
theorem U'{a b:Int}:jz a b=0↔a=b:=by
 unfold jz;split
 ·omega
 ·split<;>omega
theorem CN{s:Signed}{q:bB}:(vh s q==0)=cZ q s:=by
 rw[Bool.eq_iff_iff,beq_iff_eq];unfold vh oh cZ;by_cases h:s.set.name=q.name
 ·simp[h,U']
 ·have:bC s.set.name q.name≠0:=fun e=>h (pT e);simp[h,this]
def gg(l:List Signed):Prop:=∀ (i j:Nat) (x y:Signed),i<j->l[i]?=some x->l[j]?=some y->oc x.set y.set<0
theorem Va{a b c:Int}(h:jz a b<0)(k:jz b c<0):jz a c<0:=by
 unfold jz at *;repeat' split at h
 all_goals first|omega|skip
 repeat' split at k
 all_goals first|omega|skip
 repeat' split
 all_goals omega
theorem GM{a b c:Text}{s t u:Int}(h:oh a s b t<0)(k:oh b t c u<0):oh a s c u<0:=by
 unfold oh at *;by_cases e1:a=b
 ·subst e1;simp only[ne_eq,not_true_eq_false,if_false]at h;by_cases e2:a=c
  ·subst e2;simp only[ne_eq,not_true_eq_false,if_false]at k ⊢;exact Va h k
  ·simp only[ne_eq,e2,not_false_eq_true,if_true]at k ⊢;exact k
 ·simp only[ne_eq,e1,not_false_eq_true,if_true]at h;by_cases e2:b=c
  ·subst e2;simp only[ne_eq,e1,not_false_eq_true,if_true];exact h
  ·simp only[ne_eq,e2,not_false_eq_true,if_true]at k;have:=Ac h k;have e3:a≠c:=by
    rintro rfl;rw[o3]at this;omega
   simp only[ne_eq,e3,not_false_eq_true,if_true];exact this
theorem Mk(s:Signed)(q:bB)(hs:Nm.valid s.set.name=true)(hq:Nm.valid q.name=true):aq E 290 [s.enc,q.enc] (· = .int .i64 (vh s q)):=by
 refine eP Tryz.func290 ?_
 with_reducible refine ao (Mj _ _ _ _ hs hq) ?_
 refine gO Tryz.func290 ?_;rfl
theorem Ml{i j:Nat}(h:i+j<=4294967296):IntKind.i64.wrap (lu .shr .u64 (IntKind.u64.wrap (IntKind.i64.wrap ((i:Int)+j))) (Int.toNat 1))=(((i+j) / 2:Nat):Int):=by
 rw[wrap64 (n:=(i:Int)+j) (by omega) (by omega)];have e1:IntKind.u64.wrap ((i:Int)+j)=(i:Int)+j:=by
  simp[IntKind.wrap,IntKind.signed,IntKind.bits];omega
 rw[e1];have e2:lu .shr .u64 ((i:Int)+j) (Int.toNat 1)=(((i+j) / 2:Nat):Int):=by
  show((i:Int)+j).fdiv (2 ^ 1)=_;rw[Int.fdiv_eq_ediv_of_nonneg _ (by decide)];omega
 rw[e2,wrap64 (by omega) (by omega)]
theorem Vb(l:List Signed)(q:bB)(hl:l.length<=1000000)(hv:∀ s∈l,Nm.valid s.set.name=true)(hq:Nm.valid q.name=true)(hs:gg l) :
  ar E 289 [] [.d (zE l),.d q.enc,.fn (.func 290) [] []] (fun a b=>(∃ i:Nat,i<=l.length/\a=.aD [.d (.int .i64 i),.d (.bool (l.any (cZ q)))]/\∀ j x,l[j]?=some x->cZ q x=true->j=i)/\b=[.cells [.d (.str q.name),.d (.int .i64 q.type)]]):=by
 refine ar.run ab (fn:=Tryz.f289) Tryz.func289 (body:=Tryz.f289.body.getD .skip) rfl (by decide) 2000 rfl ?_;(conv=>whnf);refine I.loop (κ:=Nat × Nat) [9,10,11,15,16,17,18,19,20,21,22,23,24,25,26,27,28,29,30,31,32,33,34] (fun k=>[(9,.d (.int .i64 k.1)),(10,.d (.int .i64 k.2))]) (fun _=>[]) (fun k=>k.1<=k.2/\k.2<=l.length/\(∀ m x,m<k.1->l[m]?=some x->vh x q<0)/\(∀ m x,k.2<=m->l[m]?=some x->¬ vh x q<0)) (fun k=>k.2-k.1) (0,l.length) ⟨Nat.zero_le _,Nat.le_refl _,fun m x h=>by omega,fun m x h hx=>by have:=aQ hx;omega⟩ ?_ ?_
 ·(conv=>whnf);repeat (first|exact trivial|(refine And.intro (by first|with_reducible rfl|exact congrArg (DV.int .i64) (by omega)|exact congrArg (DV.int .i64) (by simp)|exact congrArg (DV.int .i64) (wrap64 (by omega) (by omega))|exact congrArg (DV.int .i64) ((wrap64 (by omega) (by omega)).trans (by omega))) ?_;conv=>whnf))
 ·rintro⟨i,j⟩ hk IH;obtain⟨k1,k2,k3,k4⟩:=hk;simp only at k1 k2 k3 k4;refine I.head ab F289 2000 ?_;(conv=>whnf);refine ai (fun h5=>?_) (fun h5=>?_)
  ·have ah:i<j:=by simpa using h5
   obtain⟨x,hx⟩:=aG (l:=l) (k:=(i+j) / 2) (by omega);have cG:=hv x (List.mem_of_getElem? hx);have Ae:=Ml (i:=i) (j:=j) (by omega);refine gO F289 ?_;refine aV (by decide) ?_;refine gO F289 ?_;refine I.bJ ab bG 2000 (by kernel_rfl) ?_;(conv=>whnf);rw[show IntKind.i64.wrap (lu .shr .u64 (IntKind.u64.wrap (IntKind.i64.wrap (((i,j).fst:Int)+((i,j).snd:Int)))) (Int.toNat 1))=(((i+j) / 2:Nat):Int)from Ae];refine aB (aN hx) rfl ?_;refine gD ?_;refine au (Mk x q cG hq) ?_;refine gD ?_;refine gO F289 ?_;refine ai (fun h6=>?_) (fun h6=>?_)
   ·have hc:vh x q<0:=by simpa using h6
    refine gO F289 ?_;refine I.back (IH ((i+j) / 2+1,j) ⟨by simp only;omega,k2,fun m y hm hy=>?_,k4⟩ (by simp only;omega)) ?_
    ·simp only at hm;rcases Nat.lt_or_ge m ((i+j) / 2)with h|h
     ·have h1:=hs m ((i+j) / 2) y x h hy hx;rw[<- xF]at h1;exact GM h1 hc
     ·obtain rfl:m=(i+j) / 2:=by omega
      rw[hx]at hy;cases hy;exact hc
    ·exact sZ
   ·have hc:¬ vh x q<0:=by simpa using h6
    refine gO F289 ?_;refine I.back (IH (i,(i+j) / 2) ⟨by simp only;omega,by simp only;omega,k3,fun m y hm hy=>?_⟩ (by simp only;omega)) ?_
    ·simp only at hm;rcases Nat.lt_or_ge ((i+j) / 2) m with h|h
     ·intro Vc;have h1:=hs ((i+j) / 2) m x y h hx hy;rw[<- xF]at h1;exact hc (GM h1 Vc)
     ·obtain rfl:m=(i+j) / 2:=by omega
      rw[hx]at hy;cases hy;exact hc
    ·exact sZ
  ·have aA:i=j:=by simp at h5;omega
   subst aA;have only:∀ m y,l[m]?=some y->cZ q y=true->m=i:=fun m y hy ha=>by
    rw[<- CN,beq_iff_eq]at ha;rcases Nat.lt_trichotomy m i with h|h|h
    ·have:=k3 m y h hy;omega
    ·exact h
    ·obtain⟨x,hx⟩:=aG (l:=l) (k:=i) (by have:=aQ hy;omega);have h1:=hs i m x y h hx hy;rw[<- xF]at h1;have h2:=k4 i x (Nat.le_refl _) hx;have h3:oh x.set.name x.set.type q.name q.type<0:=by
      have e:y.set.name=q.name/\y.set.type=q.type:=by
       have:cZ q y=true:=by rw[<- CN,beq_iff_eq];exact ha
       simpa [cZ]using this
      rw[e.1,e.2]at h1;exact h1
     exact absurd h3 h2
   rcases Nat.lt_or_ge i l.length with hi|hi
   ·obtain⟨x,hx⟩:=aG hi;have cG:=hv x (List.mem_of_getElem? hx);have GN:l.any (cZ q)=cZ q x:=by
     cases ha:cZ q x
     ·rw[<- Bool.not_eq_true,List.any_eq_true];rintro⟨y,hy,Af⟩;obtain⟨m,hm⟩:=List.getElem?_of_mem hy;obtain rfl:=only m y hm Af;rw[hx]at hm;cases hm;rw[ha]at Af;cases Af
     ·rw[List.any_eq_true];exact⟨x,List.mem_of_getElem? hx,ha⟩
    refine gO F289 ?_;refine I.bJ ab bG 2000 (by kernel_rfl) ?_;(conv=>whnf);refine aU (by simp;omega) ?_;refine gD ?_;refine aB (aN hx) rfl ?_;refine gD ?_;refine au (Mk x q cG hq) ?_;refine gD ?_;refine gO F289 ?_;exact⟨⟨i,by omega,by rw[GN,<- CN],only⟩,rfl⟩
   ·have GN:l.any (cZ q)=false:=by
     rw[<- Bool.not_eq_true,List.any_eq_true];rintro⟨y,hy,Af⟩;obtain⟨m,hm⟩:=List.getElem?_of_mem hy;obtain rfl:=only m y hm Af;have:=aQ hm;omega
    refine gO F289 ?_;refine I.bJ ab bG 2000 (by kernel_rfl) ?_;(conv=>whnf);refine aW (by simp;omega) ?_;refine gD ?_;refine gO F289 ?_;exact⟨⟨i,by omega,by rw[GN],only⟩,rfl⟩
theorem GO(z:aX)(q:bB)(hl:z.ae.length<=1000000)(hv:∀ s∈z.ae,Nm.valid s.set.name=true)(hq:Nm.valid q.name=true)(hs:gg z.ae) :
  aq E 235 [z.enc,q.enc] (fun r=>∃ i:Nat,i<=z.ae.length/\r=.aD [.int .i64 i,.bool (z.ae.any (cZ q))]/\∀ j x,z.ae[j]?=some x->cZ q x=true->j=i):=by
 refine eP Tryz.func235 ?_;refine jv (Vb z.ae q hl hv hq hs) ?_;rintro r h1 ⟨⟨i,hi,rfl,ho⟩,rfl⟩;refine gO Tryz.func235 ?_;exact⟨i,hi,rfl,ho⟩
theorem GP{t:Text}(h:Nm.valid t=true):lM t=Nm.ia t:=by
 unfold lM Nm.labels;by_cases hr:t=[46]
 ·subst hr;rfl
 ·rw[if_neg hr];have hp:Nm.parts (Nm.split t)=true:=by
   simp only[Nm.valid,Bool.or_eq_true,decide_eq_true_eq,Bool.and_eq_true]at h;rcases h with h|h
   ·exact absurd h hr
   ·exact h.2
  cases t with
  |nil=>rfl
  |cons c r =>
   by_cases hc:c=46
   ·subst hc;simp[Nm.split,Nm.parts,Nm.label]at hp
   ·obtain⟨x,u,h1,h2⟩:=Nm.pG c r hc;rw[h2]at hp ⊢;simp only[Nm.parts,Bool.and_eq_true,Bool.or_eq_true]at hp;show(c::x==[42])=(c==42);rcases hp.2.1 with hl|hl
    ·have h0:Nm.pH (c::x) 0=true:=by
      simp only[Nm.label,decide_eq_true_eq]at hl;exact hl.2.2 0 (by simp)
     have aI:(c==42)=false:=by
      rw[<- Bool.not_eq_true];intro e;have:c=42:=by simpa using e
      subst this;simp[Nm.pH,Nm.FI]at h0
     have Vd:c≠42:=by simpa using aI
     rw[aI];simp[Vd]
    ·have:c::x=[42]:=by simpa using hl
     injection this with e1 e2;subst e1;subst e2;rfl
theorem CO{s z:Text}(hs:Nm.valid s=true)(hz:Nm.valid z=true):Nm.mn s z=Nm.under s z:=by simp[Nm.mn,hs,hz]
theorem Mm(z:aX)(hf:z.Fits):aq E 168 [z.enc] (· = .bool (oe z)):=by
 obtain⟨aj,l⟩:=z;have oJ:aj.length<=maxLen:=hf.aj;have gY:∀ s∈l,s.set.Fits:=hf.ae;unfold oe;simp only;cases hv:Nm.valid aj
 ·refine eP F168 ?_
  with_reducible refine ao (gG _ oJ) ?_
  refine gO F168 ?_;rw[hv];refine aU rfl ?_;refine gO F168 ?_;refine bj ?_;refine gO F168 ?_;refine bj ?_;refine gO F168 ?_;simp
 ·have rf:=dO hv;rw[GP hv];refine eP F168 ?_
  with_reducible refine ao (gG _ oJ) ?_
  refine gO F168 ?_;rw[hv];refine aW rfl ?_;refine gO F168 ?_
  with_reducible refine ao (Co _ _) ?_
  refine gO F168 ?_;rw[show preB aj _=Nm.ia aj from K6 aj];cases hw:Nm.ia aj
  case true =>
   refine bj ?_;refine gO F168 ?_;refine bj ?_;refine gO F168 ?_;simp
  refine aR ?_;refine gO F168 ?_;refine ai (fun h3=>?_) (fun h3=>?_)
  ·refine gO F168 ?_;simp only[List.length_map]at h3;rw[h3];simp
  ·simp only[List.length_map]at h3;rw[h3];simp only[Bool.not_false,Bool.true_and];have vc:l.length<=20000:=by simp at h3;omega
   refine gO F168 ?_;refine I.loop (κ:=Nat) (rg 2 6++rg 30 44) (fun k=>[(30,.d (.int .i64 k))]) (fun _=>[]) (fun k=>k<=l.length/\chain (fo aj) gR none l=chain (fo aj) gR (bL l k) (l.drop k)/\∀ q,bL l k=some q->ef q.set=true) (fun k=>l.length-k) 0 ⟨Nat.zero_le _,rfl,fun q h=>by simp[bL]at h⟩ ?_ ?_
   ·exact sZ
   ·intro k hk IH;refine I.head ab F168 2000 ?_;(conv=>whnf);refine ai (fun h5=>?_) (fun h5=>?_)
    ·have ah:k<l.length:=by simpa using h5
     obtain⟨x,hx⟩:=aG ah;have aF:=uZ (ok:=fo aj) (rel:=gR) hx;rw[<- hk.2.1]at aF;have og:=gY x (List.mem_of_getElem? hx);have ve:bL l (k+1)=some x:=by simp[bL,hx]
     cases hs:ef x.set
     ·refine gO F168 ?_;refine aB (aN hx) rfl ?_;refine gO F168 ?_
      with_reducible refine ao (sU x.set og) ?_
      refine gO F168 ?_;rw[hs];refine aU rfl ?_;refine gO F168 ?_;rw[aF,fo,hs];simp
     ·have cG:=s7 hs;have gP:=dO cG;have ru:=uU x.set.name aj (by unfold maxLen;omega) oJ;rw[CO cG hv]at ru;refine gO F168 ?_;refine aB (aN hx) rfl ?_;refine gO F168 ?_
      with_reducible refine ao (sU x.set og) ?_
      refine gO F168 ?_;rw[hs];refine aW rfl ?_;refine gO F168 ?_
      with_reducible refine ao (ru) ?_
      refine gO F168 ?_;cases hu:Nm.under x.set.name aj
      ·refine aU rfl ?_;refine gO F168 ?_;rw[aF,fo,hu];simp
      ·have aM:fo aj x=true:=by simp[fo,hs,hu]
       refine aW rfl ?_;refine gO F168 ?_;rcases Nat.eq_zero_or_pos k with bY|bY
       ·have dH:bL l k=none:=by simp[bL,bY]
        rw[dH]at aF;dsimp only at aF;rw[Bool.and_true,aM,Bool.true_and]at aF;refine aU (by simp[bY]) ?_;refine gO F168 ?_;refine I.back (IH (k+1) ⟨by omega,aF,fun q hq=>by rw[ve]at hq;cases hq;exact hs⟩ (by omega)) ?_;exact sZ
       ·obtain⟨q,hq,dH⟩:=qZ bY hk.1;have CI:=s7 (hk.2.2 q dH);rw[dH]at aF;dsimp only at aF;rw[aM,Bool.true_and]at aF;have hc:=Mj q.set.name q.set.type x.set.name x.set.type CI cG;rw[xF]at hc;refine aW (by simp;omega) ?_;refine gO F168 ?_;refine aB (nh hq bY (by omega)) rfl ?_;refine gO F168 ?_
        with_reducible refine ao (hc) ?_
        refine gO F168 ?_;refine ai (fun h8=>?_) (fun h8=>?_)
        ·have hb:gR q x=false:=by simp at h8;simp[gR];omega
         refine gO F168 ?_;rw[aF,hb,Bool.false_and]
        ·have hb:gR q x=true:=by simp at h8;simp[gR];omega
         refine gO F168 ?_;refine I.back (IH (k+1) ⟨by omega,by rw[aF,hb,Bool.true_and],fun q hq=>by rw[ve]at hq;cases hq;exact hs⟩ (by omega)) ?_;exact sZ
    ·have aA:l.length<=k:=by simpa using h5
     refine gO F168 ?_;rw[hk.2.1,List.drop_of_length_le aA];rfl
theorem Mn{l:List Signed}{q:bB}:l.any (cZ q) = !(decide (bh l q<0)):=by
 unfold bh;cases h:l.findIdx? (cZ q)with
 |none =>
  have h1:=List.findIdx?_eq_none_iff.1 h;have:l.any (cZ q)=false:=by
   rw[<- Bool.not_eq_true,List.any_eq_true];rintro⟨x,hx,ha⟩;rw[h1 x hx]at ha;cases ha
  rw[this];rfl
 |some i =>
  obtain⟨hi,ha,-⟩:=List.findIdx?_eq_some_iff_getElem.1 h;have:l.any (cZ q)=true:=List.any_eq_true.2 ⟨_,List.getElem_mem hi,ha⟩;rw[this];simp
theorem Ve(z:aX)(hl:z.ae.length<=1000000)(hv:∀ s∈z.ae,Nm.valid s.set.name=true)(hq:Nm.valid z.aj=true)(hs:gg z.ae):aq E 169 [z.enc] (· = .bool (ra z)):=by
 have f1:=GO z ⟨z.aj,4⟩ hl hv hq hs;have f2:=GO z ⟨z.aj,2⟩ hl hv hq hs;obtain⟨aj,l⟩:=z;simp only at *;unfold ra;simp only[<- Mn];refine eP F169 ?_;refine I.mg ?_;refine I.run ab F169 2000 ?_;(conv=>whnf);refine aU (by decide) ?_;refine gO F169 ?_;refine eM (.int .i64 4) (by decide) rfl rfl ?_;refine gO F169 ?_
 with_reducible refine wU (f1) ?_
 rintro r ⟨i,-,rfl,-⟩;refine gO F169 ?_;cases h1:l.any (cZ ⟨aj,4⟩)
 ·refine aU rfl ?_;refine gO F169 ?_;rfl
 refine aW rfl ?_;refine gO F169 ?_;refine I.again ?_;refine I.run ab F169 2000 ?_;(conv=>whnf);refine aU (by decide) ?_;refine gO F169 ?_;refine eM (.int .i64 2) (by decide) rfl rfl ?_;refine gO F169 ?_
 with_reducible refine wU (f2) ?_
 rintro r ⟨j,-,rfl,-⟩;refine gO F169 ?_;cases h2:l.any (cZ ⟨aj,2⟩)
 ·refine aU rfl ?_;refine gO F169 ?_;rfl
 refine aW rfl ?_;refine gO F169 ?_;refine I.again ?_;refine I.run ab F169 2000 ?_;(conv=>whnf);refine aW (by decide) ?_;refine gO F169 ?_;simp only[Bool.true_and];refine I.loop (κ:=Nat) ([2,8]++rg 32 17) (fun k=>[(32,.d (.int .i64 k))]) (fun _=>[]) (fun k=>k<=l.length/\(l.take k).all (fun s=>va s.set.type (s.set.name==aj))=true) (fun k=>l.length-k) 0 ⟨Nat.zero_le _,rfl⟩ ?_ ?_
 ·exact sZ
 ·intro k hk IH;refine I.head ab F169 2000 ?_;(conv=>whnf);refine ai (fun h5=>?_) (fun h5=>?_)
  ·have ah:k<l.length:=by simpa using h5
   obtain⟨x,hx⟩:=aG ah;refine gO F169 ?_;repeat' (first|with_reducible(first|refine aB (aN hx) rfl ?_|refine ao (L7 _ _) ?_|refine au (L7 _ _) ?_|refine cY ?_|refine cN ?_|refine ai (fun _=>?_) (fun _=>?_))|refine gA F169 ?_|refine gB ?_|with_reducible rfl)
   all_goals first
    |(rw[di hx (by simp_all)];done)
    |skip
   all_goals
    refine gO F169 ?_;refine I.back (IH (k+1) ⟨by omega,dw hk.2 hx (by simp_all)⟩ (by omega)) ?_;exact sZ
  ·have aA:l.length<=k:=by simpa using h5
   refine gO F169 ?_;rw[lI hk.2 aA]
def ta(aj:Text)(l:List Signed):List (DV × DV):=l.foldl (fun es s=>if iF aj s then bU (.str s.set.name) (.bool true) es else es) []
theorem Vf{aj:Text}{l:List Signed}{k:Nat}{x:Signed}(h:l[k]?=some x):ta aj (l.take (k+1))=if iF aj x then bU (.str x.set.name) (.bool true) (ta aj (l.take k))else ta aj (l.take k):=by
 rw[cK h,ta,List.foldl_append];rfl
theorem CP(a b:Text):eE (.str a) (.str b)=(a==b):=rfl
def StrKeys(es:List (DV × DV)):Prop:=∀ p∈es,∃ s,p.1=DV.str s
theorem Mo{n:Text}{v:DV}:∀ {es:List (DV × DV)},StrKeys es->StrKeys (bU (.str n) v es)
 |[],_,p,hp=>by simp[bU]at hp;subst hp;exact⟨_,rfl⟩
 |q::es,h,p,hp=>by
  unfold bU at hp;split at hp
  ·rcases List.mem_cons.1 hp with rfl|hp
   ·exact⟨_,rfl⟩
   ·exact h p (List.mem_cons_of_mem _ hp)
  ·rcases List.mem_cons.1 hp with rfl|hp
   ·exact h _ (List.mem_cons_self ..)
   ·exact Mo (fun r hr=>h r (List.mem_cons_of_mem _ hr)) p hp
theorem Mp{n m:Text}{v:DV}:∀ {es:List (DV × DV)},StrKeys es->findD (.str m) (bU (.str n) v es)=if m==n then some v else findD (.str m) es
 |[],_=>by simp[bU,findD,CP]
 |q::es,h=>by
  obtain⟨s,hs⟩:=h q (List.mem_cons_self ..);obtain⟨q1,q2⟩:=q;simp only at hs;subst hs;unfold bU;simp only[CP];by_cases e:n=s
  ·subst e;simp only[beq_self_eq_true,if_true,findD,CP];by_cases e2:m=n
   ·simp[e2]
   ·simp[e2]
  ·have ih:=Mp (n:=n) (m:=m) (v:=v) (es:=es) (fun r hr=>h r (List.mem_cons_of_mem _ hr));have e':(n==s)=false:=by simpa using e
   simp only[e',Bool.false_eq_true,if_false,findD,CP,ih];by_cases e2:m=s
   ·subst e2;have:(m==n)=false:=by simpa using fun h=>e h.symm
    simp[this]
   ·simp[e2]
theorem GQ(aj:Text)(l:List Signed):StrKeys (ta aj l)/\∀ n,findD (.str n) (ta aj l)=if (b9 aj l).contains n then some (.bool true)else none:=by
 have main:∀ (l:List Signed) (es:List (DV × DV)) (C:List Text),StrKeys es->(∀ n,findD (.str n) es=if C.contains n then some (.bool true)else none) ->
   StrKeys (l.foldl (fun es s=>if iF aj s then bU (.str s.set.name) (.bool true) es else es) es)/\∀ n,findD (.str n) (l.foldl (fun es s=>if iF aj s then bU (.str s.set.name) (.bool true) es else es) es)=if (C++b9 aj l).contains n then some (.bool true)else none:=by
  intro l
  induction l with
  |nil=>intro es C h1 h2;exact⟨h1,by simpa [b9]using h2⟩
  |cons s l ih =>
   intro es C h1 h2;cases hc:iF aj s
   ·have e:b9 aj (s::l)=b9 aj l:=by simp[b9,hc]
    simp only[List.foldl_cons,hc,Bool.false_eq_true,if_false,e];exact ih es C h1 h2
   ·have e:b9 aj (s::l)=s.set.name::b9 aj l:=by simp[b9,hc]
    simp only[List.foldl_cons,hc,if_true,e]
    have:=ih (bU (.str s.set.name) (.bool true) es) (C++[s.set.name]) (Mo h1) (fun n=>by
     rw[Mp h1,h2 n];by_cases h:n=s.set.name
     ·simp[h]
     ·simp[h])
    simpa using this
 have:=main l [] [] (fun p hp=>by simp at hp) (fun n=>by simp[findD])
 simpa [ta]using this
def gH(C:List Text)(cut n:Text):Text:=if (if cut != [] && !Nm.under n cut then[]else cut)==[]&&C.contains n then n else(if cut != [] && !Nm.under n cut then[]else cut)
def pU(C:List Text):Text->List Text->List Text
 |_,[]=>[]
 |cut,n::ns=>gH C cut n::pU C (gH C cut n) ns
theorem Mq(C:List Text):∀ (k:Text) (ns:List Text),(pU C k ns).length=ns.length
 |_,[]=>rfl
 |k,n::ns=>by simp[pU,Mq C _ ns]
def xG(z:aX):List Text:=pU (b9 z.aj z.ae) [] (z.ae.map (·.set.name))
theorem Vg(z:aX):(xG z).length=z.ae.length:=by simp[xG,Mq]
theorem Ag{C:List Text}{cut n:Text}(hn:Nm.valid n=true)(hc:cut=[]\/Nm.valid cut=true):gH C cut n=[]\/Nm.valid (gH C cut n)=true:=by
 cases h:(cut != [] && !Nm.under n cut)
 ·simp only[gH,h,Bool.false_eq_true,if_false];split
  ·exact .inr hn
  ·exact hc
 ·simp only[gH,h,if_true];split
  ·exact .inr hn
  ·exact .inl rfl
theorem Vh(z:aX)(hl:z.ae.length<=1000000)(hv:∀ s∈z.ae,Nm.valid s.set.name=true):aq E 170 [z.enc] (· = Aa z (xG z)):=by
 have ie:=Vg z;have Gz:xG z=pU (b9 z.aj z.ae) [] (z.ae.map (·.set.name)):=rfl;generalize xG z=B at *;obtain⟨aj,l⟩:=z;simp only at *;refine eP F170 ?_;refine gO F170 ?_;refine I.loop (κ:=Nat) ([5]++rg 18 22) (fun k=>[(18,.d (.int .i64 k)),(3,.map 2)]) (fun k=>[(2,.map (ta aj (l.take k)))]) (fun k=>k<=l.length) (fun k=>l.length-k) 0 (Nat.zero_le _) ?_ ?_
 ·(conv=>whnf);repeat (first|exact trivial|(refine And.intro (by first|with_reducible rfl|exact congrArg (DV.int .i64) (by omega)|exact rfl|exact congrArg (DV.int .i64) (wrap64 (by omega) (by omega))|exact congrArg (DV.int .i64) ((wrap64 (by omega) (by omega)).trans (by omega))) ?_;conv=>whnf))
 ·intro k hk IH;refine I.head ab F170 2000 ?_;(conv=>whnf);refine ai (fun h5=>?_) (fun h5=>?_)
  ·have ah:k<l.length:=by simpa using h5
   obtain⟨x,hx⟩:=aG ah;have aF:=Vf (aj:=aj) hx;have fp:=(GQ aj (l.take k)).1;refine gO F170 ?_;repeat' (first|with_reducible(first|refine aB (aN hx) rfl ?_|refine cY ?_|refine cN ?_|refine ai (fun _=>?_) (fun _=>?_))|refine gA F170 ?_|refine gB ?_|with_reducible rfl)
   all_goals first
    |(refine aV ⟨⟨_, rfl⟩, fp⟩ ?_
      have hc : iF aj x=true := by simp_all[iF])
    |(have hc:iF aj x=false:=by simp_all[iF])
   all_goals
    rw[hc]at aF;refine gO F170 ?_;refine I.back (IH (k+1) (by omega) (by omega)) ?_;(conv=>whnf);repeat (first|exact trivial|(refine sI ?_;conv=>whnf))
    refine And.intro (by rw[aF];simp) ?_;exact sZ
  ·have aA:l.length<=k:=by simpa using h5
   rw[List.take_of_length_le aA];refine gO F170 ?_;refine I.bJ ab bG 2000 (by kernel_rfl) ?_;(conv=>whnf);refine aV (by simp;omega) ?_;refine gD ?_;refine And.intro (by kernel_rfl) ?_;(conv=>whnf);(conv=>whnf);refine gO F170 ?_;refine I.loop (κ:=Nat × Text) [7,8,9,10,11,12,51,52,53,54,55,56,57,58,59,60,61,62,63,64,65,66,67,68,69,70,71,72,73,74,75,76,77,78,79,80,81,82] (fun k=>[(51,.d (.int .i64 k.1)),(7,.d (.str k.2))]) (fun k=>[(3,.arr 0 (9,1) ((B.take k.1++List.replicate (l.length-k.1) []).map .str))]) (fun k=>k.1<=l.length/\B.drop k.1=pU (b9 aj l) k.2 ((l.drop k.1).map (·.set.name))/\(k.2=[]\/Nm.valid k.2=true)) (fun k=>l.length-k.1) (0,[]) ⟨Nat.zero_le _,by simpa using Gz,.inl rfl⟩ ?_ ?_
   ·(conv=>whnf);repeat (first|exact trivial|(refine sI ?_;conv=>whnf))
    refine And.intro (by simp) ?_;exact sZ
   ·rintro⟨i,cut⟩ hk IH;simp only at hk;refine I.head ab F170 2000 ?_;(conv=>whnf);refine ai (fun h5=>?_) (fun h5=>?_)
    ·have ah:i<l.length:=by simpa using h5
     obtain⟨x,hx⟩:=aG ah;have cG:=hv x (List.mem_of_getElem? hx);have gP:=dO cG;have GA:(l.drop i).map (·.set.name)=x.set.name::(l.drop (i+1)).map (·.set.name):=by
      have e1:l[i]=x:=by simpa [ah]using hx
      rw[List.drop_eq_getElem_cons ah,e1];rfl
     obtain⟨-,vb,hcut⟩:=hk;rw[GA,pU]at vb;have fH:B[i]?=some (gH (b9 aj l) cut x.set.name):=by
      have:=congrArg (fun l=>l[0]?) vb
      simpa using this
     have ja:B.drop (i+1)=pU (b9 aj l) (gH (b9 aj l) cut x.set.name) ((l.drop (i+1)).map (·.set.name)):=by
      have:=congrArg List.tail vb
      simpa using this
     have oW:=(GQ aj l).2 x.set.name;have fp:=(GQ aj l).1;refine gO F170 ?_;refine aB (aN hx) rfl ?_;refine gO F170 ?_;rcases CQ:cut with _|⟨c0,abC⟩
     ·subst CQ;refine aW (by simp) ?_;refine gO F170 ?_;refine aU (by simp) ?_;refine gO F170 ?_;refine oK (.bool false) (.bool false) (v := .bool ((b9 aj l).contains x.set.name)) (f:=(b9 aj l).contains x.set.name) ⟨_,rfl⟩ fp (fun w=>by kernel_rfl) (fun _ _ => .bool _) (by rw[oW];split<;>simp_all) (by rw[oW];split<;>simp_all) ?_;refine gO F170 ?_;cases Ah:(b9 aj l).contains x.set.name
      ·refine aR ?_;refine gO F170 ?_;have hS:gH (b9 aj l) ([]:Text) x.set.name=[]:=by simp[gH];intro h;exact absurd h (by simpa using Ah)
       refine aV ⟨by omega,by simp;omega⟩ ?_;refine gO F170 ?_;refine eM (.str []) (by omega) (by simp only[Int.toNat_natCast,List.getElem?_map];rw[s6 ie ah];rfl) rfl ?_;refine gO F170 ?_;refine I.back (IH (i+1,[]) ⟨by simp only;omega,by rw[hS]at ja;exact ja,by have hq:=Ag (C:=b9 aj l) cG hcut;rw[hS]at hq;exact hq⟩ (by simp only;omega)) ?_;(conv=>whnf);repeat (first|exact trivial|(refine sI ?_;conv=>whnf))
       refine And.intro (by rw[<- s5 (e:=[]) (x:=[]) ie (by rw[hS]at fH;exact fH)];simp[List.map_set]) ?_;exact sZ
      ·refine bj ?_;refine gO F170 ?_;have hS:gH (b9 aj l) ([]:Text) x.set.name=x.set.name:=by simp[gH];intro h;exact absurd (by simpa using Ah) h
       refine aV ⟨by omega,by simp;omega⟩ ?_;refine gO F170 ?_;refine eM (.str []) (by omega) (by simp only[Int.toNat_natCast,List.getElem?_map];rw[s6 ie ah];rfl) rfl ?_;refine gO F170 ?_;refine I.back (IH (i+1,x.set.name) ⟨by simp only;omega,by rw[hS]at ja;exact ja,by have hq:=Ag (C:=b9 aj l) cG hcut;rw[hS]at hq;exact hq⟩ (by simp only;omega)) ?_;(conv=>whnf);repeat (first|exact trivial|(refine sI ?_;conv=>whnf))
       refine And.intro (by rw[<- s5 (e:=[]) (x:=x.set.name) ie (by rw[hS]at fH;exact fH)];simp[List.map_set]) ?_;exact sZ
     ·have rW:Nm.valid cut=true:=by
       rcases hcut with h|h
       ·rw[CQ]at h;cases h
       ·exact h
      have dA:=dO rW;have ru:=uU x.set.name cut (by unfold maxLen;omega) (by unfold maxLen;omega);rw[CO cG rW]at ru;rw[<- CQ];have aI:cut≠[]:=by rw[CQ];simp
      refine aU (by simpa using aI) ?_;refine gO F170 ?_
      with_reducible refine ao (ru) ?_
      refine gO F170 ?_;cases hu:Nm.under x.set.name cut
      ·refine aU rfl ?_;refine gO F170 ?_;refine aU (by simp) ?_;refine gO F170 ?_;refine oK (.bool false) (.bool false) (v := .bool ((b9 aj l).contains x.set.name)) (f:=(b9 aj l).contains x.set.name) ⟨_,rfl⟩ fp (fun w=>by kernel_rfl) (fun _ _ => .bool _) (by rw[oW];split<;>simp_all) (by rw[oW];split<;>simp_all) ?_;refine gO F170 ?_;cases Ah:(b9 aj l).contains x.set.name
       ·refine aR ?_;refine gO F170 ?_;have hS:gH (b9 aj l) cut x.set.name=[]:=by simp[gH,hu,aI];intro h;exact absurd h (by simpa using Ah)
        refine aV ⟨by omega,by simp;omega⟩ ?_;refine gO F170 ?_;refine eM (.str []) (by omega) (by simp only[Int.toNat_natCast,List.getElem?_map];rw[s6 ie ah];rfl) rfl ?_;refine gO F170 ?_;refine I.back (IH (i+1,[]) ⟨by simp only;omega,by rw[hS]at ja;exact ja,by have hq:=Ag (C:=b9 aj l) cG hcut;rw[hS]at hq;exact hq⟩ (by simp only;omega)) ?_;(conv=>whnf);repeat (first|exact trivial|(refine sI ?_;conv=>whnf))
        refine And.intro (by rw[<- s5 (e:=[]) (x:=[]) ie (by rw[hS]at fH;exact fH)];simp[List.map_set]) ?_;exact sZ
       ·refine bj ?_;refine gO F170 ?_;have hS:gH (b9 aj l) cut x.set.name=x.set.name:=by simp[gH,hu,aI];intro h;exact absurd (by simpa using Ah) h
        refine aV ⟨by omega,by simp;omega⟩ ?_;refine gO F170 ?_;refine eM (.str []) (by omega) (by simp only[Int.toNat_natCast,List.getElem?_map];rw[s6 ie ah];rfl) rfl ?_;refine gO F170 ?_;refine I.back (IH (i+1,x.set.name) ⟨by simp only;omega,by rw[hS]at ja;exact ja,by have hq:=Ag (C:=b9 aj l) cG hcut;rw[hS]at hq;exact hq⟩ (by simp only;omega)) ?_;(conv=>whnf);repeat (first|exact trivial|(refine sI ?_;conv=>whnf))
        refine And.intro (by rw[<- s5 (e:=[]) (x:=x.set.name) ie (by rw[hS]at fH;exact fH)];simp[List.map_set]) ?_;exact sZ
      ·have hS:gH (b9 aj l) cut x.set.name=cut:=by simp[gH,hu,aI]
       refine aW rfl ?_;refine gO F170 ?_;refine aW (by simpa using aI) ?_;refine gO F170 ?_;refine aR ?_;refine gO F170 ?_;refine aV ⟨by omega,by simp;omega⟩ ?_;refine gO F170 ?_;refine eM (.str []) (by omega) (by simp only[Int.toNat_natCast,List.getElem?_map];rw[s6 ie ah];rfl) rfl ?_;refine gO F170 ?_;refine I.back (IH (i+1,cut) ⟨by simp only;omega,by rw[hS]at ja;exact ja,by have hq:=Ag (C:=b9 aj l) cG hcut;rw[hS]at hq;exact hq⟩ (by simp only;omega)) ?_;(conv=>whnf);repeat (first|exact trivial|(refine sI ?_;conv=>whnf))
       refine And.intro (by rw[<- s5 (e:=[]) (x:=cut) ie (by rw[hS]at fH;exact fH)];simp[List.map_set]) ?_;exact sZ
    ·have aA:l.length<=i:=by simpa using h5
     refine gO F170 ?_;simp only[show l.length-i=0 by omega,List.replicate_zero,List.append_nil];rw[List.take_of_length_le (by omega)]
theorem CS{a b c:Text}(h:bC a b<=0)(k:bC b c<=0):bC a c<=0:=by
 rcases Int.lt_or_eq_of_le h with h|h
 ·rcases Int.lt_or_eq_of_le k with k|k
  ·exact Int.le_of_lt (Ac h k)
  ·rw[<- pT k];exact Int.le_of_lt h
 ·rw[pT h];exact k
theorem Mr(a:Text):Nm.under a a=true:=by simp[Nm.under]
def jb(l:List Text):Prop:=∀ (i j:Nat) (x y:Text),i<j->l[i]?=some x->l[j]?=some y->bC x y<=0
def tc(l:List Text):Prop:=∀ (i j:Nat) (x y:Text),i<j->l[i]?=some x->l[j]?=some y->Nm.under y x=false
theorem jb.snoc{l:List Text}{c:Text}(h:jb (l++[c])):jb l/\∀ x∈l,bC x c<=0:=by
 refine⟨fun i j x y dQ hx hy=>h i j x y dQ (by rw[List.getElem?_append_left (aQ hx)];exact hx) (by rw[List.getElem?_append_left (aQ hy)];exact hy),fun x hx=>?_⟩;obtain⟨i,hi⟩:=List.getElem?_of_mem hx;have:=aQ hi;exact h i l.length x c this (by rw[List.getElem?_append_left this];exact hi) (by simp)
theorem vi{α:Type}{l:List α}{c x:α}{i:Nat}(h:(l++[c])[i]?=some x):l[i]?=some x\/(i=l.length/\x=c):=by
 rcases Nat.lt_or_ge i l.length with hi|hi
 ·rw[List.getElem?_append_left hi]at h;exact .inl h
 ·rw[List.getElem?_append_right hi]at h;have h0:i-l.length=0:=by
   have:=aQ h;simp at this;omega
  rw[h0]at h;simp at h;exact .inr ⟨by omega,h.symm⟩
theorem Ms:∀ (C:List Text),jb C->jb (fe C)/\tc (fe C)/\(∀ c∈C,∃ d∈fe C,Nm.under c d=true):=by
 have main:∀ (n:Nat) (C:List Text),C.length=n->jb C->jb (fe C)/\tc (fe C)/\(∀ c∈C,∃ d∈fe C,Nm.under c d=true):=by
  intro n
  induction n with
  |zero =>
   intro C hn _;obtain rfl:C=[]:=List.eq_nil_of_length_eq_zero hn;exact⟨fun i j x y _ h=>by simp[fe]at h,fun i j x y _ h=>by simp[fe]at h,fun c h=>by simp at h⟩
  |succ n ih =>
   intro C hn hA;rcases List.eq_nil_or_concat C with rfl|⟨P,c,rfl⟩
   ·simp at hn
   rw[List.concat_eq_append]at *;obtain⟨Vi,Vj⟩:=hA.snoc;obtain⟨i1,i2,i3⟩:=ih P (by simpa using hn) Vi;have e:fe (P++[c])=kT (fe P) c:=by rw[fe,List.foldl_append];rfl
   have hle:∀ d∈fe P,bC d c<=0:=fun d hd=>Vj d (xx d hd);rw[e];generalize fe P=H at *;rcases List.eq_nil_or_concat H with rfl|⟨H0,d,rfl⟩
   ·have e2:kT [] c=[c]:=rfl;rw[e2];refine⟨fun i j x y dQ hx hy=>?_,fun i j x y dQ hx hy=>?_,fun x hx=>?_⟩
    ·have:=aQ hy;simp at this;omega
    ·have:=aQ hy;simp at this;omega
    ·rcases List.mem_append.1 hx with hx|hx
     ·obtain⟨d,hd,-⟩:=i3 x hx;simp at hd
     ·simp at hx;subst hx;exact⟨x,by simp,Mr x⟩
   ·rw[List.concat_eq_append]at *;have e2:kT (H0++[d]) c=if Nm.under c d then H0++[d]else H0++[d]++[c]:=by simp[kT]
    rw[e2];cases hu:Nm.under c d
    ·simp only[Bool.false_eq_true,if_false];refine⟨fun i j x y dQ hx hy=>?_,fun i j x y dQ hx hy=>?_,fun x hx=>?_⟩
     ·rcases vi hy with fT|⟨rfl,rfl⟩
      ·rcases vi hx with hx|⟨rfl,rfl⟩
       ·exact i1 i j x y dQ hx fT
       ·exact absurd (aQ fT) (by omega)
      ·rcases vi hx with hx|⟨h,-⟩
       ·exact hle x (List.mem_of_getElem? hx)
       ·omega
     ·rcases vi hy with fT|⟨rfl,rfl⟩
      ·rcases vi hx with hx|⟨rfl,rfl⟩
       ·exact i2 i j x y dQ hx fT
       ·exact absurd (aQ fT) (by omega)
      ·rcases vi hx with hx|⟨h,-⟩
       ·rcases vi hx with CM|⟨-,rfl⟩
        ·rw[<- Bool.not_eq_true];intro Vk;have hd:(H0++[d])[H0.length]?=some d:=by simp
         have ln:=aQ CM;have h1:=i1 i H0.length x d ln hx hd;have h2:=hle d (by simp);have h3:=xE h1 h2 Vk;rw[i2 i H0.length x d ln hx hd]at h3;cases h3
        ·exact hu
       ·omega
     ·rcases List.mem_append.1 hx with hx|hx
      ·obtain⟨q,hq,Vl⟩:=i3 x hx;exact⟨q,List.mem_append_left _ hq,Vl⟩
      ·simp at hx;subst hx;exact⟨x,by simp,Mr x⟩
    ·simp only[if_true];refine⟨i1,i2,fun x hx=>?_⟩;rcases List.mem_append.1 hx with hx|hx
     ·exact i3 x hx
     ·simp at hx;subst hx;exact⟨d,by simp,hu⟩
 exact fun C=>main C.length C rfl
def rv(H:List Text)(n r:Text):Prop:=(r∈H/\Nm.under n r=true)\/(r=[]/\∀ d∈H,Nm.under n d=false)
theorem Mt{H:List Text}(hA:jb H)(hP:tc H){n d e:Text}(hd:d∈H)(he:e∈H)(h1:Nm.under n d=true)(h2:Nm.under n e=true):d=e:=by
 obtain⟨i,hi⟩:=List.getElem?_of_mem hd;obtain⟨j,hj⟩:=List.getElem?_of_mem he;rcases Nat.lt_trichotomy i j with h|h|h
 ·have:=xE (hA i j d e h hi hj) (Ad h2) h1;rw[hP i j d e h hi hj]at this;cases this
 ·subst h;rw[hi]at hj;exact Option.some.inj hj
 ·have:=xE (hA j i e d h hj hi) (Ad h1) h2;rw[hP j i e d h hj hi]at this;cases this
theorem rv.unique{H:List Text}(hA:jb H)(hP:tc H){n r s:Text}(h1:rv H n r)(h2:rv H n s):r=s:=by
 rcases h1 with⟨a1,a2⟩|⟨a1,a2⟩
 ·rcases h2 with⟨b1,b2⟩|⟨b1,b2⟩
  ·exact Mt hA hP a1 b1 a2 b2
  ·rw[b2 r a1]at a2;cases a2
 ·rcases h2 with⟨b1,b2⟩|⟨b1,b2⟩
  ·rw[a2 s b1]at b2;cases b2
  ·rw[a1,b1]
theorem GR{α:Type}(p:α->Bool):∀ (l:List α),∀ x∈l.takeWhile p,p x=true
 |[],x,h=>by simp at h
 |a::l,x,h=>by
  rw[List.takeWhile_cons]at h;cases ha:p a
  ·rw[ha]at h;simp at h
  ·rw[ha]at h;rcases List.mem_cons.1 h with rfl|h
   ·exact ha
   ·exact GR p l x h
theorem Mu{α:Type}(p:α->Bool):∀ (l:List α) (x:α),l[(l.takeWhile p).length]?=some x->p x=false
 |[],x,h=>by simp at h
 |a::l,x,h=>by
  rw[List.takeWhile_cons]at h;cases ha:p a
  ·rw[ha]at h;simp at h;rw[<- h];exact ha
  ·rw[ha]at h;exact Mu p l x (by simpa using h)
theorem Mv{H:List Text}(hA:jb H)(hP:tc H){n:Text}{k:Nat}(hk:k<=H.length)(kc:∀ m d,m<k->H[m]?=some d->bC d n<=0) :
  rv H n (my H n (eQ H n k))/\(∀ m d,m<eQ H n k->H[m]?=some d->bC d n<=0):=by
 have rf:=CG (n:=n) hk;have low:∀ m d,m<eQ H n k->H[m]?=some d->bC d n<=0:=fun m d hm hd=>by
  rcases Nat.lt_or_ge m k with h|h
  ·exact kc m d h hd
  ·unfold eQ at hm;have h1:(H.drop k)[m-k]?=some d:=by rw[List.getElem?_drop,show k+(m-k)=m by omega];exact hd
   have h2:=List.takeWhile_prefix (fun c=>decide (bC c n<=0)) (l:=H.drop k);have h3:((H.drop k).takeWhile fun c=>decide (bC c n<=0))[m-k]?=some d:=by
    obtain⟨r,hr⟩:=h2;rw[<- hr,List.getElem?_append_left (by omega)]at h1;exact h1
   simpa using GR _ _ d (List.mem_of_getElem? h3)
 have high:∀ m d,eQ H n k<=m->H[m]?=some d->Nm.under n d=false:=fun m d hm hd=>by
  rw[<- Bool.not_eq_true];intro hu;have h1:=Ad hu;obtain⟨e,he⟩:=aG (l:=H) (k:=eQ H n k) (by have:=aQ hd;omega);have h2:bC e n<=0:=by
   rcases Nat.lt_or_ge (eQ H n k) m with h|h
   ·exact CS (hA _ m e d h he hd) h1
   ·obtain rfl:m=eQ H n k:=by omega
    rw[he]at hd;cases hd;exact h1
  have h3:(H.drop k)[((H.drop k).takeWhile fun c=>decide (bC c n<=0)).length]?=some e:=by
   rw[List.getElem?_drop];exact he
  have h6:=Mu _ _ e h3;simp at h6;omega
 refine⟨?_,low⟩;generalize eQ H n k=j at *;unfold my;by_cases hj:j=0
 ·rw[if_pos hj];refine .inr ⟨rfl,fun d hd=>?_⟩;obtain⟨m,hm⟩:=List.getElem?_of_mem hd;exact high m d (by omega) hm
 ·rw[if_neg hj];obtain⟨c,hc⟩:=aG (l:=H) (k:=j-1) (by omega);rw[hc];dsimp only;cases hu:Nm.under n c
  ·simp only[Bool.false_eq_true,if_false];refine .inr ⟨rfl,fun d hd=>?_⟩;obtain⟨m,hm⟩:=List.getElem?_of_mem hd;rcases Nat.lt_or_ge m j with h|h
   ·rcases Nat.lt_or_ge m (j-1)with h'|h'
    ·rw[<- Bool.not_eq_true];intro Vm;have:=xE (hA m (j-1) d c h' hm hc) (low (j-1) c (by omega) hc) Vm;rw[hP m (j-1) d c h' hm hc]at this;cases this
    ·obtain rfl:m=j-1:=by omega
     rw[hc]at hm;cases hm;exact hu
   ·exact high m d h hm
  ·simp only[if_true];exact .inl ⟨List.mem_of_getElem? hc,hu⟩
theorem Vn{C H:List Text}(hA:jb H)(hP:tc H)(ry:∀ d∈H,d∈C)(xH:∀ c∈C,∃ d∈H,Nm.under c d=true)(aI:∀ c∈C,c≠[]){cut n:Text}{prev:Option Text}
  (hcut:match prev with|none=>cut=[]|some p=>rv H p cut) (CT:∀ d∈H,bC d n<0->∃ p,prev=some p/\bC d p<=0) (n4:∀ p,prev=some p->bC p n<=0):rv H n (gH C cut n):=by
 have key:∀ d∈H,Nm.under n d=true->d≠n->cut=d:=fun d hd hu rz=>by
  have h1:=Ad hu;have h2:bC d n<0:=by
   rcases Int.lt_or_eq_of_le h1 with h|h
   ·exact h
   ·exact absurd (pT h) rz
  obtain⟨p,hp,ke⟩:=CT d hd h2;have h3:=xE ke (n4 p hp) hu;rw[hp]at hcut;exact hcut.unique hA hP (.inl ⟨hd,h3⟩)
 by_cases hc:cut≠[]/\Nm.under n cut=true
 ·have e:gH C cut n=cut:=by simp[gH,hc.1,hc.2]
  rw[e];refine .inl ⟨?_,hc.2⟩;cases prev with
  |none=>exact absurd hcut hc.1
  |some p =>
   rcases hcut with h|h
   ·exact h.1
   ·exact absurd h.1 hc.1
 ·have no:∀ d∈H,Nm.under n d=true->d=n:=fun d hd hu=>by
   apply Classical.byContradiction;intro rz;have:=key d hd hu rz;subst this;exact hc ⟨aI _ (ry _ hd),hu⟩
  have e0:(if cut != [] && !Nm.under n cut then[]else cut)=[]:=by
   by_cases h1:cut=[]
   ·simp[h1]
   ·have:Nm.under n cut=false:=by
     rw[<- Bool.not_eq_true];exact fun h=>hc ⟨h1,h⟩
    simp[h1,this]
  have e:gH C cut n=if C.contains n then n else[]:=by
   simp only[gH,e0];cases C.contains n<;>rfl
  rw[e];cases ea:C.contains n
  ·refine .inr ⟨by simp,fun d hd=>?_⟩;rw[<- Bool.not_eq_true];intro hu;have:=no d hd hu;subst this;have:C.contains d=true:=by simpa using ry d hd
   rw[ea]at this;cases this
  ·simp only[if_true];have hn:n∈C:=by simpa using ea
   obtain⟨d,hd,hu⟩:=xH n hn;have:=no d hd hu;subst this;exact .inl ⟨hd,hu⟩
theorem Mw{C H:List Text}(hA:jb H)(hP:tc H)(ry:∀ d∈H,d∈C)(xH:∀ c∈C,∃ d∈H,Nm.under c d=true)(aI:∀ c∈C,c≠[]) :
  ∀ (rest done:List Text) (cut:Text) (k:Nat),jb (done++rest)->(∀ c∈C,c∈done++rest)->k<=H.length->(match done.getLast? with|none=>cut=[]|some p=>rv H p cut)->(∀ m d,m<k->H[m]?=some d->∃ p,done.getLast?=some p/\bC d p<=0)->pU C cut rest=nv H k rest
 |[],_,_,_,_,_,_,_,_=>rfl
 |n::rest,done,cut,k,rA,aJ,hk,hcut,kc=>by
  have n4:∀ p,done.getLast?=some p->bC p n<=0:=fun p hp=>by
   have hl:0<done.length:=by cases done with|nil=>simp at hp|cons=>simp
   rw[List.getLast?_eq_getElem?]at hp;exact rA (done.length-1) done.length p n (by omega) (by rw[List.getElem?_append_left (by omega)];exact hp) (by simp)
  have CT:∀ d∈H,bC d n<0->∃ p,done.getLast?=some p/\bC d p<=0:=fun d hd rz=>by
   have:=aJ d (ry d hd);obtain⟨i,hi⟩:=List.getElem?_of_mem this;have qp:(done++n::rest)[done.length]?=some n:=by simp
   have ah:i<done.length:=by
    rcases Nat.lt_trichotomy i done.length with h|h|h
    ·exact h
    ·subst h;rw[qp]at hi;cases hi;rw[o3]at rz;omega
    ·have h1:=rA done.length i n d h qp hi;have h2:=Ab d n;omega
   rw[List.getElem?_append_left ah]at hi;obtain⟨p,hp⟩:=aG (l:=done) (k:=done.length-1) (by omega);refine⟨p,by rw[List.getLast?_eq_getElem?];exact hp,?_⟩;rcases Nat.lt_or_ge i (done.length-1)with h|h
   ·exact rA i (done.length-1) d p h (by rw[List.getElem?_append_left ah];exact hi) (by rw[List.getElem?_append_left (by omega)];exact hp)
   ·obtain rfl:i=done.length-1:=by omega
    rw[hp]at hi;cases hi;rw[o3];omega
  have f1:=Vn hA hP ry xH aI hcut CT n4
  obtain⟨f2,f3⟩:=Mv hA hP (n:=n) hk (fun m d hm hd=>by
   obtain⟨p,hp,ke⟩:=kc m d hm hd
   exact CS ke (n4 p hp))
  have e:=f1.unique hA hP f2;simp only[pU,nv,e]
  congr 1
  have ih:=Mw hA hP ry xH aI rest (done++[n]) (my H n (eQ H n k)) (eQ H n k) (by simpa using rA) (by simpa using aJ) (CG hk) (by simpa using f2) (fun m d hm hd=>⟨n,by simp,f3 m d hm hd⟩);exact ih
theorem Vo{a b c:Signed}(h:gR a b=true)(k:gR b c=true):gR a c=true:=by
 simp only[gR,decide_eq_true_eq]at *;rw[<- xF]at *;exact GM h k
theorem Mx{ok:Signed->Bool}:∀ {l:List Signed} {p:Option Signed},chain ok gR p l=true->gg l/\∀ q,p=some q->∀ x∈l,gR q x=true
 |[],p,_=>⟨fun i j x y _ h=>by simp at h,fun q _ x hx=>by simp at hx⟩
 |s::l,p,h=>by
  simp only[chain,Bool.and_eq_true]at h;obtain⟨i1,i2⟩:=Mx h.2;refine⟨fun i j x y dQ hx hy=>?_,fun q hq x hx=>?_⟩
  ·cases j with
   |zero=>omega
   |succ j =>
    rw[List.getElem?_cons_succ]at hy;cases i with
    |zero =>
     simp at hx;subst hx
     simpa [gR]using i2 _ rfl y (List.mem_of_getElem? hy)
    |succ i =>
     rw[List.getElem?_cons_succ]at hx;exact i1 i j x y (by omega) hx hy
  ·subst hq;rcases List.mem_cons.1 hx with rfl|hx
   ·exact h.1.2
   ·exact Vo h.1.2 (i2 _ rfl x hx)
theorem GS{a b:cM}(h:oc a b<0):bC a.name b.name<=0:=by
 unfold oc at h;split at h
 ·omega
 ·rename_i e;simp at e;omega
theorem CU{l:List Signed}(h:gg l):jb (l.map (·.set.name)):=fun i j x y dQ hx hy=>by
 rw[List.getElem?_map]at hx hy;obtain⟨a,ha,rfl⟩:=Option.map_eq_some_iff.1 hx;obtain⟨b,hb,rfl⟩:=Option.map_eq_some_iff.1 hy;exact GS (h i j a b dQ ha hb)
theorem My{l:List Text}:jb l↔l.Pairwise (fun x y=>bC x y<=0):=by
 rw[List.pairwise_iff_getElem];constructor
 ·exact fun h i j hi hj dQ=>h i j _ _ dQ (by simp[hi]) (by simp[hj])
 ·intro h i j x y dQ hx hy;obtain⟨hi,rfl⟩:=List.getElem?_eq_some_iff.1 hx;obtain⟨hj,rfl⟩:=List.getElem?_eq_some_iff.1 hy;exact h i j hi hj dQ
theorem Mz{aj:Text}{l:List Signed}(h:jb (l.map (·.set.name))):jb (b9 aj l) :=
 My.2 ((My.1 h).sublist (List.Sublist.map _ List.filter_sublist))
theorem Vp{z:aX}(hs:gg z.ae)(aI:∀ s∈z.ae,s.set.name≠[]):xG z=iZ z:=by
 have hA:=Mz (aj:=z.aj) (CU hs);obtain⟨h1,h2,h3⟩:=Ms _ hA;refine Mw h1 h2 xx h3 (fun c hc=>?_) (z.ae.map (·.set.name)) [] [] 0 (by simpa using CU hs) (fun c hc=>?_) (Nat.zero_le _) rfl (fun m d hm=>by omega)
 ·obtain⟨s,h,rfl,-⟩:=pR hc;exact aI s h
 ·obtain⟨s,h,rfl,-⟩:=pR hc
  simpa using⟨s,h,rfl⟩
def om(q:Signed)(t:Option Signed):Bool:=match t with|none=>true|some t => !(t.set.name==q.set.name&&t.set.type != 8)
theorem Vq{p:Text}{s:Signed}{t:Option Signed}:s9 (some p) s t=((s.set.type != 3||p != s.set.name)&&(if s.set.type==3 then om s t else true)):=by
 unfold s9 om;by_cases h:s.set.type=3
 ·simp[h]<;>rfl
 ·have hb:(s.set.type != 3)=true:=by simpa using h
  have hc:(s.set.type==3)=false:=by simpa using h
  simp[hb,hc]
theorem MA:∀ (l:List Signed) (q:Signed) (al:Text),gg (q::l)->(∀ s∈q::l,s.set.name≠[]/\s.set.type<=8) ->
  ((q.set.type≠3/\(al=[]\/bC al q.set.name<0))\/(al=q.set.name/\q.set.type=3)\/(al=q.set.name/\q.set.type=8)) ->
  ((if q.set.type==3 then om q l.head? else true)&&kb (some q.set.name) l)=mw al (some q.set.name) l
 |[],q,al,_,_,_=>by simp[om,kb,mw]
 |s::l,q,al,hs,hn,bg=>by
  have ah:oc q.set s.set<0:=hs 0 1 q s (by omega) rfl rfl;have iO:gg (s::l):=fun i j x y dQ hx hy=>hs (i+1) (j+1) x y (by omega) hx hy;have jc:∀ t∈s::l,t.set.name≠[]/\t.set.type<=8:=fun t ht=>hn t (List.mem_cons_of_mem _ ht);have hs8:=(jc s (List.mem_cons_self ..)).2;have vj:=(jc s (List.mem_cons_self ..)).1;have ih:=MA l s (if s.set.type==3 then s.set.name else al) iO jc;have e1:kb (some q.set.name) (s::l)=((s.set.type != 3||q.set.name != s.set.name)&&((if s.set.type==3 then om s l.head? else true)&&kb (some s.set.name) l)):=by
   rw[kb,Vq,Bool.and_assoc]
  rw[e1,List.head?_cons,mw];generalize mw (if (s.set.type==3)=true then s.set.name else al) (some s.set.name) l=T at *;generalize ((if s.set.type==3 then om s l.head? else true)&&kb (some s.set.name) l)=A at *;by_cases o4:q.set.name=s.set.name
  ·have Ll:q.set.type<s.set.type:=by
    have:oc q.set s.set=jz q.set.type s.set.type:=by simp[oc,o4,o3]
    rw[this]at ah;unfold jz at ah;split at ah
    ·assumption
    ·split at ah<;>omega
   by_cases h3:s.set.type=3
   ·simp[h3,o4,vj]
   ·have hb:(s.set.type != 3)=true:=by simpa using h3
    have hc:(s.set.type==3)=false:=by simpa using h3
    have hd:(s.set.name != [])=true:=by simpa using vj
    rcases bg with⟨a1,a2⟩|⟨a1,a2⟩|⟨a1,a2⟩
    ·have rf:al≠s.set.name:=by
      rcases a2 with rfl|a2
      ·exact fun h=>vj h.symm
      ·rintro rfl;rw[o4,o3]at a2;omega
     have:=ih (.inl ⟨h3,by simpa [h3,<- o4]using a2⟩);rw[this];have Vr:(s.set.name==al)=false:=by simpa using fun h=>rf h.symm
     have MB:(q.set.type==3)=false:=by simpa using a1
     simp[hb,hc,hd,MB,o4,Vr]
    ·by_cases h8:s.set.type=8
     ·have:=ih (.inr (.inr ⟨by simp[h3,a1,o4],h8⟩));rw[this];simp[h8,om]
     ·have Vs:(s.set.type != 8)=true:=by simpa using h8
      simp[hb,hc,hd,Vs,om,a1,a2,o4]
    ·omega
  ·have bK:bC q.set.name s.set.name<0:=by
    have:=GS ah;rcases Int.lt_or_eq_of_le this with h|h
    ·exact h
    ·exact absurd (pT h) o4
   have:=ih (by
    by_cases h3:s.set.type=3
    ·exact .inr (.inl ⟨by simp[h3],h3⟩)
    ·refine .inl ⟨h3,?_⟩;have e:(if (s.set.type==3)=true then s.set.name else al)=al:=by simp[h3]
     rw[e];rcases bg with⟨-,a|a⟩|⟨a,-⟩|⟨a,-⟩
     ·exact .inl a
     ·exact .inr (Ac a bK)
     ·rw[a];exact .inr bK
     ·rw[a];exact .inr bK)
   rw[this];have e2:om q (some s)=true:=by
    have:(s.set.name==q.set.name)=false:=by simpa using fun h=>o4 h.symm
    simp[om,this]
   have e3:(q.set.name==s.set.name)=false:=by simpa using o4
   have e4:(q.set.name != s.set.name)=true:=by simpa using o4
   rw[e2,e3,e4];simp
theorem Vt{l:List Signed}(hs:gg l)(hn:∀ s∈l,s.set.name≠[]/\s.set.type<=8):kb none l=mw [] none l:=by
 cases l with
 |nil=>rfl
 |cons s l =>
  have:=MA l s (if s.set.type==3 then s.set.name else[]) hs hn (by
   by_cases h3:s.set.type=3
   ·exact .inr (.inl ⟨by simp[h3],h3⟩)
   ·exact .inl ⟨h3,.inl (by simp[h3])⟩)
  have e1:kb none (s::l)=((if s.set.type==3 then om s l.head? else true)&&kb (some s.set.name) l):=by
   rw[kb]
   congr 1
   unfold s9 om;by_cases h3:s.set.type=3
   ·simp[h3]<;>rfl
   ·simp[h3]
  rw[e1,this,mw];simp
theorem MC{aj:Text}:∀ (l:List Signed) (B:List Text),l.length=B.length->((l.zip ((l.zip B).map fun p=>rh p.1 p.2)).all fun p=>vf aj p.1 p.2)=(((l.zip B).all fun p=>s8 p.1 p.2)&&l.all fun s=>jC s.sigs aj)
 |[],B,_=>by simp
 |s::l,[],h=>by simp at h
 |s::l,b::B,h=>by
  have ih:=MC (aj:=aj) l B (by simpa using h);simp only[List.zip_cons_cons,List.map_cons,List.all_cons];rw[ih];unfold vf s8;cases jC s.sigs aj<;>cases rh s b<;>simp[Bool.and_assoc,Bool.and_left_comm]
theorem Vu{s:cM}(h:ef s=true):s.type<=8:=by
 simp only[ef,Bool.and_eq_true,decide_eq_true_eq]at h;exact h.1.1.1.1.1.2.2
theorem Vv{t:Text}(h:Nm.valid t=true):t≠[]:=by
 rintro rfl
 revert h
 decide
theorem MD{z:aX}(h:oe z=true):gg z.ae/\(∀ s∈z.ae,Nm.valid s.set.name=true)/\(∀ s∈z.ae,s.set.name≠[]/\s.set.type<=8):=by
 obtain⟨-,g2,-⟩:=xz h;simp only[oe,Bool.and_eq_true]at h;have g3:∀ s∈z.ae,ef s.set=true:=fun s hs=>by
  have:=g2 s hs;simp only[fo,Bool.and_eq_true]at this;exact this.1
 exact⟨(Mx h.2).1,fun s hs=>s7 (g3 s hs),fun s hs=>⟨Vv (s7 (g3 s hs)),Vu (g3 s hs)⟩⟩
theorem vk(z:aX)(hf:z.Fits):aq E 98 [z.enc] (· = .bool (eB z)):=by
 unfold eB;cases h1:oe z
 ·have bW:=Mm z hf;rw[h1]at bW;refine eP Tryz.func98 ?_;repeat' (first|with_reducible(first|refine ao (bW) ?_|refine au (bW) ?_|refine cY ?_|refine cN ?_|refine ai (fun _=>?_) (fun _=>?_))|refine gA Tryz.func98 ?_|refine gB ?_|with_reducible rfl)
  all_goals simp_all
 ·obtain⟨g1,g2,g3⟩:=xz h1;obtain⟨f1,f2,f3⟩:=MD h1;have gl:z.ae.length<=1000000:=by omega
  have bW:=Mm z hf;rw[h1]at bW;have GU:=Vh z gl f2;rw[Vp f1 (fun s hs=>(f3 s hs).1)]at GU;have rf:=U3 z (iZ z) gl;rw[Vt f1 f3]at rf;have ME:CJ z=(((z.ae.zip (iZ z)).all fun p=>s8 p.1 p.2)&&z.ae.all fun s=>jC s.sigs z.aj):=MC _ _ (s4 z).symm;rw[ME];have GV:=UZ z (iZ z) (s4 z) gl;have MF:=U0 z (iZ z) (s4 z) gl;have MG:=U1 z (iZ z) gl;change aq E _ _ (· = .bool (zY z))at GV;generalize ((z.ae.zip (iZ z)).all fun p=>s8 p.1 p.2)=S at *;generalize (z.ae.all fun s=>jC s.sigs z.aj)=F at *;have MI:=Ve z gl f2 g3 f1;clear ME h1 g1 g2 g3 f1 f2 f3;generalize mw [] none z.ae=T at *;generalize zY z=Fo at *;generalize ra z=Tw at *;generalize iZ z=B at *;refine eP Tryz.func98 ?_;repeat' (first|with_reducible(first|refine ao (bW) ?_|refine au (bW) ?_|refine ao (MI) ?_|refine au (MI) ?_|refine ao (GU) ?_|refine au (GU) ?_|refine ao (rf) ?_|refine au (rf) ?_|refine ao (GV) ?_|refine au (GV) ?_|refine ao (MF) ?_|refine au (MF) ?_|refine ao (MG) ?_|refine au (MG) ?_|refine cY ?_|refine cN ?_|refine ai (fun _=>?_) (fun _=>?_))|refine gA Tryz.func98 ?_|refine gB ?_|with_reducible rfl)
  all_goals simp_all
end Go.Proofs.YtfmdaiojokniiaaGreatDoor.P
end
