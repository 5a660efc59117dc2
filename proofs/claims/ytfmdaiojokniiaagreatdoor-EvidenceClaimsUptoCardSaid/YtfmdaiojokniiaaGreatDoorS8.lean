/- Lemmas of mine. Conditions: as stated. -/
import Derived.Test.YtfmdaiojokniiaaGreatDoorS6
import Derived.Test.YtfmdaiojokniiaaGreatDoorS7
set_option linter.unusedVariables false
set_option linter.unusedSimpArgs false
open Bool renaming false_and->ahH,and_false->ahI,eq_iff_iff->ahf,not_true->af1,not_eq_true'->afD,not_eq_false'->ahq,and_eq_true->aft,true_and->afC,eq_false_iff->ahK,not_false->ahL,and_self->ahM,and_true->ahT,and_eq_false_iff->ahU
open Int renaming toNat_natCast->afr,eq_ofNat_of_zero_le->ahP,toNat_zero->afB
open List renaming mem_of_getElem?->afh,length_map->aff,length_append->aey,drop_of_length_le->afG,take_length->ahj,all_eq_true->ad',replicate->ad6,mem_cons->afu,mem_map->aer,head?_eq_getElem?->ahN,getLast?_eq_getElem?->ahO,drop_zero->agX,suffix_refl->ahQ,getElem?_append_left->ael,append_assoc->afb,mem_append->aeI,drop_eq_getElem_cons->afH,isPrefixOf_iff_prefix->ahR,isPrefixOf->ahS
open Nat renaming zero_le->afv,lt_or_ge->adV
open Option renaming getD_none->afq,getD_some->aeB,any_some->ahJ
section
namespace Go.aA
open Go Go.RowKit
section
variable {E:Env} {aj:FuncId} {R:cF} {s:List AV} {h:List af} {ops:Array Oper} {o:Oper} {l:List Oper} {k:List aT}
end
end Go.aA
namespace Go.aA
open Go Go.RowKit
theorem J.vk{E:Env}{aj:FuncId}{R:cF}{td:List aT}{s:List AV}{h:List af}{lits:List Nat}{rows:List bo}(hp:R.rows.Perm rows)(H:J E aj ⟨R.n,R.Q,rows,R.fx⟩ lits td s h):J E aj R lits td s h:=by
 replace H:=H.to;refine .of ?_;unfold AW at H ⊢;intro c0 c t ts h0 h1 h2 h3 hr br h4 h5 cs;refine H c0 c t ts h0 h1 h2 h3 hr ⟨⟨fun g hg=>br.all.each g ?_,?_⟩,fun g hg=>br.flat g (hp.mem_iff.2 hg)⟩ h4 h5 cs
 ·exact((hp.append_right R.fx.loops).mem_iff).2 hg
 ·exact(((hp.append_right R.fx.loops).flatMap_right bo.cm).nodup_iff).1 br.all.nodup
theorem aV{G:List (Nat × DV)}{s:List AV}{i:Nat}{v:AV}(h:s[i]?=some v):bh G s (.tmp i) v:=fun c a _ hs=>by
 have hl:i<a.tmps.size:=by rw[<- hs.1];exact aX h
 have:a.eval (.tmp i)=a.tmps[i]:=by simp[Act.eval,hl]
 rw[this];exact hs.2 i v _ h (by simp[hl])
end Go.aA
end
section
namespace Go.Proofs.YtfmdaiojokniiaaGreatDoor.P
open Go Go.aA Go.RowKit
set_option maxRecDepth 100000
set_option maxHeartbeats 4000000
theorem GI(t:Text):ar E 255 [.str t] (· = .bool (Nm.label t)):=by
 have hl:¬ (1<=t.length/\t.length<=12)->Nm.label t=false:=fun h=>by simp[Nm.label];intro h1 h2;exact absurd ⟨h1,h2⟩ h
 by_cases GJ:1<=t.length/\t.length<=12
 ·obtain⟨c,hc⟩:=aH (l:=t) (k:=0) (by omega);obtain⟨d,hd⟩:=aH (l:=t) (k:=t.length-1) (by omega);have hw:IntKind.i64.wrap ((t.length:Int)-1)=((t.length-1:Nat):Int):=by rw[wrap64 (by omega) (by omega)];omega
  refine eP F255 ?_;refine aU (by simp;omega) ?_;refine gO F255 ?_;refine aU (by simp;omega) ?_;refine gO F255 ?_;refine kX c (by omega) hc ?_;refine gO F255 ?_;refine ai (fun h1=>?_) (fun h1=>?_)
  ·refine gO F255 ?_;refine a8 ?_;refine gO F255 ?_;rw[CD (k:=0) (by omega) (by rw[CE hc];simp at h1;omega)]
  refine gO F255 ?_;refine kX d (by omega) (by rw[hw];exact hd) ?_;refine gO F255 ?_;refine ai (fun h2=>?_) (fun h2=>?_)
  ·refine gO F255 ?_;rw[CD (k:=t.length-1) (by omega) (by rw[CE hd];simp at h2;omega)]
  refine gO F255 ?_;refine J.loop (κ:=Nat) ([2,3,4]++rg 28 25) (fun k=>[(28,.d (.int .i64 k))]) (fun _=>[]) (fun k=>k<=t.length/\∀ i,i<k->Nm.p0 t i=true) (fun k=>t.length-k) 0 ⟨afv _,by omega⟩ ?_ ?_
  ·exact sZ
  rintro k ⟨hk,aL⟩ IH;refine J.head ag F255 2000 ?_;(conv=>whnf);refine ai (fun h5=>?_) (fun h5=>?_)
  ·have ah:k<t.length:=by simpa using h5
   obtain⟨e,he⟩:=aH ah;have th:=CE he;have h0:e.toNat=45->0<k/\k+1<t.length:=fun h=>by
    simp at h1 h2;constructor
    ·refine Nat.pos_of_ne_zero fun h3=>?_;subst h3;rw[hc]at he;cases he;omega
    ·refine Nat.lt_of_not_le fun h3=>?_;obtain rfl:k=t.length-1:=by omega
     rw[hd]at he;cases he;omega
   have back:Nm.p0 t k=true->_:=fun e=>IH (k+1) ⟨ah,fun i hi=>(Nat.lt_succ_iff_lt_or_eq.1 hi).elim (aL i) (fun h=>h ▸ e)⟩ (by omega);refine gO F255 ?_;refine kX e (by omega) (by rw[afr];exact he) ?_;repeat' (first|with_reducible(first|refine cY ?_|refine cN ?_|refine ai (fun _=>?_) (fun _=>?_))|refine gA F255 ?_|refine gB ?_|with_reducible rfl)
   all_goals try (refine J.run ag F255 2000 ?_;conv=>whnf)
   all_goals simp only[decide_eq_true_eq,decide_eq_false_iff_not,beq_iff_eq,beq_eq_false_iff_ne,bne_iff_ne,bne_eq_false_iff_eq]at *
   all_goals first
    |(rw[CD ah (by rw[th];omega)];done)
    |(refine J.back (back (by rw[th];omega)) ?_;exact Gp)
  ·have aC:k=t.length:=by have:=of_decide_eq_false h5;omega
   subst aC;refine gO F255 ?_;simp only[Nm.label];rw[decide_eq_true ⟨GJ.1,GJ.2,aL⟩]
 ·rw[hl GJ];refine eP F255 ?_;refine ai (fun h1=>?_) (fun h1=>?_)
  ·repeat' (first|with_reducible(first|refine cY ?_|refine cN ?_|refine ai (fun _=>?_) (fun _=>?_))|refine gA F255 ?_|refine gB ?_|with_reducible rfl)
  ·refine J.run ag F255 2000 ?_;(conv=>whnf);refine aY (by simp at h1 ⊢;omega) ?_;repeat' (first|with_reducible(first|refine cY ?_|refine cN ?_|refine ai (fun _=>?_) (fun _=>?_))|refine gA F255 ?_|refine gB ?_|with_reducible rfl)
def oA(t:Text):Nat->Int
 |0 => -1
 |k+1=>if t[k]?=some 46 then k else oA t k
theorem LY(t:Text):∀ k,k<=t.length->(oA t k = -1/\46 ∉ t.take k)\/∃ m:Nat,oA t k=m/\m<k/\t.take k=t.take m++46::(t.take k).drop (m+1)/\46 ∉ (t.take k).drop (m+1)
 |0,_ => .inl ⟨rfl,by simp⟩
 |k+1,hk=>by
  obtain⟨c,hc⟩:=aH (l:=t) (k:=k) (by omega);have ht:=cG hc;have hl:(t.take k).length=k:=by simp;omega
  rw[oA,hc];by_cases h:c=46
  ·subst h;refine .inr ⟨k,by simp,by omega,?_,?_⟩
   ·rw[ht,afG (by simp;omega)]
   ·rw[afG (by simp;omega)];simp
  ·rw[if_neg (by simpa using h),ht];rcases LY t k (by omega)with⟨h1,h2⟩|⟨m,h1,h2,h3,h4⟩
   ·exact .inl ⟨h1,by simp[h2];exact fun e=>h e.symm⟩
   ·have e:(t.take k++[c]).drop (m+1)=(t.take k).drop (m+1)++[c]:=by rw[List.drop_append_of_le_length (by omega)]
    refine .inr ⟨m,h1,by omega,?_,?_⟩
    ·rw[e];conv=>lhs;rw[h3];simp
    ·rw[e];simp[h4];exact fun e=>h e.symm
theorem TV(t:Text):(oA t t.length = -1/\Nm.split t=[t])\/∃ m:Nat,oA t t.length=m/\m<t.length/\Nm.split t=Nm.split (t.take m)++[t.drop (m+1)]:=by
 rcases LY t t.length (Nat.le_refl _)with⟨h1,h2⟩|⟨m,h1,h2,h3,h4⟩
 ·rw[ahj]at h2;exact .inl ⟨h1,Nm.Cv t h2⟩
 ·rw[ahj]at h3 h4;exact .inr ⟨m,h1,h2,by conv=>lhs;rw[h3,Nm.Cu,Nm.Cv _ h4]⟩
theorem TW(t:Text)(ht:t.length<=maxLen):ar E 334 [.str t,.int .u8 46] (· = .int .i64 (oA t t.length)):=by
 unfold maxLen at ht;have hw:IntKind.i64.wrap ((t.length:Int)-1)=(t.length:Int)-1:=wrap64 (by omega) (by omega);refine eP F334 ?_;refine J.loop (κ:=Nat) ([4,5]++rg 9 10) (fun k=>[(5,.d (.int .i64 ((k:Int)-1)))]) (fun _=>[]) (fun k=>k<=t.length/\oA t t.length=oA t k) (fun k=>k) t.length ⟨Nat.le_refl _,rfl⟩ ?_ ?_
 ·exact sZ
 rintro k ⟨hk,hd⟩ IH;refine J.head ag F334 2000 ?_;(conv=>whnf);refine ai (fun h5=>?_) (fun h5=>?_)
 ·obtain⟨k,rfl⟩:∃ j,k=j+1:=⟨k-1,by have:=of_decide_eq_true h5;omega⟩;obtain⟨c,hc⟩:=aH (l:=t) (k:=k) (by omega);rw[oA,hc]at hd;refine gO F334 ?_;refine kX c (by omega) (by rw[show(((k+1:Nat):Int)-1).toNat=k by omega];exact hc) ?_;refine gO F334 ?_;by_cases h:c=46
  ·subst h;refine aY (by decide) ?_;refine gO F334 ?_;rw[hd,if_pos rfl,show(((k+1:Nat):Int)-1)=(k:Int) by omega]
  ·rw[if_neg (by simpa using h)]at hd;refine aU (beq_eq_false_iff_ne.2 fun e=>h (UInt8.toNat_inj.1 (Int.ofNat.inj e))) ?_;refine gO F334 ?_;refine J.back (IH k ⟨by omega,hd⟩ (by omega)) ?_;exact sZ
 ·have aC:k=0:=by have:=of_decide_eq_false h5;omega
  subst aC;refine gO F334 ?_;rw[hd];rfl
theorem CL(t:Text)(ht:t.length<=maxLen):ar E 287 [.str t,.int .u8 46] (· = .int .i64 (oA t t.length)):=by
 have c1:=TW t ht;refine eP Tryz.func287 ?_;refine aq (c1) ?_;refine gO Tryz.func287 ?_
 with_reducible rfl
def vn:Bool->List Text->Prop
 |false,S=>∀ y∈S,Nm.label y=true
 |true,S=>∃ R,S=[42]::R/\∀ y∈R,Nm.label y=true
theorem TX{P S:List Text}{x:Text}{w:Bool}(hS:vn w S)(h:w=true\/8<S.length+1\/(x≠[42]/\Nm.label x=false)):Nm.parts (P++x::S)=false:=by
 rw[<- Bool.not_eq_true,rp];rintro⟨h1,h2⟩;rcases h with rfl|h|⟨h3,h4⟩
 ·obtain⟨R,rfl,-⟩:=hS;have:=h2 (P.length+1) [42] (by simp);simp[gT]at this;exact absurd this (by decide)
 ·simp at h1;omega
 ·have:=h2 P.length x (by simp);simp[gT,h3,h4]at this
theorem TY{S:List Text}{x:Text}(hS:vn false S)(h:S.length+1<=8)(hx:x=[42]\/Nm.label x=true):Nm.parts (x::S)=true:=by
 simp only[Nm.parts,aft,decide_eq_true_eq,ad',Bool.or_eq_true,beq_iff_eq];exact⟨h,hx.symm,hS⟩
theorem TZ{S:List Text}{x:Text}{w:Bool}(hS:vn false S)(hw:w=(x==[42]))(hx:x=[42]\/Nm.label x=true):vn w (x::S):=by
 subst hw;cases h:x==[42]
 ·exact List.forall_mem_cons.2 ⟨hx.resolve_left (by simpa using h),hS⟩
 ·exact⟨S,by simpa using h,hS⟩
theorem CM(t:Text):∃ (i:Int) (x:Text) (P:List Text),oA t t.length=i /\ -1<=i/\i<t.length/\t.drop (i+1).toNat=x/\Nm.split t=P++[x]/\(i<0->P=[])/\(0<=i->P=Nm.split (t.take i.toNat)):=by
 rcases TV t with⟨h1,h2⟩|⟨m,h1,h2,h3⟩
 ·exact⟨-1,t,[],h1,by omega,by omega,rfl,h2,fun _=>rfl,fun h=>by omega⟩
 ·exact⟨m,_,_,h1,by omega,by omega,rfl,by rw[show((m:Int)+1).toNat=m+1 by omega];exact h3,fun h=>by omega,fun _=>rfl⟩
theorem vp(t:Text)(ht:t.length<=maxLen):ar E 177 [.str t] (· = .bool (Nm.valid t)):=by
 refine eP F177 ?_;refine ai (fun h1=>?_) (fun h1=>?_)
 ·obtain rfl:t=[46]:=by simpa using h1
  refine gO F177 ?_;rfl
 have h1:t≠[46]:=by simpa using h1
 refine gO F177 ?_;refine ai (fun h2=>?_) (fun h2=>?_)
 ·refine gO F177 ?_;simp at h2;simp[Nm.valid,h1];omega
 have h2:t.length<=60:=by simp at h2;omega
 have hv:Nm.valid t=Nm.parts (Nm.split t):=by simp[Nm.valid,h1,h2]
 refine gO F177 ?_;refine J.rangeFunc (aV rfl) Tryz.func233 rfl (by decide) rfl (fun ll d tt=>?_);refine gO F233 ?_;refine aU (by simpa using h1) ?_;refine gO F233 ?_;refine J.loop (κ:=Text × Bool × List Text) [4,5,9,10,11,12,13,14,15,16,17,18,19,20,21,22,23,24] (fun x=>[(4,.d (.str x.1))]) (fun x=>[(1,.cells [.d (.int .i64 x.2.2.length)]),(2,.cells [.d (.bool x.2.1)])]) (fun x=>x.1.length<=60/\Nm.split t=Nm.split x.1++x.2.2/\x.2.2.length<=8/\vn x.2.1 x.2.2) (fun x=>x.1.length) (t,false,[]) ⟨h2,by simp,by simp,by simp[vn]⟩ ?_ ?_
 ·(conv=>whnf);repeat (first|exact trivial|(refine sI ?_;conv=>whnf))
  refine And.intro rfl ?_;exact sZ
 rintro⟨rest,w,S⟩ ⟨k1,k2,k3,k4⟩ IH;simp only at k1 k2 k3 k4;obtain⟨i,x,P,e1,e2,e3,e4,e5,e6,e7⟩:=CM rest;have c1:=CL rest (by unfold maxLen;omega);have hw:IntKind.i64.wrap (i+1)=i+1:=wrap64 (by omega) (by omega);have e8:Nm.split t=P++x::S:=by rw[k2,e5];simp
 have bad:=fun h=>TX (P:=P) (x:=x) k4 h;rw[<- e8,<- hv]at bad;rw[e1]at c1;refine J.head ag F233 2000 ?_;(conv=>whnf);refine aq (c1) ?_;refine gO F233 ?_;refine aW ⟨by rw[hw];simp;omega,by rw[hw];simp;omega,by simp⟩ ?_;refine gO F233 ?_;rw[hw];simp only[afq,aeB,afr,ahj,e4];refine J.yield 0 rfl rfl rfl (aV rfl) (lT (aV rfl)) rfl ?_;(conv=>whnf);refine gO F177 ?_;refine J.begin 0 rfl rfl rfl ?_;(conv=>whnf);refine gO F177 ?_;have hn:IntKind.i64.wrap ((S.length:Int)+1)=(S.length:Int)+1:=wrap64 (by omega) (by omega);repeat' (first|with_reducible(first|refine aq (GI x) ?_|refine ax (GI x) ?_|refine cY ?_|refine cN ?_|refine ai (fun _=>?_) (fun _=>?_))|refine gA F177 ?_|refine gB ?_|with_reducible rfl)
 all_goals try (refine J.run ag F177 2000 ?_;conv=>whnf)
 all_goals rw[hn]at *
 all_goals try
  refine J.CI 0 rfl rfl rfl ?_;(conv=>whnf);refine gO F233 ?_;refine aY (by decide) ?_;refine gO F233 ?_;refine a8 ?_;refine gO F233 ?_;refine J.ky ag F233 rfl rfl rfl rfl (fun e=>nomatch e) ?_;(conv=>whnf);refine gO F177 ?_;refine J.lW ag F177 rfl rfl rfl rfl rfl ?_;rw[bad (by simp_all;try omega)];rfl
 all_goals
  have hx:x=[42]\/Nm.label x=true:=by simp_all
  have h8:S.length+1<=8:=by simp_all;try omega
  have hS:vn false S:=by simp_all
  refine J.pb 0 rfl rfl rfl ?_;(conv=>whnf);refine gO F233 ?_;refine aU (by decide) ?_;refine gO F233 ?_;refine ai (fun h5=>?_) (fun h5=>?_)
  ·refine gO F233 ?_;refine J.ky ag F233 rfl rfl rfl rfl (fun e=>nomatch e) ?_;(conv=>whnf);refine gO F177 ?_;refine J.lW ag F177 rfl rfl rfl rfl rfl ?_;rw[hv,e8,e6 (by simpa using h5),List.nil_append,TY hS h8 hx];rfl
  ·have h5:0<=i:=by simpa using h5
   refine gO F233 ?_;refine aW ⟨by simp,by simp;omega,by simp;omega⟩ ?_;refine gO F233 ?_;simp only[afq,aeB,afB,agX];refine J.back (IH (rest.take i.toNat,x==[42],x::S) ⟨by simp;omega,by simp only;rw[e8,e7 h5],h8,TZ hS rfl hx⟩ (by simp;omega)) ?_;(conv=>whnf);repeat (first|exact trivial|(refine sI ?_;conv=>whnf))
   refine And.intro (by simp) ?_;exact sZ
theorem Nm.LZ(l:List UInt8)(h:Nm.valid l=true):1<=l.length:=by
 cases l with
 |nil=>exfalso;revert h;decide
 |cons c r=>simp
theorem Nm.T1(a z:List UInt8):Nm.split z <:+ Nm.split (a++46::z):=⟨Nm.split a,(Nm.Cu a z).symm⟩
theorem Nm.T2(p q:List (List UInt8))(hp:p≠[])(hq:q≠[]):Nm.glue (p++q)=Nm.glue p++46::Nm.glue q:=by
 induction p with
 |nil=>exact absurd rfl hp
 |cons x t ih =>
  cases t with
  |nil =>
   cases q with
   |nil=>exact absurd rfl hq
   |cons y u=>rfl
  |cons y u =>
   have:=ih (by simp);simp only[List.cons_append,Nm.glue]at this ⊢;rw[this];simp
theorem Nm.Ae(s z:List UInt8)(hs:s≠[46])(hz:z≠[46]):Nm.under s z=true↔s=z\/∃ a,s=a++46::z:=by
 simp only[Nm.under,decide_eq_true_eq,Nm.labels,hs,hz,if_false];constructor
 ·rintro⟨p,hp⟩;cases p with
  |nil=>left;exact(Nm.Lw _ _ hp).symm
  |cons x t =>
   right;refine⟨Nm.glue (x::t),?_⟩;rw[<- Nm.uY s,<- hp,Nm.T2 _ _ (by simp) (Nm.oy z),Nm.uY]
 ·rintro(rfl|⟨a,rfl⟩)
  ·exact ahQ _
  ·exact Nm.T1 a z
theorem Nm.T3(s z:List UInt8)(hs:Nm.valid s=true)(hz:Nm.valid z=true)(h1:s≠z)(h2:z≠[46]) :
  Nm.under s z=true↔z.length<s.length/\z <:+ s/\s[s.length-z.length-1]?=some 46:=by
 by_cases hr:s=[46]
 ·subst hr;have gG:=Nm.LZ z hz;constructor
  ·intro h;simp only[Nm.under,decide_eq_true_eq,Nm.labels,h2,if_false,if_true]at h;exact absurd (List.eq_nil_of_suffix_nil h) (Nm.oy z)
  ·rintro⟨h,_⟩;exfalso;simp only[List.length_singleton]at h;omega
 ·rw[Nm.Ae s z hr h2];constructor
  ·rintro(h|⟨a,rfl⟩)
   ·exact absurd h h1
   ·refine⟨by simp;omega,⟨a++[46],by simp⟩,?_⟩;rw[show(a++46::z).length-z.length-1=a.length by simp;omega];simp
  ·rintro⟨h,⟨p,rfl⟩,h3⟩;right;have hp:p≠[]:=by rintro rfl;simp at h
   rw[show(p++z).length-z.length-1=p.length-1 by simp,ael (by have:=List.length_pos_iff.2 hp;omega)]at h3;refine⟨p.dropLast,?_⟩;have e:p.getLast hp=46:=by
    rw[List.getLast_eq_getElem];exact(List.getElem?_eq_some_iff.1 h3).2
   conv=>lhs;rw[<- List.dropLast_concat_getLast hp,e]
   simp
theorem Nm.T4(s z:List UInt8)(h:s=z\/z=[46]):Nm.under s z=true:=by
 simp only[Nm.under,decide_eq_true_eq];rcases h with rfl|rfl
 ·exact ahQ _
 ·simp[Nm.labels]
theorem gU(t:Text)(ht:t.length<=maxLen):ar E 104 [.str t] (· = .bool (Nm.valid t)):=by
 have c1:=vp t ht;refine eP Tryz.func104 ?_;refine aq (c1) ?_;refine gO Tryz.func104 ?_
 with_reducible rfl
def Af(a b:Text):Bool:=decide (b <:+ a)
theorem T5(a b:Text)(ha:a.length<=maxLen)(hb:b.length<=maxLen):ar E 259 [.str a,.str b] (· = .bool (Af a b)):=by
 unfold maxLen at ha hb;have hw:IntKind.i64.wrap ((a.length:Int)-b.length)=(a.length:Int)-b.length:=wrap64 (by omega) (by omega);unfold Af;refine eP Tryz.func259 ?_;refine ai (fun h=>?_) (fun h=>?_)
 ·have h:=of_decide_eq_true h;refine gO Tryz.func259 ?_;rw[hw];refine aW ⟨by simp;omega,by simp;omega,by simp⟩ ?_;refine gO Tryz.func259 ?_;refine congrArg DV.bool ?_;rw[ahf,beq_iff_eq,decide_eq_true_eq,List.suffix_iff_eq_drop];simp only[aeB,afq,afr,ahj,show((a.length:Int)-b.length).toNat=a.length-b.length by omega];exact eq_comm
 ·have h:=of_decide_eq_false h;refine gO Tryz.func259 ?_;rw[decide_eq_false];exact fun e=>by have:=e.length_le;omega
theorem T6(a b:Text)(ha:a.length<=maxLen)(hb:b.length<=maxLen):ar E 180 [.str a,.str b] (· = .bool (Af a b)):=by
 have c1:=T5 a b ha hb;refine eP Tryz.func180 ?_;refine aq (c1) ?_;refine gO Tryz.func180 ?_
 with_reducible rfl
theorem vq(t z:Text)(ht:t.length<=maxLen)(hz:z.length<=maxLen):ar E 107 [.str t,.str z] (· = .aF [.bool (Nm.mF t z),.int .i64 (if Nm.valid t&&Nm.valid z then 0 else 11)]):=by
 unfold Nm.mF;have c1:=vp t ht;have c2:=vp z hz;have c3:=T6 t z ht hz;cases h1:Nm.valid t
 ·rw[h1]at c1;refine eP F107 ?_;repeat' (first|with_reducible(first|refine aq (c1) ?_|refine ax (c1) ?_|refine aq (c2) ?_|refine ax (c2) ?_|refine cY ?_|refine cN ?_|refine ai (fun _=>?_) (fun _=>?_))|refine gA F107 ?_|refine gB ?_|with_reducible rfl)
  rfl
 cases h2:Nm.valid z
 ·rw[h1]at c1;rw[h2]at c2;refine eP F107 ?_;repeat' (first|with_reducible(first|refine aq (c1) ?_|refine ax (c1) ?_|refine aq (c2) ?_|refine ax (c2) ?_|refine cY ?_|refine cN ?_|refine ai (fun _=>?_) (fun _=>?_))|refine gA F107 ?_|refine gB ?_|with_reducible rfl)
  rfl
 have hu:=Nm.T3 t z h1 h2;have T7:=Nm.T4 t z;have l1:=dV h1;have l2:=dV h2;rw[h1]at c1;rw[h2]at c2;refine eP F107 ?_;repeat' (first|with_reducible(first|refine aq (c1) ?_|refine ax (c1) ?_|refine aq (c2) ?_|refine ax (c2) ?_|refine aq (c3) ?_|refine ax (c3) ?_|refine cY ?_|refine cN ?_|refine ai (fun _=>?_) (fun _=>?_))|refine gA F107 ?_|refine gB ?_|with_reducible rfl)
 all_goals try
  rename_i e1 e2 e3 e4;have h5:t≠z:=by simpa using e1
  have h6:z≠[46]:=by simpa using e2
  have h7:z.length<t.length:=by simp at e3;omega
  have h8:z <:+ t:=by simpa [Af]using e4
  obtain⟨c,hc⟩:=aH (l:=t) (k:=t.length-z.length-1) (by omega);refine kX c (by rw[wrap64 (n:=(t.length:Int)-z.length) (by omega) (by omega),wrap64 (by omega) (by omega)];omega) (by rw[wrap64 (n:=(t.length:Int)-z.length) (by omega) (by omega),wrap64 (by omega) (by omega),show((t.length:Int)-z.length-1).toNat=t.length-z.length-1 by omega];exact hc) ?_;refine gO F107 ?_;have e:((c.toNat:Int)==46)=Nm.under t z:=by
   rw[ahf,hu h5 h6,hc,beq_iff_eq];exact⟨fun h=>⟨h7,h8,congrArg some (UInt8.toNat_inj.1 (Int.ofNat.inj h))⟩,fun h=>by cases h.2.2;rfl⟩
  rw[e];rfl
 all_goals
  refine congrArg (fun b=>DV.aF [.bool b,.int .i64 0]) ?_;symm;first
   |(exact T7 (by simp_all))
   |(refine ahK.2 fun e=>?_;have:=(hu (by simp_all) (by simp_all)).1 e;simp_all[Af];try omega)
theorem T8{t:Text}(h:Nm.valid t=true):(Nm.labels t).length<=8:=by
 unfold Nm.labels;split
 ·simp
 ·rename_i hr;simp only[Nm.valid,hr,decide_false,Bool.false_or,aft,Nm.parts,decide_eq_true_eq]at h;exact h.2.1
theorem T9{α:Type}{m:Nat}{a b:α}{L:List α}:(ad6 (m+1) a++L).set m b=ad6 m a++b::L:=by
 rw[List.replicate_succ',afb,List.set_append_right _ _ (by simp)];simp
theorem T'{a b:Text}(h:Nm.labels a=Nm.labels b):a=b:=by
 unfold Nm.labels at h;split at h<;>split at h
 ·simp_all
 ·exact absurd h.symm (Nm.oy _)
 ·exact absurd h (Nm.oy _)
 ·exact Nm.Lw _ _ h
def Ag(t:Text):DV:=if Nm.valid t then .aF [.sl ((Nm.labels t).map .str),.int .i64 0]else .aF [.aI,.int .i64 11]
theorem GK(t:Text)(ht:t.length<=maxLen):ar E 154 [.str t] (· = Ag t):=by
 have c1:=vp t ht;unfold Ag;cases h1:Nm.valid t
 ·rw[h1]at c1;refine eP F154 ?_;repeat' (first|with_reducible(first|refine aq (c1) ?_|refine ax (c1) ?_|refine cY ?_|refine cN ?_|refine ai (fun _=>?_) (fun _=>?_))|refine gA F154 ?_|refine gB ?_|with_reducible rfl)
  rfl
 rw[h1]at c1;have l1:=dV h1;have l2:=T8 h1;rw[if_pos rfl];refine eP F154 ?_;refine aq (c1) ?_;refine gO F154 ?_;refine aR ?_;refine gO F154 ?_;refine aW (by decide) ?_;refine gO F154 ?_;refine J.rangeFunc (aV rfl) Tryz.func233 rfl (by decide) rfl (fun ll d tt=>?_);refine gO F233 ?_;refine ai (fun h3=>?_) (fun h3=>?_)
 ·obtain rfl:t=[46]:=by simpa using h3
  refine gO F233 ?_;refine J.ky ag F233 rfl rfl rfl rfl (fun e=>nomatch e) ?_;(conv=>whnf);refine J.freeze 0 ?_;refine gO F154 ?_;refine J.slice3 (n:=8) ag rfl rfl rfl rfl rfl (aV rfl) (aV rfl) (aV rfl) (aV rfl) (by decide) (by decide) ?_;refine gO F154 ?_;refine J.lW ag F154 rfl rfl rfl rfl rfl ?_;rfl
 have hr:t≠[46]:=by simpa using h3
 have tn:Nm.labels t=Nm.split t:=by simp[Nm.labels,hr]
 rw[tn]at l2 ⊢;refine gO F233 ?_;refine J.loop (κ:=Text × List Text) [4,5,9,10,11,12,13,14,15,16,17,18,19,20,21,22,23,24] (fun x=>[(4,.d (.str x.1))]) (fun x=>[(0,.arr 0 (9,1) (ad6 (8-x.2.length) (DV.str [])++x.2.map .str)),(2,.cells [.d (.int .i64 ((8:Int)-x.2.length))])]) (fun x=>x.1.length<=60/\Nm.split t=Nm.split x.1++x.2) (fun x=>x.1.length) (t,[]) ⟨l1,by simp⟩ ?_ ?_
 ·(conv=>whnf);repeat (first|exact trivial|(refine sI ?_;conv=>whnf))
  refine And.intro rfl ?_;(conv=>whnf);repeat (first|exact trivial|(refine sI ?_;conv=>whnf))
  refine And.intro rfl ?_;exact sZ
 rintro⟨rest,S⟩ ⟨k1,k2⟩ IH;simp only at k1 k2;obtain⟨i,x,P,e1,e2,e3,e4,e5,e6,e7⟩:=CM rest;have c1:=CL rest (by unfold maxLen;omega);have hw:IntKind.i64.wrap (i+1)=i+1:=wrap64 (by omega) (by omega);have e8:Nm.split t=P++x::S:=by rw[k2,e5];simp
 have hn:S.length+1<=8:=by rw[e8]at l2;simp at l2;omega
 rw[e1]at c1;refine J.head ag F233 2000 ?_;(conv=>whnf);refine aq (c1) ?_;refine gO F233 ?_;refine aW ⟨by rw[hw];simp;omega,by rw[hw];simp;omega,by simp⟩ ?_;refine gO F233 ?_;rw[hw];simp only[afq,aeB,afr,ahj,e4];refine J.yield 0 rfl rfl rfl (aV rfl) (lT (aV rfl)) rfl ?_;(conv=>whnf);refine gO F154 ?_;refine J.begin 0 rfl rfl rfl ?_;(conv=>whnf);refine gO F154 ?_;obtain⟨m,hm⟩:∃ m,8-S.length=m+1:=⟨7-S.length,by omega⟩;have Ah:IntKind.i64.wrap ((8:Int)-S.length-1)=(m:Int):=by rw[wrap64 (by omega) (by omega)];omega
 have uj:=T9 (m:=m) (a:=DV.str []) (b:=DV.str x) (L:=S.map .str);rw[hm];refine aW ⟨by rw[Ah];omega,by rw[Ah];simp;omega⟩ ?_;refine gO F154 ?_;rw[Ah];refine aD (e := .str []) ⟨by omega,by simp[ael]⟩ rfl ?_;refine gO F154 ?_;rw[afr,uj];refine J.pb 0 rfl rfl rfl ?_;(conv=>whnf);refine gO F233 ?_;refine aU (by decide) ?_;refine gO F233 ?_;refine ai (fun h5=>?_) (fun h5=>?_)
 ·refine gO F233 ?_;refine J.ky ag F233 rfl rfl rfl rfl (fun e=>nomatch e) ?_;(conv=>whnf);refine J.freeze 0 ?_;refine gO F154 ?_
  refine J.slice3 (n:=m) ag rfl rfl rfl rfl rfl (aV rfl) (aV rfl) (aV rfl) (aV rfl) (by simp) (fun e he=>by
   rcases aeI.1 he with h|h
   ·rw[(List.mem_replicate.1 h).2];rfl
   ·rcases afu.1 h with rfl|h
    ·rfl
    ·obtain⟨y,-,rfl⟩:=aer.1 h;rfl) ?_
  refine gO F154 ?_;refine J.lW ag F154 rfl rfl rfl rfl rfl ?_;rw[e8,e6 (by simpa using h5),List.drop_left' (by simp)];rfl
 ·have h5:0<=i:=by simpa using h5
  refine gO F233 ?_;refine aW ⟨by simp,by simp;omega,by simp;omega⟩ ?_;refine gO F233 ?_;simp only[afq,aeB,afB,agX];refine J.back (IH (rest.take i.toNat,x::S) ⟨by simp;omega,by simp only;rw[e8,e7 h5]⟩ (by simp;omega)) ?_;(conv=>whnf);repeat (first|exact trivial|(refine sI ?_;conv=>whnf))
  refine And.intro (by rw[show 8-(rest.take i.toNat,x::S).2.length=m by simp;omega];rfl) ?_;(conv=>whnf);repeat (first|exact trivial|(refine sI ?_;conv=>whnf))
  refine And.intro (congrArg (DV.int .i64) (by simp;omega)) ?_;exact sZ
end Go.Proofs.YtfmdaiojokniiaaGreatDoor.P
end
section
namespace Go.Proofs.YtfmdaiojokniiaaGreatDoor.P
open Go Go.aA
set_option maxRecDepth 100000
theorem Ai(x a b:Int):ar E 277 [.int .i64 x,.int .i64 a,.int .i64 b] (· = .bool (decide (a<=x)&&decide (x<=b))):=by
 refine eP Tryz.func277 ?_;refine ai (fun h=>?_) (fun h=>?_)
 ·refine gO Tryz.func277 ?_;rw[h];rfl
 ·refine gO Tryz.func277 ?_;rw[h];rfl
theorem L0(x a b:Int):ar E 350 [.int .u8 x,.int .u8 a,.int .u8 b] (· = .bool (decide (a<=x)&&decide (x<=b))):=by
 refine eP Tryz.func350 ?_;refine ai (fun h=>?_) (fun h=>?_)
 ·refine gO Tryz.func350 ?_;rw[h];rfl
 ·refine gO Tryz.func350 ?_;rw[h];rfl
theorem L3(x:Int):ar E 176 [.int .i64 x] (· = .bool false):=by
 refine eP Tryz.func176 ?_;simp
theorem L4(x:List UInt8):ar E 351 [.str x] (· = .bool false):=by
 refine eP Tryz.func351 ?_;simp
def jP(a b:Int):Int:=if a<b then -1 else if b<a then 1 else 0
theorem CN(a b:Int):ar E 101 [.int .i64 a,.int .i64 b] (· = .int .i64 (jP a b)):=by
 refine eP Tryz.func101 ?_;repeat' (first|with_reducible(first|refine aq (L3 _) ?_|refine ax (L3 _) ?_|refine cY ?_|refine cN ?_|refine ai (fun _=>?_) (fun _=>?_))|refine gA Tryz.func101 ?_|refine gB ?_|with_reducible rfl)
 all_goals (simp_all[jP])
 all_goals omega
def xM(a b:List UInt8):Int:=if Op.bytesLess a b then -1 else if a=b then 0 else 1
theorem Ua(a b:List UInt8):ar E 332 [.str a,.str b] (· = .int .i64 (xM a b)):=by
 refine eP Tryz.func332 ?_;repeat' (first|with_reducible(first|refine aq (L4 _) ?_|refine ax (L4 _) ?_|refine cY ?_|refine cN ?_|refine ai (fun _=>?_) (fun _=>?_))|refine gA Tryz.func332 ?_|refine gB ?_|with_reducible rfl)
 all_goals (simp_all[xM])
def ru:List Int->Int
 |[]=>0
 |x::l=>if x=0 then ru l else x
theorem GL{l:List Int}:∀ {k:Nat},(∀ j,j<k->l[j]?=some 0)->ru l=ru (l.drop k)
 |0,_=>rfl
 |k+1,h=>by
  cases l with
  |nil=>rfl
  |cons x l =>
   have h0:=h 0 (by omega);simp at h0;subst h0;simp only[ru,if_true,List.drop_succ_cons];exact GL fun j hj=>by have:=h (j+1) (by omega);simpa using this
theorem Ub(l:List Int)(hl:l.length<=2147483648):ar E 331 [.sl (l.map (.int .i64))] (· = .int .i64 (ru l)):=by
 refine eP F331 ?_;refine J.loop (κ:=Nat) ([2,5]++rg 8 9) (fun k=>[(8,.d (.int .i64 k)),(2,.d (.int .i64 0))]) (fun _=>[]) (fun k=>k<=l.length/\∀ j,j<k->l[j]?=some 0) (fun k=>l.length-k) 0 ⟨afv _,fun j h=>by omega⟩ ?_ ?_
 ·exact sZ
 ·intro k hk IH;refine J.head ag F331 2000 ?_;(conv=>whnf);refine ai (fun h1=>?_) (fun h1=>?_)
  ·simp at h1;obtain⟨x,hx⟩:=aH h1;refine gO F331 ?_;refine eW (.int .i64 x) (by omega) (lk hx) rfl ?_;refine gO F331 ?_;refine ai (fun h2=>?_) (fun h2=>?_)
   ·refine gO F331 ?_;have aJ:x≠0:=by simpa using h2
    rw[GL hk.2,afH h1];have:l[k]=x:=by simpa [h1]using hx
    simp only[ru,this,if_neg aJ]
   ·refine gO F331 ?_;have h0:x=0:=by simpa using h2
    subst h0;refine J.back (IH (k+1) ⟨by omega,fun j hj=>?_⟩ (by omega)) ?_
    ·rcases adV j k with h|h
     ·exact hk.2 j h
     ·obtain rfl:j=k:=by omega
      exact hx
    ·exact sZ
  ·simp at h1;refine gO F331 ?_;rw[GL hk.2,afG h1];rfl
def rv(a b:Datum):Int:=ru [xM a.text b.text,jP a.n b.n,jP a.m b.m]
theorem Uc(a b:Datum):ar E 280 [a.enc,b.enc] (· = .int .i64 (rv a b)):=by
 refine eP Tryz.func280 ?_;refine dU ?_;refine ax (Ua _ _) ?_;refine gD ?_;refine ax (CN _ _) ?_;refine gD ?_;refine ax (CN _ _) ?_;refine gD ?_;refine ax (Ub [xM a.text b.text,jP a.n b.n,jP a.m b.m] (by simp)) ?_;refine gD ?_;refine gO Tryz.func280 ?_;rfl
def preB(a b:List UInt8):Bool:=b.isPrefixOf a
theorem Ud{a b:List UInt8}:(a.take b.length==b)=preB a b:=by
 unfold preB;rw[ahf,beq_iff_eq,ahR];constructor
 ·intro e;rw[<- e];exact List.take_prefix _ _
 ·intro e;exact(List.prefix_iff_eq_take.1 e).symm
theorem Ue{a b:List UInt8}(h:a.length<b.length):preB a b=false:=by
 unfold preB;rw[ahK];intro e;have:=(ahR.1 e).length_le;omega
theorem Uf(a b:List UInt8):ar E 207 [.str a,.str b] (· = .bool (preB a b)):=by
 refine eP Tryz.func207 ?_;refine ai (fun h=>?_) (fun h=>?_)
 ·simp at h;refine gO Tryz.func207 ?_;refine aW ⟨by simp,by simp,by simp;omega⟩ ?_;refine gO Tryz.func207 ?_;simp;exact Ud
 ·simp at h;refine gO Tryz.func207 ?_;rw[Ue h]
theorem CO(a b:List UInt8):ar E 133 [.str a,.str b] (· = .bool (preB a b)):=by
 refine eP Tryz.func133 ?_
 with_reducible refine aq (Uf _ _) ?_
 refine gO Tryz.func133 ?_
 with_reducible rfl
theorem L5(a:List UInt8):preB a [42]=Nm.iu a:=by
 cases a with
 |nil=>rfl
 |cons c a =>
  show((42:UInt8)==c&&ahS [] a)=(c==42);simp only[ahS,ahT];exact BEq.comm
theorem CP(a:List UInt8):ar E 278 [.str a] (· = .bool (Nm.iu a)):=by
 refine eP Tryz.func278 ?_
 with_reducible refine aq (CO _ _) ?_
 refine gO Tryz.func278 ?_;exact congrArg _ (L5 a)
def pf(c:UInt8):Bool:=(decide (97<=(c.toNat:Int))&&decide ((c.toNat:Int)<=122))||(decide (48<=(c.toNat:Int))&&decide ((c.toNat:Int)<=57))||((c.toNat:Int)==32)
def ir(t:List UInt8):Bool:=decide (1<=(t.length:Int))&&decide ((t.length:Int)<=40) && !(t.head?.any fun c=>(c.toNat:Int)==32) && !(t.getLast?.any fun c=>(c.toNat:Int)==32)&&t.all pf
theorem L6{t:List UInt8}(h1:1<=t.length)(h2:t.length<=40){c0 c1:UInt8}(h3:t[0]?=some c0)(h4:t[t.length-1]?=some c1)(h5:((c0.toNat:Int)==32)=false)(h6:((c1.toNat:Int)==32)=false):ir t=t.all pf:=by
 have e1:t.head?=some c0:=by rw[<- h3];exact ahN
 have e2:t.getLast?=some c1:=by rw[<- h4,ahO]
 have e3:decide (1<=(t.length:Int))=true:=by simp;omega
 have e4:decide ((t.length:Int)<=40)=true:=by simp;omega
 simp only[ir,e1,e2,e3,e4,ahJ,h5,h6,ahL,ahM,afC]
theorem okF{a b:Bool}{x y:Int}(h1:(!a)=true)(h2:(!b)=true)(h3:(x != y)=true):(a||b||(x==y))=false:=by
 cases a<;>cases b<;>simp_all
theorem Ug{a b d:Bool}(h:(!a)=false):(a||b||d)=true:=by cases a<;>simp_all
theorem Uh{a b d:Bool}(h:(!b)=false):(a||b||d)=true:=by cases b<;>simp_all
theorem Ui{a b:Bool}{x y:Int}(h:(x != y)=false):(a||b||(x==y))=true:=by simp_all
theorem L7(t:List UInt8):ar E 330 [.str t] (· = .bool (ir t)):=by
 refine eP F330 ?_
 with_reducible refine aq (Ai _ _ _) ?_
 refine gO F330 ?_;refine ai (fun h1=>?_) (fun h1=>?_)
 ·refine gO F330 ?_;refine a8 ?_;refine gO F330 ?_;refine a8 ?_;refine gO F330 ?_;have:(decide (1<=(t.length:Int))&&decide ((t.length:Int)<=40))=false:=by rw[afD]at h1;exact h1
  simp only[ir,this,ahH]
 ·have hb:1<=t.length/\t.length<=40:=by simp at h1;omega
  obtain⟨c0,ry⟩:=aH (l:=t) (k:=0) (by omega);obtain⟨c1,kb⟩:=aH (l:=t) (k:=t.length-1) (by omega);have hw:(IntKind.i64.wrap (t.length-1))=((t.length-1:Nat):Int):=by rw[wrap64 (by omega) (by omega)];omega
  refine gO F330 ?_;refine kX c0 (by decide) ry ?_;refine gO F330 ?_;refine ai (fun h2=>?_) (fun h2=>?_)
  ·refine gO F330 ?_;refine a8 ?_;refine gO F330 ?_;have e1:t.head?=some c0:=by rw[<- ry];exact ahN
   simp only[ir,e1,ahJ,h2,af1,ahI,ahH]
  ·refine gO F330 ?_;rw[hw];refine kX c1 (by omega) (by rw[afr];exact kb) ?_;refine gO F330 ?_;refine ai (fun h3=>?_) (fun h3=>?_)
   ·refine gO F330 ?_;have e2:t.getLast?=some c1:=by rw[<- kb,ahO]
    simp only[ir,e2,ahJ,h3,af1,ahI,ahH]
   ·rw[L6 hb.1 hb.2 ry kb h2 h3];refine gO F330 ?_;refine J.loop (κ:=Nat) ([3,4,2]++rg 24 19) (fun k=>[(24,.d (.int .i64 k))]) (fun _=>[]) (fun k=>k<=t.length/\∀ j c,j<k->t[j]?=some c->pf c=true) (fun k=>t.length-k) 0 ⟨afv _,fun j c h=>by omega⟩ ?_ ?_
    ·exact sZ
    ·intro k hk IH;have no:∀ c,t[k]?=some c->pf c=false->t.all pf=false:=fun c hc h=>by
      rw[ahK];intro aL;have:=ad'.1 aL c (afh hc);rw[h]at this;cases this
     refine J.head ag F330 2000 ?_;(conv=>whnf);refine ai (fun h4=>?_) (fun h4=>?_)
     ·simp at h4;obtain⟨c,hc⟩:=aH h4;have next:pf c=true->∀ j c',j<k+1->t[j]?=some c'->pf c'=true:=fun ho j c' hj yT=>by
       rcases adV j k with h|h
       ·exact hk.2 j c' h yT
       ·obtain rfl:j=k:=by omega
        rw[hc]at yT;cases yT;exact ho
      refine gO F330 ?_;refine kX c (by omega) (by rw[afr];exact hc) ?_;refine gO F330 ?_
      with_reducible refine aq (L0 _ _ _) ?_
      refine gO F330 ?_;refine ai (fun h5=>?_) (fun h5=>?_)
      ·refine gO F330 ?_
       with_reducible refine aq (L0 _ _ _) ?_
       refine gO F330 ?_;refine ai (fun h6=>?_) (fun h6=>?_)
       ·refine gO F330 ?_;refine ai (fun h7=>?_) (fun h7=>?_)
        ·refine gO F330 ?_;rw[no c hc (okF h5 h6 h7)]
        ·refine gO F330 ?_;refine J.back (IH (k+1) ⟨by omega,next (Ui h7)⟩ (by omega)) ?_;exact sZ
       ·refine gO F330 ?_;refine aR ?_;refine gO F330 ?_;refine J.back (IH (k+1) ⟨by omega,next (Uh h6)⟩ (by omega)) ?_;exact sZ
      ·refine gO F330 ?_;refine aR ?_;refine gO F330 ?_;refine aR ?_;refine gO F330 ?_;refine J.back (IH (k+1) ⟨by omega,next (Ug h5)⟩ (by omega)) ?_;exact sZ
     ·simp at h4;refine gO F330 ?_;have:t.all pf=true:=by
       rw[ad'];intro c hc;obtain⟨j,hj⟩:=List.getElem?_of_mem hc;exact hk.2 j c (by have:=aX hj;omega) hj
      rw[this]
structure qd where
 text:Int
 L8:Int
 L9:Int
 Ma:Int
 Mb:Int
 even:Bool
 single:Bool
 iu:Bool
@[reducible] def qd.enc (r : qd) : DV := .agg [.int .i64 r.text, .int .i64 r.L8, .int .i64 r.L9, .int .i64 r.Ma, .int .i64 r.Mb, .bool r.even, .bool r.single, .bool r.iu]
def fV:Nat->qd
 |1=>⟨0,1,1000000,0,0,false,false,true⟩
 |2=>⟨1,0,0,0,0,false,false,false⟩
 |3=>⟨1,0,0,0,0,false,true,false⟩
 |4=>⟨0,0,65535,0,100000,false,true,false⟩
 |5=>⟨3,0,0,0,0,false,false,true⟩
 |6=>⟨0,1,1000000,1,3,false,false,false⟩
 |7=>⟨0,1,1000000,1,3,false,false,false⟩
 |8=>⟨2,2,510,0,0,true,false,true⟩
 |_=>⟨0,0,0,0,0,false,false,false⟩
def nE(r:qd)(t:Text):Bool:=if r.text=1 then Nm.valid t && !Nm.iu t else if r.text=2 then Nm.valid t else if r.text=3 then ir t else t==[]
def kz(r:qd)(d:Datum):Bool :=
 (decide (r.L8<=d.n)&&decide (d.n<=r.L9))&&(decide (r.Ma<=d.m)&&decide (d.m<=r.Mb)) && !(r.even&&(d.n.tmod 2 != 0))&&nE r d.text
theorem Uj(r:qd)(d:Datum)(hd:d.text.length<=maxLen):ar E 279 [r.enc,d.enc] (· = .bool (kz r d)):=by
 obtain⟨rt,r1,r2,r3,r4,re,rs,rw⟩:=r;refine eP Tryz.func279 ?_;repeat' (first|with_reducible(first|refine aq (Ai _ _ _) ?_|refine ax (Ai _ _ _) ?_|refine aq (gU _ hd) ?_|refine ax (gU _ hd) ?_|refine aq (CP _) ?_|refine ax (CP _) ?_|refine aq (L7 _) ?_|refine ax (L7 _) ?_|refine cY ?_|refine cN ?_|refine ai (fun _=>?_) (fun _=>?_))|refine gA Tryz.func279 ?_|refine gB ?_|with_reducible rfl)
 all_goals simp_all[kz,nE]
 all_goals (intros;exfalso;omega)
theorem Uk{k:Nat}(h1:1<=k)(h8:k<=8):∃ cs,Cs=.agg cs/\(cs.drop (k*8)).take 8=(fV k).enc.cells:=by
 refine⟨_,rfl,?_⟩
 match k,h1,h8 with
 |1,_,_=>rfl
 |2,_,_=>rfl
 |3,_,_=>rfl
 |4,_,_=>rfl
 |5,_,_=>rfl
 |6,_,_=>rfl
 |7,_,_=>rfl
 |8,_,_=>rfl
structure cM.Fits(s:cM):Prop where
 name:s.name.length<=maxLen
 data:s.data.length<=2147483648
 texts:∀ d∈s.data,d.text.length<=maxLen
def mH(r:qd):Option Datum->List Datum->Bool
 |_,[]=>true
 |p,d::l=>kz r d&&(match p with|none=>true|some e=>decide (rv e d<0))&&mH r (some d) l
def lX(l:List Datum)(k:Nat):Option Datum:=if k=0 then none else l[k-1]?
theorem Mc{r:qd}{l:List Datum}{k:Nat}{d:Datum}(hd:l[k]?=some d):mH r (lX l k) (l.drop k)=(kz r d&&(match lX l k with|none=>true|some e=>decide (rv e d<0))&&mH r (lX l (k+1)) (l.drop (k+1))):=by
 have hk:=aX hd;rw[afH hk];have e1:l[k]=d:=by simpa [hk]using hd
 have e2:lX l (k+1)=some d:=by simp[lX,hd]
 rw[e1,e2];rfl
def er(s:cM):Bool:=Nm.valid s.name&&(decide (1<=s.type)&&decide (s.type<=8))&&(decide (0<=s.bY)&&decide (s.bY<=100000))&&(decide (1<=(s.data.length:Int))&&decide ((s.data.length:Int)<=8)) &&
 !((fV s.type.toNat).single&&((s.data.length:Int) != 1)) && !(Nm.iu s.name && !(fV s.type.toNat).iu)&&mH (fV s.type.toNat) none s.data
theorem tp(s:cM)(hf:s.Fits):ar E 220 [s.enc] (· = .bool (er s)):=by
 refine eP F220 ?_;repeat' (first|with_reducible(first|refine aq (gU _ hf.name) ?_|refine ax (gU _ hf.name) ?_|refine aq (Ai _ _ _) ?_|refine ax (Ai _ _ _) ?_|refine cY ?_|refine cN ?_|refine ai (fun _=>?_) (fun _=>?_))|refine gA F220 ?_|refine gB ?_|with_reducible rfl)
 all_goals try (simp only[afD,ahq,aff]at *;simp only[er, *,ahH,ahI];done)
 rename_i h1 h2 h3 h4;rw[aff]at h4;rw[ahq]at h1 h2 h3 h4;have ht:1<=s.type/\s.type<=8:=by simpa using h2
 have hl:1<=s.data.length/\s.data.length<=8:=by simp at h4;omega
 obtain⟨t,ob⟩:=ahP (a:=s.type) (by omega);obtain⟨cs,dP,Md⟩:=Uk (k:=t) (by omega) (by omega);cases dP;refine RM (fV t).enc (by omega) (by omega) (by decide) (by rw[ob];exact Md) rfl ?_;have dR:er s=(!((fV t).single&&((s.data.length:Int) != 1)) && !(Nm.iu s.name && !(fV t).iu)&&mH (fV t) none s.data):=by
  simp only[er,h1,h2,h3,h4,afC];rw[ob,afr]
 rw[dR];generalize fV t=r;clear dR Md;refine gO F220 ?_;repeat' (first|with_reducible(first|refine aq (CP _) ?_|refine ax (CP _) ?_|refine cY ?_|refine cN ?_|refine ai (fun _=>?_) (fun _=>?_))|refine gA F220 ?_|refine gB ?_|with_reducible rfl)
 all_goals try (simp only[aff,afD,ahq]at *;simp only[*,afC,af1,ahL,ahI,ahH,ahM];done)
 all_goals
  have gI:(!(r.single&&((s.data.length:Int) != 1)) && !(Nm.iu s.name && !r.iu)&&mH r none s.data)=mH r none s.data:=by
   try simp only[aff]at *
   simp only[*,af1,ahL,ahI,ahH,ahM,afC]
  rw[gI];clear gI;refine gO F220 ?_;refine J.loop (κ:=Nat) ([2,4,5]++rg 52 25) (fun k=>[(52,.d (.int .i64 k))]) (fun _=>[]) (fun k=>k<=s.data.length/\mH r none s.data=mH r (lX s.data k) (s.data.drop k)) (fun k=>s.data.length-k) 0 ⟨afv _,rfl⟩ ?_ ?_
  ·exact sZ
  ·intro k hk IH;refine J.head ag F220 2000 ?_;(conv=>whnf);refine ai (fun h5=>?_) (fun h5=>?_)
   ·have ah:k<s.data.length:=by simpa using h5
    obtain⟨d,hd⟩:=aH ah;have aG:=Mc (r:=r) hd;rw[<- hk.2]at aG;refine gO F220 ?_;refine eW d.enc (by omega) (lk hd) rfl ?_;refine gO F220 ?_;refine dU ?_;refine ax (Uj r d (hf.texts d (afh hd))) ?_;refine gD ?_;refine ai (fun h6=>?_) (fun h6=>?_)
    ·refine gD ?_;refine gO F220 ?_;refine a8 ?_;refine gO F220 ?_;rw[afD]at h6;rw[aG,h6,ahH,ahH]
    ·rw[ahq]at h6;refine gD ?_;refine ai (fun h7=>?_) (fun h7=>?_)
     ·have b9:0<k:=by simpa using h7
      obtain⟨e,he⟩:=aH (l:=s.data) (k:=k-1) (by omega);have hw:IntKind.i64.wrap ((k:Int)-1)=((k-1:Nat):Int):=by rw[wrap64 (by omega) (by omega)];omega
      have rz:lX s.data k=some e:=by simp[lX,he];omega
      refine gD ?_;rw[hw];refine eW e.enc (by omega) (lk he) rfl ?_;refine gD ?_;refine ax (Uc _ _) ?_;refine gD ?_;refine gO F220 ?_;refine ai (fun h8=>?_) (fun h8=>?_)
      ·refine gO F220 ?_;have:decide (rv e d<0)=false:=by simp at h8 ⊢;omega
       rw[aG,rz];dsimp only;rw[this,ahI,ahH]
      ·refine gO F220 ?_;have:decide (rv e d<0)=true:=by simp at h8 ⊢;omega
       refine J.back (IH (k+1) ⟨by omega,by rw[aG,rz];dsimp only;rw[this,h6];rfl⟩ (by omega)) ?_;exact sZ
     ·have b9:k=0:=by simp at h7;omega
      have rz:lX s.data k=none:=by simp[lX,b9]
      refine gD ?_;refine gO F220 ?_;refine aR ?_;refine gO F220 ?_;refine J.back (IH (k+1) ⟨by omega,by rw[aG,rz,h6];rfl⟩ (by omega)) ?_;exact sZ
   ·have aC:s.data.length<=k:=by simpa using h5
    refine gO F220 ?_;rw[hk.2,afG aC];rfl
def fX(n:Int):List DV:=[56,48,40,32,24,16,8,0].map fun k => .int .u8 (IntKind.u8.wrap (lJ .shr .u64 (IntKind.u64.wrap n) k))
def eX(t:Text):List DV := .int .u8 (IntKind.u8.wrap t.length)::t.map kV
theorem dz(n:Int):(fX n).length=8:=rfl
theorem mI(t:Text):(eX t).length=t.length+1:=by simp[eX]
theorem Ul(n:Int){k:Nat}(h:k<8):(fX n).take k++[.int .u8 (IntKind.u8.wrap (lJ .shr .u64 (IntKind.u64.wrap n) (56-8*(k:Int)).toNat))]=(fX n).take (k+1):=by
 match k,h with
 |0,_=>rfl
 |1,_=>rfl
 |2,_=>rfl
 |3,_=>rfl
 |4,_=>rfl
 |5,_=>rfl
 |6,_=>rfl
 |7,_=>rfl
theorem Um(l:List DV)(t:Text)(hl:l.length+t.length<2147483648):aw E 325 [.arr 0 (5,1) l] [.own 0 0,.d (.str t)] (fun a b=>a=.own 0 2/\b=[.arr 2 (5,1) (l++eX t)]):=by
 refine aw.run ag (fn:=Tryz.f325) Tryz.func325 (body:=Tryz.f325.body.getD .skip) rfl (by decide) 2000 rfl ?_;(conv=>whnf);refine aW ⟨by simp;omega,by simp[DV.cells]⟩ ?_;refine gO Tryz.func325 ?_;refine aW ⟨by simp;omega,by simp[kV,DV.cells]⟩ ?_;refine gO Tryz.func325 ?_;simp[eX]
theorem Un(t:Text)(hl:t.length<2147483648):aw E 325 [] [.d .aI,.d (.str t)] (fun a b=>a=.own 0 2/\b=[.arr 2 (5,1) (eX t)]):=by
 refine aw.run ag (fn:=Tryz.f325) Tryz.func325 (body:=Tryz.f325.body.getD .skip) rfl (by decide) 2000 rfl ?_;(conv=>whnf);refine aW ⟨by simp,by simp[DV.cells]⟩ ?_;refine gO Tryz.func325 ?_;refine aW ⟨by simp;omega,by simp[kV,DV.cells]⟩ ?_;refine gO Tryz.func325 ?_;simp[eX]
theorem CQ(l:List DV)(n:Int)(hl:l.length<2000000000):aw E 326 [.arr 0 (5,1) l] [.own 0 0,.d (.int .i64 n)] (fun a b=>a=.own 0 1/\b=[.arr 1 (5,1) (l++fX n)]):=by
 refine aw.run ag (fn:=Tryz.f326) Tryz.func326 (body:=Tryz.f326.body.getD .skip) rfl (by decide) 2000 rfl ?_;(conv=>whnf);refine J.loop (κ:=Nat) ([0]++rg 5 13) (fun k=>[(5,.d (.int .i64 (56-8*(k:Int)))),(0,.own 0 1)]) (fun k=>[(0,.arr 1 (5,1) (l++(fX n).take k))]) (fun k=>k<=8) (fun k=>8-k) 0 (afv _) ?_ ?_
 ·(conv=>whnf);repeat (first|exact trivial|(refine sI ?_;conv=>whnf))
  refine And.intro (by simp) ?_;exact sZ
 ·intro k hk IH;refine J.head ag Tryz.func326 2000 ?_;(conv=>whnf);refine ai (fun h=>?_) (fun h=>?_)
  ·have ah:k<8:=by simp at h;omega
   refine gO Tryz.func326 ?_;refine aW (by omega) ?_;refine gO Tryz.func326 ?_;refine aW ⟨by simp[dz];omega,by simp[DV.cells]⟩ ?_;refine gO Tryz.func326 ?_;refine J.back (IH (k+1) (by omega) (by omega)) ?_;(conv=>whnf);repeat (first|exact trivial|(refine sI ?_;conv=>whnf))
   refine And.intro (by rw[afb,Ul n ah]) ?_;exact sZ
  ·have aC:k=8:=by simp at h;omega
   subst aC;refine gO Tryz.func326 ?_;simp[show List.take 8 (fX n)=fX n from rfl]
def tq(d:Datum):List DV:=eX d.text++fX d.n++fX d.m
def tu(s:cM):List DV:=eX s.name++fX s.type++fX s.bY++[.int .u8 (IntKind.u8.wrap s.data.length)]
def mJ(s:cM):List DV:=tu s++s.data.flatMap tq
theorem Uo{r:qd}{t:Text}(h:nE r t=true):t.length<=60:=by
 unfold nE at h;split at h
 ·simp at h;exact dV h.1
 ·split at h
  ·exact dV h
  ·split at h
   ·simp[ir]at h;omega
   ·simp at h;simp[h]
theorem GM{r:qd}:∀ {p:Option Datum} {l:List Datum},mH r p l=true->∀ d∈l,kz r d=true
 |_,[],_,d,hd=>by simp at hd
 |p,e::l,h,d,hd=>by
  simp only[mH,aft]at h;rcases afu.1 hd with rfl|hd
  ·exact h.1.1
  ·exact GM h.2 d hd
theorem vt{s:cM}(h:er s=true):s.name.length<=60/\s.data.length<=8/\1<=s.data.length/\∀ d∈s.data,d.text.length<=60:=by
 simp only[er,aft,decide_eq_true_eq]at h;obtain⟨⟨⟨⟨⟨⟨h1,h2⟩,h3⟩,h4⟩,h5⟩,h6⟩,h7⟩:=h;refine⟨dV h1,by omega,by omega,fun d hd=>?_⟩;have:=GM h7 d hd;simp only[kz,aft]at this;exact Uo this.2
theorem Up{d:Datum}(h:d.text.length<=60):(tq d).length<=77:=by simp[tq,mI,dz];omega
theorem Me{l:List Datum}(h:∀ d∈l,d.text.length<=60):(l.flatMap tq).length<=77*l.length:=by
 induction l with
 |nil=>simp
 |cons d l ih =>
  have h1:=Up (h d (List.mem_cons_self ..));have h2:=ih (fun e he=>h e (List.mem_cons_of_mem _ he));simp only[List.flatMap_cons,aey,List.length_cons];omega
theorem Mf{s:cM}(h:s.name.length<=60):(tu s).length<=78:=by simp[tu,mI,dz];omega
theorem Uq(s:cM)(hf:s.Fits)(hs:er s=true):ar E 267 [s.enc] (· = .aF [.sl (mJ s),.int .i64 0]):=by
 obtain⟨hn,hd,-,ht⟩:=vt hs;have hh:=Mf hn;have hlen:∀ k,(tu s++(s.data.take k).flatMap tq).length<=700:=fun k=>by
  have h1:=Me (l:=s.data.take k) (fun d hd=>ht d (List.mem_of_mem_take hd));have h2:(s.data.take k).length<=8:=by simp;omega
  simp only[aey];omega
 refine eP F267 ?_
 with_reducible refine aq (tp s hf) ?_
 refine gO F267 ?_;rw[hs];refine aR ?_;refine gO F267 ?_;refine xn (Un _ (by omega)) rfl ?_;refine gO F267 ?_
 with_reducible refine aS (CQ _ _ (by simp[mI];omega)) ?_
 refine gO F267 ?_
 with_reducible refine aS (CQ _ _ (by simp[mI,dz];omega)) ?_
 refine gO F267 ?_;refine aW ⟨by simp[mI,dz];omega,by simp[DV.cells]⟩ ?_;refine gO F267 ?_;refine J.loop (κ:=Nat) ([4,6]++rg 32 17) (fun k=>[(32,.d (.int .i64 k)),(4,.own 1 1)]) (fun k=>[(1,.arr 1 (5,1) (tu s++(s.data.take k).flatMap tq))]) (fun k=>k<=s.data.length) (fun k=>s.data.length-k) 0 (afv _) ?_ ?_
 ·(conv=>whnf);repeat (first|exact trivial|(refine sI ?_;conv=>whnf))
  refine And.intro (by simp[tu,aff]) ?_;exact sZ
 ·intro k hk IH;have Aj:=hlen k;refine J.head ag F267 2000 ?_;(conv=>whnf);refine ai (fun h=>?_) (fun h=>?_)
  ·have ah:k<s.data.length:=by simpa using h
   obtain⟨d,hd⟩:=aH ah;have om:=ht d (afh hd);refine gO F267 ?_;refine eW d.enc (by omega) (lk hd) rfl ?_;refine gO F267 ?_
   with_reducible refine aS (Um _ _ (by omega)) ?_
   refine gO F267 ?_
   with_reducible refine aS (CQ _ _ (by rw[aey,mI];omega)) ?_
   refine gO F267 ?_
   with_reducible refine aS (CQ _ _ (by rw[aey,aey,mI,dz];omega)) ?_
   refine gO F267 ?_;refine J.back (IH (k+1) (by omega) (by omega)) ?_;(conv=>whnf);repeat (first|exact trivial|(refine sI ?_;conv=>whnf))
   refine And.intro (by simp[cG hd,tq]) ?_;exact sZ
  ·have aC:k=s.data.length:=by simp at h;omega
   subst aC;refine gO F267 ?_;simp[mJ]
def Mg(d:Int)(x:DV):Int:=match x with
 | .int _ n=>IntKind.u64.wrap (BM .xor .u64 d (IntKind.u64.wrap n)*1099511628211)
 |_=>d
def nF(d:Int)(l:List DV):Int:=l.foldl Mg d
@[reducible] def isByte (x : DV) : Prop := ∃ n, x = .int .u8 n
theorem Ur(d:Int)(l m:List DV):nF d (l++m)=nF (nF d l) m:=List.foldl_append
theorem Us{d:Int}{l:List DV}{k:Nat}{x:DV}(h:l[k]?=some x):nF d (l.take (k+1))=Mg (nF d (l.take k)) x:=by rw[cG h,Ur];rfl
theorem Ut(d:Int)(l:List DV)(hl:l.length<=2147483648)(hb:∀ x∈l,isByte x):aw E 203 [.cells [.d (.int .u64 d)]] [.ptr 0 0,.d (.sl l)] (fun a b=>a=.aF []/\b=[.cells [.d (.int .u64 (nF d l))]]):=by
 refine aw.run ag (fn:=Tryz.f203) Tryz.func203 (body:=Tryz.f203.body.getD .skip) rfl (by decide) 2000 rfl ?_;(conv=>whnf);refine J.loop (κ:=Nat) ([5]++rg 8 14) (fun k=>[(8,.d (.int .i64 k))]) (fun k=>[(0,.cells [.d (.int .u64 (nF d (l.take k)))])]) (fun k=>k<=l.length) (fun k=>l.length-k) 0 (afv _) ?_ ?_
 ·(conv=>whnf);repeat (first|exact trivial|(refine And.intro (by first|with_reducible rfl|exact congrArg (DV.int .i64) (by omega)|exact rfl|exact congrArg (DV.int .i64) (wrap64 (by omega) (by omega))|exact congrArg (DV.int .i64) ((wrap64 (by omega) (by omega)).trans (by omega))) ?_;conv=>whnf))
 ·intro k hk IH;refine J.head ag Tryz.func203 2000 ?_;(conv=>whnf);refine ai (fun h=>?_) (fun h=>?_)
  ·have ah:k<l.length:=by simpa using h
   obtain⟨x,hx⟩:=aH ah;obtain⟨n,rfl⟩:=hb x (afh hx);refine gO Tryz.func203 ?_;refine eW (.int .u8 n) (by omega) (by simpa using hx) rfl ?_;refine gO Tryz.func203 ?_;refine J.back (IH (k+1) (by omega) (by omega)) ?_;(conv=>whnf);repeat (first|exact trivial|(refine And.intro (by first|with_reducible rfl|exact congrArg (DV.int .i64) (by omega)|exact congrArg _ (Us hx).symm|exact congrArg (DV.int .i64) (wrap64 (by omega) (by omega))|exact congrArg (DV.int .i64) ((wrap64 (by omega) (by omega)).trans (by omega))) ?_;conv=>whnf))
  ·have aC:k=l.length:=by simp at h;omega
   subst aC;refine gO Tryz.func203 ?_;simp
theorem gv(n:Int):∀ x∈fX n,isByte x:=by
 intro x hx;simp only[fX,aer]at hx;obtain⟨k,-,rfl⟩:=hx;exact⟨_,rfl⟩
theorem ln(t:Text):∀ x∈eX t,isByte x:=by
 intro x hx;simp only[eX,afu,aer]at hx;rcases hx with rfl|⟨b,-,rfl⟩
 ·exact⟨_,rfl⟩
 ·exact⟨_,rfl⟩
def xN:Int:=14695981039346656037
theorem Uu(l:List DV)(hl:l.length<=2147483648)(hb:∀ x∈l,isByte x):ar E 123 [.sl l] (· = .int .u64 (nF xN l)):=by
 refine eP Tryz.func123 ?_
 with_reducible refine aS (Ut _ l hl hb) ?_
 refine gO Tryz.func123 ?_;rfl
def Uv(k:Key):Bool:=decide (k.n>=1)&&decide (k.n<=1000000)&&decide (k.ku>=1)&&decide (k.ku<=3)
def Ak(a b:Int):Bool:=decide (a>=0)&&decide (a<=b)&&decide (b<=20000000)
def Uw(s:cM)(au:Text)(k:Key)(bL upto:Int):Bool:=Uv k&&Ak bL upto&&Nm.valid au && !Nm.iu au&&er s&&Nm.mF s.name au
def Al:c9:=⟨[],0,0,0,0,0⟩
theorem GN(s:cM):∀ x∈mJ s,isByte x:=by
 intro x hx;simp only[mJ,tu,aeI,List.mem_flatMap,tq,List.mem_singleton]at hx;rcases hx with(((h|h)|h)|h)|⟨d,-,((h|h)|h)⟩
 ·exact ln _ x h
 ·exact gv _ x h
 ·exact gv _ x h
 ·exact⟨_,h⟩
 ·exact ln _ x h
 ·exact gv _ x h
 ·exact gv _ x h
theorem Ux{s:cM}(h:er s=true):(mJ s).length<=700:=by
 obtain⟨hn,hd,-,ht⟩:=vt h;have h1:=Mf hn;have h2:=Me ht;simp only[mJ,aey];omega
def CS(a b:c9):Bool:=(a.au==b.au&&(a.key==b.key&&(a.ku==b.ku&&(a.bL==b.bL&&(a.upto==b.upto&&(a.sum==b.sum&&true))))))
theorem Mh{a b:c9}:CS a b=true↔a=b:=by
 obtain⟨a1,a2,a3,a4,a5,a6⟩:=a;obtain⟨b1,b2,b3,b4,b5,b6⟩:=b;simp[CS]
theorem di{α:Type}{p:α->Bool}{l:List α}{k:Nat}{x:α}(h:l[k]?=some x)(hx:p x=false):l.all p=false:=by
 rw[ahK];intro aL;have:=ad'.1 aL x (afh h);rw[hx]at this;cases this
theorem dv{α:Type}{p:α->Bool}{l:List α}{k:Nat}{x:α}(hk:(l.take k).all p=true)(h:l[k]?=some x)(hx:p x=true):(l.take (k+1)).all p=true:=by
 rw[cG h,List.all_append,hk];simp[hx]
theorem lY{α:Type}{p:α->Bool}{l:List α}{k:Nat}(hk:(l.take k).all p=true)(h:l.length<=k):l.all p=true:=by
 rwa [List.take_of_length_le h]at hk
theorem jQ(x a b:Int):ar E 208 [.int .i64 x,.int .i64 a,.int .i64 b] (· = .bool (decide (a<=x)&&decide (x<=b))):=by
 refine eP Tryz.func208 ?_;repeat' (first|with_reducible(first|refine cY ?_|refine cN ?_|refine ai (fun _=>?_) (fun _=>?_))|refine gA Tryz.func208 ?_|refine gB ?_|with_reducible rfl)
 all_goals simp_all
 all_goals omega
theorem Mi(t:Int):ar E 209 [.int .i64 t] (· = .bool (t==3||t==4)):=by
 refine eP Tryz.func209 ?_;repeat' (first|with_reducible(first|refine cY ?_|refine cN ?_|refine ai (fun _=>?_) (fun _=>?_))|refine gA Tryz.func209 ?_|refine gB ?_|with_reducible rfl)
 all_goals simp_all
def CT(a b:Datum):Bool:=if a.text≠b.text then Op.bytesLess a.text b.text else if a.n≠b.n then decide (a.n<b.n)else decide (a.m<b.m)
theorem Uy(a b:Datum):ar E 211 [a.enc,b.enc] (· = .bool (CT a b)):=by
 refine eP Tryz.func211 ?_;repeat' (first|with_reducible(first|refine cY ?_|refine cN ?_|refine ai (fun _=>?_) (fun _=>?_))|refine gA Tryz.func211 ?_|refine gB ?_|with_reducible rfl)
 all_goals simp_all[CT]
theorem Mj(a b:Int):ar E 297 [.int .i64 a,.int .i64 b] (· = .bool (Ak a b)):=by
 refine eP Tryz.func297 ?_;repeat' (first|with_reducible(first|refine cY ?_|refine cN ?_|refine ai (fun _=>?_) (fun _=>?_))|refine gA Tryz.func297 ?_|refine gB ?_|with_reducible rfl)
 all_goals simp_all[Ak]
 all_goals omega
theorem lp(t:Text):ar E 274 [.str t] (· = .bool (ir t)):=by
 by_cases hb:1<=t.length/\t.length<=40
 ·obtain⟨c0,ry⟩:=aH (l:=t) (k:=0) (by omega);obtain⟨c1,kb⟩:=aH (l:=t) (k:=t.length-1) (by omega);have hw:(IntKind.i64.wrap (t.length-1))=((t.length-1:Nat):Int):=by rw[wrap64 (by omega) (by omega)];omega
  refine eP F274 ?_;refine aU (by simp;omega) ?_;refine gO F274 ?_;refine aU (by simp;omega) ?_;refine gO F274 ?_;refine kX c0 (by decide) ry ?_;refine gO F274 ?_;refine ai (fun h2=>?_) (fun h2=>?_)
  ·refine gO F274 ?_;refine a8 ?_;refine gO F274 ?_;have e1:t.head?=some c0:=by rw[<- ry];exact ahN
   simp only[ir,e1,ahJ,h2,af1,ahI,ahH]
  ·refine gO F274 ?_;rw[hw];refine kX c1 (by omega) (by rw[afr];exact kb) ?_;refine gO F274 ?_;refine ai (fun h3=>?_) (fun h3=>?_)
   ·refine gO F274 ?_;have e2:t.getLast?=some c1:=by rw[<- kb,ahO]
    simp only[ir,e2,ahJ,h3,af1,ahI,ahH]
   ·rw[L6 hb.1 hb.2 ry kb h2 h3];refine gO F274 ?_;refine J.loop (κ:=Nat) ([2,4,5]++rg 26 26) (fun k=>[(4,.d (.int .i64 k))]) (fun _=>[]) (fun k=>k<=t.length/\(t.take k).all pf=true) (fun k=>t.length-k) 0 ⟨afv _,rfl⟩ ?_ ?_
    ·exact sZ
    ·intro k hk IH;refine J.head ag F274 2000 ?_;(conv=>whnf);refine ai (fun h4=>?_) (fun h4=>?_)
     ·simp at h4;obtain⟨c,hc⟩:=aH h4;refine gO F274 ?_;refine kX c (by omega) (by rw[afr];exact hc) ?_;refine gO F274 ?_;repeat' (first|with_reducible(first|refine cY ?_|refine cN ?_|refine ai (fun _=>?_) (fun _=>?_))|refine gA F274 ?_|refine gB ?_|with_reducible rfl)
      all_goals first
       |(rw[di hc (by simp_all[pf]<;>omega)];done)
       |skip
      all_goals
       refine gO F274 ?_;refine J.back (IH (k+1) ⟨by omega,dv hk.2 hc (by simp_all[pf]<;>omega)⟩ (by omega)) ?_;exact sZ
     ·simp at h4;refine gO F274 ?_;rw[lY hk.2 h4]
 ·have bI:ir t=false:=by
   simp only[ir,ahU,decide_eq_false_iff_not];omega
  rw[bI];refine eP F274 ?_;refine ai (fun h=>?_) (fun h=>?_)
  ·refine gO F274 ?_;refine a8 ?_;refine gO F274 ?_;refine a8 ?_;refine gO F274 ?_;refine a8 ?_;refine gO F274 ?_
   with_reducible rfl
  ·simp at h;refine gO F274 ?_;refine aY (by simp;omega) ?_;refine gO F274 ?_;refine a8 ?_;refine gO F274 ?_;refine a8 ?_;refine gO F274 ?_
   with_reducible rfl
theorem tv(n:Int):(n==0)=(decide (0<=n)&&decide (n<=0)):=by
 rw[ahf];simp;omega
theorem Uz(k:Nat)(d:Datum)(hk:1<=k/\k<=8)(hd:d.text.length<=maxLen):ar E 210 [.int .i64 k,d.enc] (· = .bool (kz (fV k) d)):=by
 match k,hk with
 |1,_ =>
  refine eP F210 ?_;repeat' (first|with_reducible(first|refine aq (jQ _ _ _) ?_|refine ax (jQ _ _ _) ?_|refine aq (eO _ hd) ?_|refine ax (eO _ hd) ?_|refine aq (jg _ hd) ?_|refine ax (jg _ hd) ?_|refine aq (lp _) ?_|refine ax (lp _) ?_|refine cY ?_|refine cN ?_|refine ai (fun _=>?_) (fun _=>?_))|refine gA F210 ?_|refine gB ?_|with_reducible rfl)
  all_goals simp_all[kz,nE,fV]
  all_goals first|omega|exact tv _
 |2,_ =>
  refine eP F210 ?_;repeat' (first|with_reducible(first|refine aq (jQ _ _ _) ?_|refine ax (jQ _ _ _) ?_|refine aq (eO _ hd) ?_|refine ax (eO _ hd) ?_|refine aq (jg _ hd) ?_|refine ax (jg _ hd) ?_|refine aq (lp _) ?_|refine ax (lp _) ?_|refine cY ?_|refine cN ?_|refine ai (fun _=>?_) (fun _=>?_))|refine gA F210 ?_|refine gB ?_|with_reducible rfl)
  all_goals simp_all[kz,nE,fV]
  all_goals first|omega|exact tv _
 |3,_ =>
  refine eP F210 ?_;repeat' (first|with_reducible(first|refine aq (jQ _ _ _) ?_|refine ax (jQ _ _ _) ?_|refine aq (eO _ hd) ?_|refine ax (eO _ hd) ?_|refine aq (jg _ hd) ?_|refine ax (jg _ hd) ?_|refine aq (lp _) ?_|refine ax (lp _) ?_|refine cY ?_|refine cN ?_|refine ai (fun _=>?_) (fun _=>?_))|refine gA F210 ?_|refine gB ?_|with_reducible rfl)
  all_goals simp_all[kz,nE,fV]
  all_goals first|omega|exact tv _
 |4,_ =>
  refine eP F210 ?_;repeat' (first|with_reducible(first|refine aq (jQ _ _ _) ?_|refine ax (jQ _ _ _) ?_|refine aq (eO _ hd) ?_|refine ax (eO _ hd) ?_|refine aq (jg _ hd) ?_|refine ax (jg _ hd) ?_|refine aq (lp _) ?_|refine ax (lp _) ?_|refine cY ?_|refine cN ?_|refine ai (fun _=>?_) (fun _=>?_))|refine gA F210 ?_|refine gB ?_|with_reducible rfl)
  all_goals simp_all[kz,nE,fV]
  all_goals first|omega|exact tv _
 |5,_ =>
  refine eP F210 ?_;repeat' (first|with_reducible(first|refine aq (jQ _ _ _) ?_|refine ax (jQ _ _ _) ?_|refine aq (eO _ hd) ?_|refine ax (eO _ hd) ?_|refine aq (jg _ hd) ?_|refine ax (jg _ hd) ?_|refine aq (lp _) ?_|refine ax (lp _) ?_|refine cY ?_|refine cN ?_|refine ai (fun _=>?_) (fun _=>?_))|refine gA F210 ?_|refine gB ?_|with_reducible rfl)
  all_goals simp_all[kz,nE,fV]
  all_goals first|omega|exact tv _
 |6,_ =>
  refine eP F210 ?_;repeat' (first|with_reducible(first|refine aq (jQ _ _ _) ?_|refine ax (jQ _ _ _) ?_|refine aq (eO _ hd) ?_|refine ax (eO _ hd) ?_|refine aq (jg _ hd) ?_|refine ax (jg _ hd) ?_|refine aq (lp _) ?_|refine ax (lp _) ?_|refine cY ?_|refine cN ?_|refine ai (fun _=>?_) (fun _=>?_))|refine gA F210 ?_|refine gB ?_|with_reducible rfl)
  all_goals simp_all[kz,nE,fV]
  all_goals first|omega|exact tv _
 |7,_ =>
  refine eP F210 ?_;repeat' (first|with_reducible(first|refine aq (jQ _ _ _) ?_|refine ax (jQ _ _ _) ?_|refine aq (eO _ hd) ?_|refine ax (eO _ hd) ?_|refine aq (jg _ hd) ?_|refine ax (jg _ hd) ?_|refine aq (lp _) ?_|refine ax (lp _) ?_|refine cY ?_|refine cN ?_|refine ai (fun _=>?_) (fun _=>?_))|refine gA F210 ?_|refine gB ?_|with_reducible rfl)
  all_goals simp_all[kz,nE,fV]
  all_goals first|omega|exact tv _
 |8,_ =>
  refine eP F210 ?_;repeat' (first|with_reducible(first|refine aq (jQ _ _ _) ?_|refine ax (jQ _ _ _) ?_|refine aq (eO _ hd) ?_|refine ax (eO _ hd) ?_|refine aq (jg _ hd) ?_|refine ax (jg _ hd) ?_|refine aq (lp _) ?_|refine ax (lp _) ?_|refine cY ?_|refine cN ?_|refine ai (fun _=>?_) (fun _=>?_))|refine gA F210 ?_|refine gB ?_|with_reducible rfl)
  all_goals simp_all[kz,nE,fV]
  all_goals first|omega|exact tv _
theorem lZ:∀ (a:Text),Op.bytesLess a a=false
 |[]=>rfl
 |c::a=>by simp[Op.bytesLess,lZ a]
theorem UA(a b:Datum):CT a b=decide (rv a b<0):=by
 unfold CT rv;by_cases h1:a.text=b.text
 ·simp only[h1,ne_eq,not_true_eq_false,if_false,xM,lZ,Bool.false_eq_true,ru,if_true,jP];by_cases h2:a.n=b.n
  ·simp only[h2,not_true_eq_false,if_false,Int.lt_irrefl,if_true];rw[ahf];simp only[decide_eq_true_eq];repeat' split
   all_goals omega
  ·simp only[h2,not_false_eq_true,if_true];rw[ahf];simp only[decide_eq_true_eq];repeat' split
   all_goals omega
 ·simp only[h1,ne_eq,not_false_eq_true,if_true,xM,ru];cases h:Op.bytesLess a.text b.text
  ·simp[h1]
  ·simp
theorem UB{k:Nat}(h:1<=k/\k<=8):(fV k).single=((k:Int)==3||(k:Int)==4):=by
 match k,h with
 |1,_=>rfl
 |2,_=>rfl
 |3,_=>rfl
 |4,_=>rfl
 |5,_=>rfl
 |6,_=>rfl
 |7,_=>rfl
 |8,_=>rfl
theorem UC{k:Nat}(h:1<=k/\k<=8):(!(fV k).iu)=((k:Int) != 1&&(k:Int) != 5&&(k:Int) != 8):=by
 match k,h with
 |1,_=>rfl
 |2,_=>rfl
 |3,_=>rfl
 |4,_=>rfl
 |5,_=>rfl
 |6,_=>rfl
 |7,_=>rfl
 |8,_=>rfl
end Go.Proofs.YtfmdaiojokniiaaGreatDoor.P
end
section
namespace Go.Proofs.YtfmdaiojokniiaaGreatDoor.P
open Go Go.aA
set_option maxRecDepth 100000
set_option maxHeartbeats 4000000
theorem UD(s:cM):er s=(Nm.valid s.name&&(decide (1<=s.type)&&decide (s.type<=8))&&(decide (0<=s.bY)&&decide (s.bY<=100000))&&(decide (1<=(s.data.length:Int))&&decide ((s.data.length:Int)<=8)) &&
  !((s.type==3||s.type==4)&&decide ((s.data.length:Int)>1)) && !(Nm.iu s.name&&(s.type != 1&&s.type != 5&&s.type != 8))&&mH (fV s.type.toNat) none s.data):=by
 by_cases ht:1<=s.type/\s.type<=8
 ·by_cases hn:1<=(s.data.length:Int)
  ·obtain⟨t,ob⟩:=ahP (a:=s.type) (by omega);have h8:1<=t/\t<=8:=by omega
   have e1:=UB h8;have e2:=UC h8;have e3:((s.data.length:Int) != 1)=decide ((s.data.length:Int)>1):=by
    rw[ahf];simp;omega
   simp only[er,ob,afr,e1,e2,e3]
  ·simp[er,hn]
 ·simp only[er];have:(decide (1<=s.type)&&decide (s.type<=8))=false:=by
   rw[ahU];simp;omega
  simp only[this,ahI,ahH]
theorem UE(k:Int)(d:Datum)(hk:1<=k/\k<=8)(hd:d.text.length<=maxLen):ar E 210 [.int .i64 k,d.enc] (· = .bool (kz (fV k.toNat) d)):=by
 obtain⟨t,rfl⟩:=ahP (a:=k) (by omega);rw[afr];exact Uz t d (by omega) hd
theorem xO(s:cM)(hf:s.Fits):ar E 140 [s.enc] (· = .bool (er s)):=by
 rw[UD];refine eP F140 ?_;repeat' (first|with_reducible(first|refine aq (eO _ hf.name) ?_|refine ax (eO _ hf.name) ?_|refine aq (jQ _ _ _) ?_|refine ax (jQ _ _ _) ?_|refine aq (Mi _) ?_|refine ax (Mi _) ?_|refine aq (jg _ hf.name) ?_|refine ax (jg _ hf.name) ?_|refine cY ?_|refine cN ?_|refine ai (fun _=>?_) (fun _=>?_))|refine gA F140 ?_|refine gB ?_|with_reducible rfl)
 all_goals try simp only[aff]at *
 all_goals try (simp only[afD,ahq]at *;simp only[*,ahH,ahI,afC,af1,ahL,ahT,ahM];done)
 all_goals
  have gI:∀ {a b c d e f:Bool},(!a)=false->(!b)=false->(!c)=false->(!d)=false->e=false->f=false->∀ g:Bool,(a&&b&&c&&d && !e && !f&&g)=g:=fun h1 h2 h3 h4 h5 h6 g=>by
   simp_all
  have Mk:1<=s.type/\s.type<=8:=by simp_all
  have hl:s.data.length<=8:=by simp_all<;>omega
  rw[gI (by assumption) (by assumption) (by assumption) (by assumption) (by simp_all<;>omega) (by simp_all) _];clear gI;refine gO F140 ?_;refine J.loop (κ:=Nat) ([2,4]++rg 56 33) (fun k=>[(4,.d (.int .i64 k))]) (fun _=>[]) (fun k=>k<=s.data.length/\mH (fV s.type.toNat) none s.data=mH (fV s.type.toNat) (lX s.data k) (s.data.drop k)) (fun k=>s.data.length-k) 0 ⟨afv _,rfl⟩ ?_ ?_
  ·exact sZ
  ·intro k hk IH;refine J.head ag F140 2000 ?_;(conv=>whnf);refine ai (fun h5=>?_) (fun h5=>?_)
   ·have ah:k<s.data.length:=by simpa using h5
    obtain⟨d,hd⟩:=aH ah;have aG:=Mc (r:=fV s.type.toNat) hd;rw[<- hk.2]at aG;refine gO F140 ?_;refine dU ?_;refine eW d.enc (by omega) (lk hd) rfl ?_;refine gD ?_;refine ax (UE _ d Mk (hf.texts d (afh hd))) ?_;refine gD ?_;refine ai (fun h6=>?_) (fun h6=>?_)
    ·refine gD ?_;refine gO F140 ?_;refine a8 ?_;refine gO F140 ?_;rw[afD]at h6;rw[aG,h6,ahH,ahH]
    ·rw[ahq]at h6;refine gD ?_;refine ai (fun h7=>?_) (fun h7=>?_)
     ·have b9:0<k:=by simpa using h7
      obtain⟨e,he⟩:=aH (l:=s.data) (k:=k-1) (by omega);have hw:IntKind.i64.wrap ((k:Int)-1)=((k-1:Nat):Int):=by rw[wrap64 (by omega) (by omega)];omega
      have rz:lX s.data k=some e:=by simp[lX,he];omega
      refine gD ?_;rw[hw];refine eW e.enc (by omega) (lk he) rfl ?_;refine gD ?_;refine eW d.enc (by omega) (lk hd) rfl ?_;refine gD ?_;refine ax (Uy _ _) ?_;refine gD ?_;rw[UA];refine gO F140 ?_;refine ai (fun h8=>?_) (fun h8=>?_)
      ·refine gO F140 ?_;have:decide (rv e d<0)=false:=by simpa using h8
       rw[aG,rz];dsimp only;rw[this,ahI,ahH]
      ·refine gO F140 ?_;have:decide (rv e d<0)=true:=by simpa using h8
       refine J.back (IH (k+1) ⟨by omega,by rw[aG,rz];dsimp only;rw[this,h6];rfl⟩ (by omega)) ?_;exact sZ
     ·have b9:k=0:=by simp at h7;omega
      have rz:lX s.data k=none:=by simp[lX,b9]
      refine gD ?_;refine gO F140 ?_;refine aR ?_;refine gO F140 ?_;refine J.back (IH (k+1) ⟨by omega,by rw[aG,rz,h6];rfl⟩ (by omega)) ?_;exact sZ
   ·have aC:s.data.length<=k:=by simpa using h5
    refine gO F140 ?_;rw[hk.2,afG aC];rfl
def UF:cM:=⟨[97,46,120],1,5,[⟨[],7,0⟩]⟩
def UG:Key:=⟨3,1⟩
theorem rA:Uw UF [120] UG 10 20=true:=by decide +kernel
end Go.Proofs.YtfmdaiojokniiaaGreatDoor.P
end
