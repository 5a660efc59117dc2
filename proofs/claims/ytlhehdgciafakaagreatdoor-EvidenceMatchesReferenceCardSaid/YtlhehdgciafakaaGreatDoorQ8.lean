/- Lemmas of mine. Conditions: as stated. -/
import Derived.Test.YtlhehdgciafakaaGreatDoorQ6
import Derived.Test.YtlhehdgciafakaaGreatDoorQ7
set_option linter.unusedVariables false
set_option linter.unusedSimpArgs false
open Bool renaming false_and->ald,and_false->ale,eq_iff_iff->akN,not_true->ajz,not_eq_true'->ajb,not_eq_false'->akY,and_eq_true->ai2,true_and->aja,eq_false_iff->alh,not_false->ali,and_self->alj,and_true->alr,and_eq_false_iff->als
open Int renaming toNat_natCast->ai0,eq_ofNat_of_zero_le->aln,toNat_zero->ai'
open List renaming mem_of_getElem?->aiQ,length_map->aiO,length_append->ah5,drop_of_length_le->aje,take_length->akR,all_eq_true->ahH,replicate->ahC,mem_cons->ai3,mem_map->ahY,head?_eq_getElem?->alk,getLast?_eq_getElem?->alm,drop_zero->aku,suffix_refl->alo,getElem?_append_left->ahT,append_assoc->aiK,mem_append->aif,drop_eq_getElem_cons->ajf,isPrefixOf_iff_prefix->alp,isPrefixOf->alq
open Nat renaming zero_le->ai4,lt_or_ge->ahs
open Option renaming getD_none->aiZ,getD_some->ah8,any_some->alf
section
namespace Go.az
open Go Go.RowKit
section
variable {E:Env} {aj:FuncId} {R:cT} {s:List AV} {h:List ae} {ops:Array Oper} {o:Oper} {l:List Oper} {k:List aY}
end
end Go.az
namespace Go.az
open Go Go.RowKit
theorem I.qD{E:Env}{aj:FuncId}{R:cT}{td:List aY}{s:List AV}{h:List ae}{lits:List Nat}{rows:List br}(hp:R.rows.Perm rows)(H:I E aj ⟨R.n,R.Q,rows,R.fx⟩ lits td s h):I E aj R lits td s h:=by
 replace H:=H.to;refine .of ?_;unfold AW at H ⊢;intro c0 c t ts h0 h1 h2 h3 hr bz h4 h5 cs;refine H c0 c t ts h0 h1 h2 h3 hr ⟨⟨fun g hg=>bz.all.each g ?_,?_⟩,fun g hg=>bz.flat g (hp.mem_iff.2 hg)⟩ h4 h5 cs
 ·exact((hp.append_right R.fx.loops).mem_iff).2 hg
 ·exact(((hp.append_right R.fx.loops).flatMap_right br.cy).nodup_iff).1 bz.all.nodup
theorem bg{G:List (Nat × DV)}{s:List AV}{i:Nat}{v:AV}(h:s[i]?=some v):bk G s (.tmp i) v:=fun c a _ hs=>by
 have hl:i<a.tmps.size:=by rw[<- hs.1];exact aW h
 have:a.eval (.tmp i)=a.tmps[i]:=by simp[Act.eval,hl]
 rw[this];exact hs.2 i v _ h (by simp[hl])
end Go.az
end
section
namespace Go.Proofs.YtlhehdgciafakaaGreatDoor.P
open Go Go.az Go.RowKit
set_option maxRecDepth 100000
set_option maxHeartbeats 4000000
theorem IN(t:Text):aq E 211 [.str t] (· = .bool (Nm.label t)):=by
 have hl:¬ (1<=t.length/\t.length<=12)->Nm.label t=false:=fun h=>by simp[Nm.label];intro h1 h2;exact absurd ⟨h1,h2⟩ h
 by_cases IP:1<=t.length/\t.length<=12
 ·obtain⟨c,hc⟩:=aI (l:=t) (k:=0) oM;obtain⟨d,hd⟩:=aI (l:=t) (k:=t.length-1) oM;have hw:IntKind.i64.wrap ((t.length:Int)-1)=((t.length-1:Nat):Int):=by rw[wrap64 oM oM];omega
  refine eP F211.h ?_;refine aP (by simp;omega) ?_;refine gC ?_;refine aP (by simp;omega) ?_;refine gC ?_;refine mR c oM hc (gC ?_);apply ah<;>intro h1
  ·refine gC ?_;refine vT ?_;rw[D8 (k:=0) oM (by rw[D9 hc];simp at h1;omega)]
  refine gC ?_;refine mR d oM (by rw[hw];exact hd) ?_;refine gC ?_;apply ah<;>intro h2
  ·refine gC ?_;rw[D8 (k:=t.length-1) oM (by rw[D9 hd];simp at h2;omega)]
  refine gC ?_;refine I.lP t.length ([2,3,4]++rg 28 25) (fun k=>[(28,.d (.int .i64 k))]) (fun _=>[]) (fun k=>k<=t.length/\∀ i,i<k->Nm.rK t i=true) ⟨ai4 _,by omega⟩ ?_ ?_
  ·exact sZ
  rintro k ⟨hk,aM⟩ IH;refine zA ?_ ?_<;>intro h5
  ·have ai:k<t.length:=zD h5
   obtain⟨e,he⟩:=aI ai;have vg:=D9 he;have h0:e.toNat=45->0<k/\k+1<t.length:=fun h=>by
    simp at h1 h2;constructor
    ·refine Nat.pos_of_ne_zero fun h3=>?_;subst h3;rw[hc]at he;cases he;omega
    ·refine Nat.lt_of_not_le fun h3=>?_;obtain rfl:k=t.length-1:=by omega
     rw[hd]at he;cases he;omega
   have back:Nm.rK t k=true->_:=fun e=>IH (k+1) ⟨ai,fun i hi=>(Nat.lt_succ_iff_lt_or_eq.1 hi).elim (aM i) (fun h=>h ▸ e)⟩ oM;refine gC ?_;refine mR e oM (by rw[ai0];exact he) ?_;repeat' (first|with_reducible(first|refine cX ?_|apply ah<;>intro)|refine gE ?_|with_reducible rfl)
   all_goals try (refine I.run ag F211.h 2000 ?_;conv=>whnf)
   all_goals simp only[decide_eq_true_eq,decide_eq_false_iff_not,beq_iff_eq,beq_eq_false_iff_ne,bne_iff_ne,bne_eq_false_iff_eq]at *
   all_goals first
    |(rw[D8 ai (by rw[vg];omega)];done)
    |(refine I.back (back (by rw[vg];omega)) ?_;exact Iu)
  ·have aA:k=t.length:=by have:=of_decide_eq_false h5;omega
   subst aA;refine gC ?_;simp only[Nm.label];rw[decide_eq_true ⟨IP.1,IP.2,aM⟩]
 ·rw[hl IP];refine eP F211.h ?_;apply ah<;>intro h1
  ·repeat' (first|with_reducible(first|refine cX ?_|apply ah<;>intro)|refine gE ?_|with_reducible rfl)
  ·refine I.run ag F211.h 2000 ?_;(conv=>whnf);refine aN (by simp at h1 ⊢;omega) ?_;repeat' (first|with_reducible(first|refine cX ?_|apply ah<;>intro)|refine gE ?_|with_reducible rfl)
def pM(t:Text):Nat->Int
 |0 => -1
 |k+1=>if t[k]?=some 46 then k else pM t k
theorem Of(t:Text):∀ k,k<=t.length->(pM t k = -1/\46 ∉ t.take k)\/∃ m:Nat,pM t k=m/\m<k/\t.take k=t.take m++46::(t.take k).drop (m+1)/\46 ∉ (t.take k).drop (m+1)
 |0,_ => .inl ⟨rfl,by simp⟩
 |k+1,hk=>by
  obtain⟨c,hc⟩:=aI (l:=t) (k:=k) oM;have ht:=cj hc;have hl:(t.take k).length=k:=by simp;omega
  rw[pM,hc];by_cases h:c=46
  ·subst h;refine .inr ⟨k,by simp,by omega,?_,?_⟩
   ·rw[ht,aje (by simp;omega)]
   ·rw[aje (by simp;omega)];simp
  ·rw[if_neg (zD h),ht];rcases Of t k oM with⟨h1,h2⟩|⟨m,h1,h2,h3,h4⟩
   ·exact .inl ⟨h1,by simp[h2];exact fun e=>h e.symm⟩
   ·have e:(t.take k++[c]).drop (m+1)=(t.take k).drop (m+1)++[c]:=by rw[List.drop_append_of_le_length oM]
    refine .inr ⟨m,h1,by omega,?_,?_⟩
    ·rw[e];conv=>lhs;rw[h3];simp
    ·rw[e];simp[h4];exact fun e=>h e.symm
theorem WR(t:Text):(pM t t.length = -1/\Nm.split t=[t])\/∃ m:Nat,pM t t.length=m/\m<t.length/\Nm.split t=Nm.split (t.take m)++[t.drop (m+1)]:=by
 rcases Of t t.length (Nat.le_refl _)with⟨h1,h2⟩|⟨m,h1,h2,h3,h4⟩
 ·rw[akR]at h2;exact .inl ⟨h1,Nm.D1 t h2⟩
 ·rw[akR]at h3 h4;exact .inr ⟨m,h1,h2,by conv=>lhs;rw[h3,Nm.D0,Nm.D1 _ h4]⟩
theorem WS(t:Text)(ht:t.length<=maxLen):aq E 323 [.str t,.int .u8 46] (· = .int .i64 (pM t t.length)):=by
 unfold maxLen at ht;have hw:IntKind.i64.wrap ((t.length:Int)-1)=(t.length:Int)-1:=wrap64 oM oM;refine eP F323.h ?_;refine I.loop (κ:=Nat) ([4,5]++rg 9 10) (fun k=>[(5,.d (.int .i64 ((k:Int)-1)))]) (fun _=>[]) (fun k=>k<=t.length/\pM t t.length=pM t k) (fun k=>k) t.length ⟨Nat.le_refl _,rfl⟩ ?_ ?_
 ·exact sZ
 rintro k ⟨hk,hd⟩ IH;refine zA ?_ ?_<;>intro h5
 ·obtain⟨k,rfl⟩:∃ j,k=j+1:=⟨k-1,by have:=of_decide_eq_true h5;omega⟩;obtain⟨c,hc⟩:=aI (l:=t) (k:=k) oM;rw[pM,hc]at hd;refine gC ?_;refine mR c oM (by rw[show(((k+1:Nat):Int)-1).toNat=k by omega];exact hc) ?_;refine gC ?_;by_cases h:c=46
  ·subst h;refine aN dC (gC ?_);rw[hd,if_pos rfl,show(((k+1:Nat):Int)-1)=(k:Int) by omega]
  ·rw[if_neg (zD h)]at hd;refine aP (beq_eq_false_iff_ne.2 fun e=>h (UInt8.toNat_inj.1 (Int.ofNat.inj e))) (gC ?_);exact I.back (IH k ⟨by omega,hd⟩ oM) sZ
 ·have aA:k=0:=by have:=of_decide_eq_false h5;omega
  subst aA;refine gC ?_;rw[hd];rfl
theorem Ee(t:Text)(ht:t.length<=maxLen):aq E 275 [.str t,.int .u8 46] (· = .int .i64 (pM t t.length)):=by
 have c1:=WS t ht;refine eP Tryz.func275 ?_;refine ao (c1) ?_;refine gO Tryz.func275 ?_
 with_reducible rfl
def xf:Bool->List Text->Prop
 |false,S=>∀ y∈S,Nm.label y=true
 |true,S=>∃ R,S=[42]::R/\∀ y∈R,Nm.label y=true
theorem WT{P S:List Text}{x:Text}{w:Bool}(hS:xf w S)(h:w=true\/8<S.length+1\/(x≠[42]/\Nm.label x=false)):Nm.parts (P++x::S)=false:=by
 rw[<- Bool.not_eq_true,pL];rintro⟨h1,h2⟩;rcases h with rfl|h|⟨h3,h4⟩
 ·obtain⟨R,rfl,-⟩:=hS;have:=h2 (P.length+1) [42] sP;simp[fK]at this;exact absurd this dC
 ·simp at h1;omega
 ·have:=h2 P.length x sP;simp[fK,h3,h4]at this
theorem WU{S:List Text}{x:Text}(hS:xf false S)(h:S.length+1<=8)(hx:x=[42]\/Nm.label x=true):Nm.parts (x::S)=true:=by
 simp only[Nm.parts,ai2,decide_eq_true_eq,ahH,Bool.or_eq_true,beq_iff_eq];exact⟨h,hx.symm,hS⟩
theorem WV{S:List Text}{x:Text}{w:Bool}(hS:xf false S)(hw:w=(x==[42]))(hx:x=[42]\/Nm.label x=true):xf w (x::S):=by
 subst hw;cases h:x==[42]
 ·exact List.forall_mem_cons.2 ⟨hx.resolve_left (zD h),hS⟩
 ·exact⟨S,zD h,hS⟩
theorem Ef(t:Text):∃ (i:Int) (x:Text) (P:List Text),pM t t.length=i /\ -1<=i/\i<t.length/\t.drop (i+1).toNat=x/\Nm.split t=P++[x]/\(i<0->P=[])/\(0<=i->P=Nm.split (t.take i.toNat)):=by
 rcases WR t with⟨h1,h2⟩|⟨m,h1,h2,h3⟩
 ·exact⟨-1,t,[],h1,by omega,by omega,rfl,h2,fun _=>rfl,fun h=>by omega⟩
 ·exact⟨m,_,_,h1,by omega,by omega,rfl,by rw[show((m:Int)+1).toNat=m+1 by omega];exact h3,fun h=>by omega,fun _=>rfl⟩
theorem xg(t:Text)(ht:t.length<=maxLen):aq E 135 [.str t] (· = .bool (Nm.valid t)):=by
 refine eP F135.h ?_;apply ah<;>intro h1
 ·obtain rfl:t=[46]:=zD h1
  refine gC ?_;rfl
 have h1:t≠[46]:=zD h1
 refine gC ?_;apply ah<;>intro h2
 ·refine gC ?_;simp at h2;simp[Nm.valid,h1];omega
 have h2:t.length<=60:=by simp at h2;omega
 have hv:Nm.valid t=Nm.parts (Nm.split t):=by simp[Nm.valid,h1,h2]
 refine gC ?_;refine I.rangeFunc (bg rfl) Tryz.func210 rfl dC rfl (fun ll d tt=>?_);refine gC ?_;refine aP (zD h1) (gC ?_);refine I.loop (κ:=Text × Bool × List Text) [4,5,9,10,11,12,13,14,15,16,17,18,19,20,21,22,23,24] (fun x=>[(4,.d (.str x.1))]) (fun x=>[(1,.cells [.d (.int .i64 x.2.2.length)]),(2,.cells [.d (.bool x.2.1)])]) (fun x=>x.1.length<=60/\Nm.split t=Nm.split x.1++x.2.2/\x.2.2.length<=8/\xf x.2.1 x.2.2) (fun x=>x.1.length) (t,false,[]) ⟨h2,by simp,by simp,by simp[xf]⟩ ?_ ?_
 ·refine sY ?_
  refine⟨rfl, ?_⟩;exact sZ
 rintro⟨rest,w,S⟩ ⟨k1,k2,k3,k4⟩ IH;simp only at k1 k2 k3 k4;obtain⟨i,x,P,e1,e2,e3,e4,e5,e6,e7⟩:=Ef rest;have c1:=Ee rest (by unfold maxLen;omega);have hw:IntKind.i64.wrap (i+1)=i+1:=wrap64 oM oM;have e8:Nm.split t=P++x::S:=by rw[k2,e5];simp
 have bad:=fun h=>WT (P:=P) (x:=x) k4 h;rw[<- e8,<- hv]at bad;rw[e1]at c1;refine zT ?_;refine ao (c1) (gC ?_);refine bj ⟨by rw[hw];simp;omega,by rw[hw];simp;omega,by simp⟩ ?_;refine gC ?_;rw[hw];simp only[aiZ,ah8,ai0,akR,e4];refine I.yield 0 rfl rfl rfl (bg rfl) (nO (bg rfl)) rfl ?_;(conv=>whnf);refine gC ?_;refine I.begin 0 rfl rfl rfl ?_;(conv=>whnf);refine gC ?_;have hn:IntKind.i64.wrap ((S.length:Int)+1)=(S.length:Int)+1:=wrap64 oM oM;repeat' (first|with_reducible(first|refine cC (IN x) ?_|refine cX ?_|apply ah<;>intro)|refine gE ?_|with_reducible rfl)
 all_goals try (refine I.run ag F135.h 2000 ?_;conv=>whnf)
 all_goals rw[hn]at *
 all_goals try
  refine I.Ec 0 rfl rfl rfl ?_;(conv=>whnf);refine gC ?_;refine aN dC (gC ?_);refine vT ?_;refine I.mZ ag F210.h rfl rfl rfl rfl (fun e=>nomatch e) ?_;(conv=>whnf);refine gC ?_;refine I.kq ag F135.h rfl rfl rfl rfl rfl ?_;rw[bad (by simp_all;try omega)];rfl
 all_goals
  have hx:x=[42]\/Nm.label x=true:=by simp_all
  have h8:S.length+1<=8:=by simp_all;try omega
  have hS:xf false S:=by simp_all
  refine I.rO 0 rfl rfl rfl ?_;(conv=>whnf);refine gC ?_;refine aP dC (gC ?_);apply ah<;>intro h5
  ·refine gC ?_;refine I.mZ ag F210.h rfl rfl rfl rfl (fun e=>nomatch e) ?_;(conv=>whnf);refine gC ?_;refine I.kq ag F135.h rfl rfl rfl rfl rfl ?_;rw[hv,e8,e6 (zD h5),List.nil_append,WU hS h8 hx];rfl
  ·have h5:0<=i:=zD h5
   refine gC ?_;refine bj ⟨by simp,by simp;omega,by simp;omega⟩ ?_;refine gC ?_;simp only[aiZ,ah8,ai',aku];refine I.back (IH (rest.take i.toNat,x==[42],x::S) ⟨by simp;omega,by simp only;rw[e8,e7 h5],h8,WV hS rfl hx⟩ (by simp;omega)) ?_;refine sY ?_
   refine⟨by simp, ?_⟩;exact sZ
theorem Nm.Og(l:List UInt8)(h:Nm.valid l=true):1<=l.length:=by
 cases l with
 |nil=>exfalso;revert h;decide
 |cons c r=>simp
theorem Nm.WX(a z:List UInt8):Nm.split z <:+ Nm.split (a++46::z):=⟨Nm.split a,(Nm.D0 a z).symm⟩
theorem Nm.WY(p q:List (List UInt8))(hp:p≠[])(hq:q≠[]):Nm.glue (p++q)=Nm.glue p++46::Nm.glue q:=by
 induction p with
 |nil=>exact absurd rfl hp
 |cons x t ih =>
  cases t with
  |nil =>
   cases q with
   |nil=>exact absurd rfl hq
   |cons y u=>rfl
  |cons y u =>
   have:=ih sP;simp only[List.cons_append,Nm.glue]at this ⊢;rw[this];simp
theorem Nm.BN(s z:List UInt8)(hs:s≠[46])(hz:z≠[46]):Nm.under s z=true↔s=z\/∃ a,s=a++46::z:=by
 simp only[Nm.under,decide_eq_true_eq,Nm.labels,hs,hz,if_false];constructor
 ·rintro⟨p,hp⟩;cases p with
  |nil=>left;exact(Nm.NT _ _ hp).symm
  |cons x t =>
   right;refine⟨Nm.glue (x::t),?_⟩;rw[<- Nm.wW s,<- hp,Nm.WY _ _ sP (Nm.pK z),Nm.wW]
 ·rintro(rfl|⟨a,rfl⟩)
  ·exact alo _
  ·exact Nm.WX a z
theorem Nm.WZ(s z:List UInt8)(hs:Nm.valid s=true)(hz:Nm.valid z=true)(h1:s≠z)(h2:z≠[46]) :
  Nm.under s z=true↔z.length<s.length/\z <:+ s/\s[s.length-z.length-1]?=some 46:=by
 by_cases hr:s=[46]
 ·subst hr;have iB:=Nm.Og z hz;constructor
  ·intro h;simp only[Nm.under,decide_eq_true_eq,Nm.labels,h2,if_false,if_true]at h;exact absurd (List.eq_nil_of_suffix_nil h) (Nm.pK z)
  ·rintro⟨h,_⟩;exfalso;simp only[List.length_singleton]at h;omega
 ·rw[Nm.BN s z hr h2];constructor
  ·rintro(h|⟨a,rfl⟩)
   ·exact absurd h h1
   ·refine⟨by simp;omega,⟨a++[46],by simp⟩,?_⟩;rw[show(a++46::z).length-z.length-1=a.length by simp;omega];simp
  ·rintro⟨h,⟨p,rfl⟩,h3⟩;right;have hp:p≠[]:=by rintro rfl;simp at h
   rw[show(p++z).length-z.length-1=p.length-1 by simp,ahT (by have:=List.length_pos_iff.2 hp;omega)]at h3;refine⟨p.dropLast,?_⟩;have e:p.getLast hp=46:=by
    rw[List.getLast_eq_getElem];exact(List.getElem?_eq_some_iff.1 h3).2
   conv=>lhs;rw[<- List.dropLast_concat_getLast hp,e]
   simp
theorem Nm.W2(s z:List UInt8)(h:s=z\/z=[46]):Nm.under s z=true:=by
 simp only[Nm.under,decide_eq_true_eq];rcases h with rfl|rfl
 ·exact alo _
 ·simp[Nm.labels]
theorem iP(t:Text)(ht:t.length<=maxLen):aq E 70 [.str t] (· = .bool (Nm.valid t)):=by
 have c1:=xg t ht;refine eP Tryz.func70 ?_;refine ao (c1) ?_;refine gO Tryz.func70 ?_
 with_reducible rfl
def BO(a b:Text):Bool:=decide (b <:+ a)
theorem W3(a b:Text)(ha:a.length<=maxLen)(hb:b.length<=maxLen):aq E 215 [.str a,.str b] (· = .bool (BO a b)):=by
 unfold maxLen at ha hb;have hw:IntKind.i64.wrap ((a.length:Int)-b.length)=(a.length:Int)-b.length:=wrap64 oM oM;unfold BO;refine eP F215.h ?_;apply ah<;>intro h
 ·have h:=of_decide_eq_true h;refine gC ?_;rw[hw];refine bj ⟨by simp;omega,by simp;omega,by simp⟩ ?_;refine gC ?_;refine congrArg DV.bool ?_;rw[akN,beq_iff_eq,decide_eq_true_eq,List.suffix_iff_eq_drop];simp only[ah8,aiZ,ai0,akR,show((a.length:Int)-b.length).toNat=a.length-b.length by omega];exact eq_comm
 ·have h:=of_decide_eq_false h;refine gC ?_;rw[decide_eq_false];exact fun e=>by have:=e.length_le;omega
theorem W4(a b:Text)(ha:a.length<=maxLen)(hb:b.length<=maxLen):aq E 138 [.str a,.str b] (· = .bool (BO a b)):=by
 have c1:=W3 a b ha hb;refine eP Tryz.func138 ?_;refine ao (c1) ?_;refine gO Tryz.func138 ?_
 with_reducible rfl
theorem xi(t z:Text)(ht:t.length<=maxLen)(hz:z.length<=maxLen):aq E 73 [.str t,.str z] (· = .aG [.bool (Nm.fZ t z),.int .i64 (if Nm.valid t&&Nm.valid z then 0 else 11)]):=by
 unfold Nm.fZ;have c1:=xg t ht;have c2:=xg z hz;have c3:=W4 t z ht hz;cases h1:Nm.valid t
 ·rw[h1]at c1;refine eP F73.h ?_;repeat' (first|with_reducible(first|refine cC c1 ?_|refine cC c2 ?_|refine cX ?_|apply ah<;>intro)|refine gE ?_|with_reducible rfl)
  rfl
 cases h2:Nm.valid z
 ·rw[h1]at c1;rw[h2]at c2;refine eP F73.h ?_;repeat' (first|with_reducible(first|refine cC c1 ?_|refine cC c2 ?_|refine cX ?_|apply ah<;>intro)|refine gE ?_|with_reducible rfl)
  rfl
 have hu:=Nm.WZ t z h1 h2;have W5:=Nm.W2 t z;have l1:=dh h1;have l2:=dh h2;rw[h1]at c1;rw[h2]at c2;refine eP F73.h ?_;repeat' (first|with_reducible(first|refine cC c1 ?_|refine cC c2 ?_|refine cC c3 ?_|refine cX ?_|apply ah<;>intro)|refine gE ?_|with_reducible rfl)
 all_goals try
  rename_i e1 e2 e3 e4;have h5:t≠z:=zD e1
  have h6:z≠[46]:=zD e2
  have h7:z.length<t.length:=by simp at e3;omega
  have h8:z <:+ t:=by simpa [BO]using e4
  obtain⟨c,hc⟩:=aI (l:=t) (k:=t.length-z.length-1) oM;refine mR c (by rw[wrap64 (n:=(t.length:Int)-z.length) oM oM,wrap64 oM oM];omega) (by rw[wrap64 (n:=(t.length:Int)-z.length) oM oM,wrap64 oM oM,show((t.length:Int)-z.length-1).toNat=t.length-z.length-1 by omega];exact hc) ?_;refine gC ?_;have e:((c.toNat:Int)==46)=Nm.under t z:=by
   rw[akN,hu h5 h6,hc,beq_iff_eq];exact⟨fun h=>⟨h7,h8,congrArg some (UInt8.toNat_inj.1 (Int.ofNat.inj h))⟩,fun h=>by cases h.2.2;rfl⟩
  rw[e];rfl
 all_goals
  refine congrArg (fun b=>DV.aG [.bool b,.int .i64 0]) ?_;symm;first
   |(exact W5 (by simp_all))
   |(refine alh.2 fun e=>?_;have:=(hu (by simp_all) (by simp_all)).1 e;simp_all[BO];try omega)
theorem IQ{t:Text}(h:Nm.valid t=true):(Nm.labels t).length<=8:=by
 unfold Nm.labels;split
 ·simp
 ·rename_i hr;simp only[Nm.valid,hr,decide_false,Bool.false_or,ai2,Nm.parts,decide_eq_true_eq]at h;exact h.2.1
theorem W6{α:Type}{m:Nat}{a b:α}{L:List α}:(ahC (m+1) a++L).set m b=ahC m a++b::L:=by
 rw[List.replicate_succ',aiK,List.set_append_right _ _ sP];simp
theorem IS{a b:Text}(h:Nm.labels a=Nm.labels b):a=b:=by
 unfold Nm.labels at h;split at h<;>split at h
 ·simp_all
 ·exact absurd h.symm (Nm.pK _)
 ·exact absurd h (Nm.pK _)
 ·exact Nm.NT _ _ h
def zm(t:Text):DV:=if Nm.valid t then .aG [.sl ((Nm.labels t).map .str),.int .i64 0]else .aG [.aF,.int .i64 11]
theorem Eg(t:Text)(ht:t.length<=maxLen):aq E 144 [.str t] (· = zm t):=by
 have c1:=xg t ht;unfold zm;cases h1:Nm.valid t
 ·rw[h1]at c1;refine eP F144.h ?_;repeat' (first|with_reducible(first|refine cC c1 ?_|refine cX ?_|apply ah<;>intro)|refine gE ?_|with_reducible rfl)
  rfl
 rw[h1]at c1;have l1:=dh h1;have l2:=IQ h1;rw[if_pos rfl];refine eP F144.h ?_;refine ao (c1) (gC ?_);refine vF ?_;refine bj dC (gC ?_);refine I.rangeFunc (bg rfl) Tryz.func210 rfl dC rfl (fun ll d tt=>?_);refine gC ?_;apply ah<;>intro h3
 ·obtain rfl:t=[46]:=zD h3
  refine gC ?_;refine I.mZ ag F210.h rfl rfl rfl rfl (fun e=>nomatch e) ?_;(conv=>whnf);refine I.freeze 0 (gC ?_);refine I.slice3 (n:=8) ag rfl rfl rfl rfl rfl (bg rfl) (bg rfl) (bg rfl) (bg rfl) dC dC (gC ?_);refine I.kq ag F144.h rfl rfl rfl rfl rfl ?_;rfl
 have hr:t≠[46]:=zD h3
 have pN:Nm.labels t=Nm.split t:=by simp[Nm.labels,hr]
 rw[pN]at l2 ⊢;refine gC ?_;refine I.loop (κ:=Text × List Text) [4,5,9,10,11,12,13,14,15,16,17,18,19,20,21,22,23,24] (fun x=>[(4,.d (.str x.1))]) (fun x=>[(0,.arr 0 (9,1) (ahC (8-x.2.length) (DV.str [])++x.2.map .str)),(2,.cells [.d (.int .i64 ((8:Int)-x.2.length))])]) (fun x=>x.1.length<=60/\Nm.split t=Nm.split x.1++x.2) (fun x=>x.1.length) (t,[]) ⟨l1,by simp⟩ ?_ ?_
 ·refine sY ?_
  refine⟨rfl, ?_⟩;refine sY ?_
  refine⟨rfl, ?_⟩;exact sZ
 rintro⟨rest,S⟩ ⟨k1,k2⟩ IH;simp only at k1 k2;obtain⟨i,x,P,e1,e2,e3,e4,e5,e6,e7⟩:=Ef rest;have c1:=Ee rest (by unfold maxLen;omega);have hw:IntKind.i64.wrap (i+1)=i+1:=wrap64 oM oM;have e8:Nm.split t=P++x::S:=by rw[k2,e5];simp
 have hn:S.length+1<=8:=by rw[e8]at l2;simp at l2;omega
 rw[e1]at c1;refine zT ?_;refine ao (c1) (gC ?_);refine bj ⟨by rw[hw];simp;omega,by rw[hw];simp;omega,by simp⟩ ?_;refine gC ?_;rw[hw];simp only[aiZ,ah8,ai0,akR,e4];refine I.yield 0 rfl rfl rfl (bg rfl) (nO (bg rfl)) rfl ?_;(conv=>whnf);refine gC ?_;refine I.begin 0 rfl rfl rfl ?_;(conv=>whnf);refine gC ?_;obtain⟨m,hm⟩:∃ m,8-S.length=m+1:=⟨7-S.length,by omega⟩;have BP:IntKind.i64.wrap ((8:Int)-S.length-1)=(m:Int):=by rw[wrap64 oM oM];omega
 have we:=W6 (m:=m) (a:=DV.str []) (b:=DV.str x) (L:=S.map .str);rw[hm];refine bj ⟨by rw[BP];omega,by rw[BP];simp;omega⟩ ?_;refine gC ?_;rw[BP];refine aR (e := .str []) ⟨by omega,by simp[ahT]⟩ rfl (gC ?_);rw[ai0,we];refine I.rO 0 rfl rfl rfl ?_;(conv=>whnf);refine gC ?_;refine aP dC (gC ?_);apply ah<;>intro h5
 ·refine gC ?_;refine I.mZ ag F210.h rfl rfl rfl rfl (fun e=>nomatch e) ?_;(conv=>whnf);refine I.freeze 0 (gC ?_)
  refine I.slice3 (n:=m) ag rfl rfl rfl rfl rfl (bg rfl) (bg rfl) (bg rfl) (bg rfl) sP (fun e he=>by
   rcases aif.1 he with h|h
   ·rw[(List.mem_replicate.1 h).2];rfl
   ·rcases ai3.1 h with rfl|h
    ·rfl
    ·obtain⟨y,-,rfl⟩:=ahY.1 h;rfl) ?_
  refine gC ?_;refine I.kq ag F144.h rfl rfl rfl rfl rfl ?_;rw[e8,e6 (zD h5),List.drop_left' sP];rfl
 ·have h5:0<=i:=zD h5
  refine gC ?_;refine bj ⟨by simp,by simp;omega,by simp;omega⟩ ?_;refine gC ?_;simp only[aiZ,ah8,ai',aku];refine I.back (IH (rest.take i.toNat,x::S) ⟨by simp;omega,by simp only;rw[e8,e7 h5]⟩ (by simp;omega)) ?_;refine sY ?_
  refine And.intro (by rw[show 8-(rest.take i.toNat,x::S).2.length=m by simp;omega];rfl) ?_;refine sY ?_
  refine And.intro (congrArg (DV.int .i64) (by simp;omega)) ?_;exact sZ
end Go.Proofs.YtlhehdgciafakaaGreatDoor.P
end
section
namespace Go.Proofs.YtlhehdgciafakaaGreatDoor.P
open Go Go.az
set_option maxRecDepth 100000
theorem BQ(x a b:Int):aq E 262 [.int .i64 x,.int .i64 a,.int .i64 b] (· = .bool (decide (a<=x)&&decide (x<=b))):=by
 refine eP F262.h ?_;apply ah<;>intro h
 ·refine gC ?_;rw[h];rfl
 ·refine gC ?_;rw[h];rfl
theorem Oh(x a b:Int):aq E 338 [.int .u8 x,.int .u8 a,.int .u8 b] (· = .bool (decide (a<=x)&&decide (x<=b))):=by
 refine eP F338.h ?_;apply ah<;>intro h
 ·refine gC ?_;rw[h];rfl
 ·refine gC ?_;rw[h];rfl
theorem Oi(x:Int):aq E 134 [.int .i64 x] (· = .bool false):=by
 refine eP Tryz.func134 ?_;simp
theorem Oj(x:List UInt8):aq E 339 [.str x] (· = .bool false):=by
 refine eP Tryz.func339 ?_;simp
def kV(a b:Int):Int:=if a<b then -1 else if b<a then 1 else 0
theorem Eh(a b:Int):aq E 67 [.int .i64 a,.int .i64 b] (· = .int .i64 (kV a b)):=by
 refine eP Tryz.func67 ?_;repeat' (first|with_reducible(first|refine cC (Oi _) ?_|refine cX ?_|apply ah<;>intro)|refine gA Tryz.func67 ?_|refine gB ?_|with_reducible rfl)
 all_goals (simp_all[kV])
 all_goals omega
def zn(a b:List UInt8):Int:=if Op.bytesLess a b then -1 else if a=b then 0 else 1
theorem W7(a b:List UInt8):aq E 319 [.str a,.str b] (· = .int .i64 (zn a b)):=by
 refine eP Tryz.func319 ?_;repeat' (first|with_reducible(first|refine cC (Oj _) ?_|refine cX ?_|apply ah<;>intro)|refine gA Tryz.func319 ?_|refine gB ?_|with_reducible rfl)
 all_goals (simp_all[zn])
def tx:List Int->Int
 |[]=>0
 |x::l=>if x=0 then tx l else x
theorem IT{l:List Int}:∀ {k:Nat},(∀ j,j<k->l[j]?=some 0)->tx l=tx (l.drop k)
 |0,_=>rfl
 |k+1,h=>by
  cases l with
  |nil=>rfl
  |cons x l =>
   have h0:=h 0 oM;simp at h0;subst h0;simp only[tx,if_true,List.drop_succ_cons];exact IT fun j hj=>by have:=h (j+1) oM;simpa using this
theorem W8(l:List Int)(hl:l.length<=2147483648):aq E 318 [.sl (l.map (.int .i64))] (· = .int .i64 (tx l)):=by
 refine eP F318.h ?_;refine I.lP l.length ([2,5]++rg 8 9) (fun k=>[(8,.d (.int .i64 k)),(2,.d (.int .i64 0))]) (fun _=>[]) (fun k=>k<=l.length/\∀ j,j<k->l[j]?=some 0) ⟨ai4 _,fun j h=>by omega⟩ ?_ ?_
 ·exact sZ
 ·intro k hk IH;refine zA ?_ ?_<;>intro h1
  ·simp at h1;obtain⟨x,hx⟩:=aI h1;refine gC ?_;refine fI (.int .i64 x) oM (mo hx) rfl (gC ?_);apply ah<;>intro h2
   ·refine gC ?_;have aL:x≠0:=zD h2
    rw[IT hk.2,ajf h1];have:l[k]=x:=by simpa [h1]using hx
    simp only[tx,this,if_neg aL]
   ·refine gC ?_;have h0:x=0:=zD h2
    subst h0;refine I.back (IH (k+1) ⟨by omega,fun j hj=>?_⟩ oM) ?_
    ·rcases ahs j k with h|h
     ·exact hk.2 j h
     ·obtain rfl:j=k:=by omega
      exact hx
    ·exact sZ
  ·simp at h1;refine gC ?_;rw[IT hk.2,aje h1];rfl
def tz(a b:Datum):Int:=tx [zn a.text b.text,kV a.n b.n,kV a.m b.m]
theorem W9(a b:Datum):aq E 265 [a.enc,b.enc] (· = .int .i64 (tz a b)):=by
 refine eP Tryz.func265 ?_;refine dU ?_;refine ax (W7 _ _) (gD ?_);refine ax (Eh _ _) (gD ?_);refine ax (Eh _ _) (gD ?_);refine ax (W8 [zn a.text b.text,kV a.n b.n,kV a.m b.m] sP) (gD ?_);refine gO Tryz.func265 ?_;rfl
def preB(a b:List UInt8):Bool:=b.isPrefixOf a
theorem Xa{a b:List UInt8}:(a.take b.length==b)=preB a b:=by
 unfold preB;rw[akN,beq_iff_eq,alp];constructor
 ·intro e;rw[<- e];exact List.take_prefix _ _
 ·intro e;exact(List.prefix_iff_eq_take.1 e).symm
theorem Xb{a b:List UInt8}(h:a.length<b.length):preB a b=false:=by
 unfold preB;rw[alh];intro e;have:=(alp.1 e).length_le;omega
theorem Xc(a b:List UInt8):aq E 190 [.str a,.str b] (· = .bool (preB a b)):=by
 refine eP F190.h ?_;apply ah<;>intro h
 ·simp at h;refine gC ?_;refine bj ⟨by simp,by simp,by simp;omega⟩ ?_;refine gC ?_;simp;exact Xa
 ·simp at h;refine gC ?_;rw[Xb h]
theorem Ei(a b:List UInt8):aq E 117 [.str a,.str b] (· = .bool (preB a b)):=by
 refine eP Tryz.func117 ?_
 with_reducible refine ao (Xc _ _) ?_
 refine gO Tryz.func117 ?_
 with_reducible rfl
theorem Ol(a:List UInt8):preB a [42]=Nm.jS a:=by
 cases a with
 |nil=>rfl
 |cons c a =>
  show((42:UInt8)==c&&alq [] a)=(c==42);simp only[alq,alr];exact BEq.comm
theorem Ej(a:List UInt8):aq E 263 [.str a] (· = .bool (Nm.jS a)):=by
 refine eP Tryz.func263 ?_
 with_reducible refine ao (Ei _ _) ?_
 refine gO Tryz.func263 ?_;exact congrArg _ (Ol a)
def qE(c:UInt8):Bool:=(decide (97<=(c.toNat:Int))&&decide ((c.toNat:Int)<=122))||(decide (48<=(c.toNat:Int))&&decide ((c.toNat:Int)<=57))||((c.toNat:Int)==32)
def ju(t:List UInt8):Bool:=decide (1<=(t.length:Int))&&decide ((t.length:Int)<=40) && !(t.head?.any fun c=>(c.toNat:Int)==32) && !(t.getLast?.any fun c=>(c.toNat:Int)==32)&&t.all qE
theorem Om{t:List UInt8}(h1:1<=t.length)(h2:t.length<=40){c0 c1:UInt8}(h3:t[0]?=some c0)(h4:t[t.length-1]?=some c1)(h5:((c0.toNat:Int)==32)=false)(h6:((c1.toNat:Int)==32)=false):ju t=t.all qE:=by
 have e1:t.head?=some c0:=by rw[<- h3];exact alk
 have e2:t.getLast?=some c1:=by rw[<- h4,alm]
 have e3:decide (1<=(t.length:Int))=true:=by simp;omega
 have e4:decide ((t.length:Int)<=40)=true:=by simp;omega
 simp only[ju,e1,e2,e3,e4,alf,h5,h6,ali,alj,aja]
theorem okF{a b:Bool}{x y:Int}(h1:(!a)=true)(h2:(!b)=true)(h3:(x != y)=true):(a||b||(x==y))=false:=by
 cases a<;>cases b<;>simp_all
theorem Xd{a b d:Bool}(h:(!a)=false):(a||b||d)=true:=by cases a<;>simp_all
theorem Xe{a b d:Bool}(h:(!b)=false):(a||b||d)=true:=by cases b<;>simp_all
theorem Xf{a b:Bool}{x y:Int}(h:(x != y)=false):(a||b||(x==y))=true:=by simp_all
theorem On(t:List UInt8):aq E 317 [.str t] (· = .bool (ju t)):=by
 refine eP F317.h ?_
 with_reducible refine ao (BQ _ _ _) ?_
 refine gC ?_;apply ah<;>intro h1
 ·refine gC ?_;refine vT ?_;refine vT ?_;have:(decide (1<=(t.length:Int))&&decide ((t.length:Int)<=40))=false:=by rw[ajb]at h1;exact h1
  simp only[ju,this,ald]
 ·have hb:1<=t.length/\t.length<=40:=by simp at h1;omega
  obtain⟨c0,tA⟩:=aI (l:=t) (k:=0) oM;obtain⟨c1,mN⟩:=aI (l:=t) (k:=t.length-1) oM;have hw:(IntKind.i64.wrap (t.length-1))=((t.length-1:Nat):Int):=by rw[wrap64 oM oM];omega
  refine gC ?_;refine mR c0 dC tA (gC ?_);apply ah<;>intro h2
  ·refine gC ?_;refine vT ?_;have e1:t.head?=some c0:=by rw[<- tA];exact alk
   simp only[ju,e1,alf,h2,ajz,ale,ald]
  ·refine gC ?_;rw[hw];refine mR c1 oM (by rw[ai0];exact mN) ?_;refine gC ?_;apply ah<;>intro h3
   ·refine gC ?_;have e2:t.getLast?=some c1:=by rw[<- mN,alm]
    simp only[ju,e2,alf,h3,ajz,ale,ald]
   ·rw[Om hb.1 hb.2 tA mN h2 h3];refine gC ?_;refine I.lP t.length ([3,4,2]++rg 24 19) (fun k=>[(24,.d (.int .i64 k))]) (fun _=>[]) (fun k=>k<=t.length/\∀ j c,j<k->t[j]?=some c->qE c=true) ⟨ai4 _,fun j c h=>by omega⟩ ?_ ?_
    ·exact sZ
    ·intro k hk IH;have no:∀ c,t[k]?=some c->qE c=false->t.all qE=false:=fun c hc h=>by
      rw[alh];intro aM;have:=ahH.1 aM c (aiQ hc);rw[h]at this;cases this
     refine zA ?_ ?_<;>intro h4
     ·simp at h4;obtain⟨c,hc⟩:=aI h4;have next:qE c=true->∀ j c',j<k+1->t[j]?=some c'->qE c'=true:=fun ho j c' hj AG=>by
       rcases ahs j k with h|h
       ·exact hk.2 j c' h AG
       ·obtain rfl:j=k:=by omega
        rw[hc]at AG;cases AG;exact ho
      refine gC ?_;refine mR c oM (by rw[ai0];exact hc) ?_;refine gC ?_
      with_reducible refine ao (Oh _ _ _) ?_
      refine gC ?_;apply ah<;>intro h5
      ·refine gC ?_
       with_reducible refine ao (Oh _ _ _) ?_
       refine gC ?_;apply ah<;>intro h6
       ·refine gC ?_;apply ah<;>intro h7
        ·refine gC ?_;rw[no c hc (okF h5 h6 h7)]
        ·refine gC ?_;exact I.back (IH (k+1) ⟨by omega,next (Xf h7)⟩ oM) sZ
       ·refine gC ?_;refine vF ?_;exact I.back (IH (k+1) ⟨by omega,next (Xe h6)⟩ oM) sZ
      ·refine gC ?_;refine vF ?_;refine vF ?_;exact I.back (IH (k+1) ⟨by omega,next (Xd h5)⟩ oM) sZ
     ·simp at h4;refine gC ?_;have:t.all qE=true:=by
       rw[ahH];intro c hc;obtain⟨j,hj⟩:=List.getElem?_of_mem hc;exact hk.2 j c (by have:=aW hj;omega) hj
      rw[this]
structure rR where
 text:Int
 Oo:Int
 Oq:Int
 Ot:Int
 Ou:Int
 even:Bool
 single:Bool
 jS:Bool
@[reducible] def rR.enc (r : rR) : DV := .agg [.int .i64 r.text, .int .i64 r.Oo, .int .i64 r.Oq, .int .i64 r.Ot, .int .i64 r.Ou, .bool r.even, .bool r.single, .bool r.jS]
def gV:Nat->rR
 |1=>⟨0,1,1000000,0,0,false,false,true⟩
 |2=>⟨1,0,0,0,0,false,false,false⟩
 |3=>⟨1,0,0,0,0,false,true,false⟩
 |4=>⟨0,0,65535,0,100000,false,true,false⟩
 |5=>⟨3,0,0,0,0,false,false,true⟩
 |6=>⟨0,1,1000000,1,3,false,false,false⟩
 |7=>⟨0,1,1000000,1,3,false,false,false⟩
 |8=>⟨2,2,510,0,0,true,false,true⟩
 |_=>⟨0,0,0,0,0,false,false,false⟩
def oT(r:rR)(t:Text):Bool:=if r.text=1 then Nm.valid t && !Nm.jS t else if r.text=2 then Nm.valid t else if r.text=3 then ju t else t==[]
def lN(r:rR)(d:Datum):Bool :=
 (decide (r.Oo<=d.n)&&decide (d.n<=r.Oq))&&(decide (r.Ot<=d.m)&&decide (d.m<=r.Ou)) && !(r.even&&(d.n.tmod 2 != 0))&&oT r d.text
theorem Xg(r:rR)(d:Datum)(hd:d.text.length<=maxLen):aq E 264 [r.enc,d.enc] (· = .bool (lN r d)):=by
 obtain⟨rt,r1,r2,r3,r4,re,rs,rw⟩:=r;refine eP Tryz.func264 ?_;repeat' (first|with_reducible(first|refine cC (BQ _ _ _) ?_|refine cC (iP _ hd) ?_|refine cC (Ej _) ?_|refine cC (On _) ?_|refine cX ?_|apply ah<;>intro)|refine gA Tryz.func264 ?_|refine gB ?_|with_reducible rfl)
 all_goals simp_all[lN,oT]
 all_goals (intros;exfalso;omega)
theorem Xh{k:Nat}(h1:1<=k)(h8:k<=8):∃ cs,DZ=.agg cs/\(cs.drop (k*8)).take 8=(gV k).enc.cells:=by
 refine⟨_,rfl,?_⟩
 match k,h1,h8 with
 |1,_,_=>rfl
 |2,_,_=>rfl
 |3,_,_=>rfl
 |4,_,_=>rfl
 |5,_,_=>rfl
 |6,_,_=>rfl
 |7,_,_=>rfl
 |8,_,_=>rfl
structure dw.Fits(s:dw):Prop where
 name:s.name.length<=maxLen
 data:s.data.length<=2147483648
 texts:∀ d∈s.data,d.text.length<=maxLen
def nR(r:rR):Option Datum->List Datum->Bool
 |_,[]=>true
 |p,d::l=>lN r d&&(match p with|none=>true|some e=>decide (tz e d<0))&&nR r (some d) l
def na(l:List Datum)(k:Nat):Option Datum:=if k=0 then none else l[k-1]?
theorem Ov{r:rR}{l:List Datum}{k:Nat}{d:Datum}(hd:l[k]?=some d):nR r (na l k) (l.drop k)=(lN r d&&(match na l k with|none=>true|some e=>decide (tz e d<0))&&nR r (na l (k+1)) (l.drop (k+1))):=by
 have hk:=aW hd;rw[ajf hk];have e1:l[k]=d:=by simpa [hk]using hd
 have e2:na l (k+1)=some d:=by simp[na,hd]
 rw[e1,e2];rfl
def eX(s:dw):Bool:=Nm.valid s.name&&(decide (1<=s.type)&&decide (s.type<=8))&&(decide (0<=s.dD)&&decide (s.dD<=100000))&&(decide (1<=(s.data.length:Int))&&decide ((s.data.length:Int)<=8)) &&
 !((gV s.type.toNat).single&&((s.data.length:Int) != 1)) && !(Nm.jS s.name && !(gV s.type.toNat).jS)&&nR (gV s.type.toNat) none s.data
theorem vj(s:dw)(hf:s.Fits):aq E 193 [s.enc] (· = .bool (eX s)):=by
 refine eP F193.h ?_;repeat' (first|with_reducible(first|refine cC (iP _ hf.name) ?_|refine cC (BQ _ _ _) ?_|refine cX ?_|apply ah<;>intro)|refine gE ?_|with_reducible rfl)
 all_goals try (simp only[ajb,akY,aiO]at *;simp only[eX, *,ald,ale];done)
 rename_i h1 h2 h3 h4;rw[aiO]at h4;rw[akY]at h1 h2 h3 h4;have ht:1<=s.type/\s.type<=8:=zD h2
 have hl:1<=s.data.length/\s.data.length<=8:=by simp at h4;omega
 obtain⟨t,pv⟩:=aln (a:=s.type) oM;obtain⟨cs,eE,Ow⟩:=Xh (k:=t) oM oM;cases eE;refine UL (gV t).enc oM oM dC (by rw[pv];exact Ow) rfl ?_;have eH:eX s=(!((gV t).single&&((s.data.length:Int) != 1)) && !(Nm.jS s.name && !(gV t).jS)&&nR (gV t) none s.data):=by
  simp only[eX,h1,h2,h3,h4,aja];rw[pv,ai0]
 rw[eH];generalize gV t=r;clear eH Ow;refine gC ?_;repeat' (first|with_reducible(first|refine cC (Ej _) ?_|refine cX ?_|apply ah<;>intro)|refine gE ?_|with_reducible rfl)
 all_goals try (simp only[aiO,ajb,akY]at *;simp only[*,aja,ajz,ali,ale,ald,alj];done)
 all_goals
  have iE:(!(r.single&&((s.data.length:Int) != 1)) && !(Nm.jS s.name && !r.jS)&&nR r none s.data)=nR r none s.data:=by
   try simp only[aiO]at *
   simp only[*,ajz,ali,ale,ald,alj,aja]
  rw[iE];clear iE;refine gC ?_;refine I.lP s.data.length ([2,4,5]++rg 52 25) (fun k=>[(52,.d (.int .i64 k))]) (fun _=>[]) (fun k=>k<=s.data.length/\nR r none s.data=nR r (na s.data k) (s.data.drop k)) ⟨ai4 _,rfl⟩ ?_ ?_
  ·exact sZ
  ·intro k hk IH;refine zA ?_ ?_<;>intro h5
   ·have ai:k<s.data.length:=zD h5
    obtain⟨d,hd⟩:=aI ai;have aJ:=Ov (r:=r) hd;rw[<- hk.2]at aJ;refine gC ?_;refine fI d.enc oM (mo hd) rfl (gC ?_);refine dU ?_;refine ax (Xg r d (hf.texts d (aiQ hd))) (gD ?_);apply ah<;>intro h6
    ·refine gD ?_;refine gC ?_;refine vT ?_;rw[ajb]at h6;rw[aJ,h6,ald,ald]
    ·rw[akY]at h6;refine gD ?_;apply ah<;>intro h7
     ·have cb:0<k:=zD h7
      obtain⟨e,he⟩:=aI (l:=s.data) (k:=k-1) oM;have hw:IntKind.i64.wrap ((k:Int)-1)=((k-1:Nat):Int):=by rw[wrap64 oM oM];omega
      have tB:na s.data k=some e:=by simp[na,he];omega
      refine gD ?_;rw[hw];refine fI e.enc oM (mo he) rfl (gD ?_);refine ax (W9 _ _) (gD ?_);refine gC ?_;apply ah<;>intro h8
      ·refine gC ?_;have:decide (tz e d<0)=false:=by simp at h8 ⊢;omega
       rw[aJ,tB];dsimp only;rw[this,ale,ald]
      ·refine gC ?_;have:decide (tz e d<0)=true:=by simp at h8 ⊢;omega
       refine I.back (IH (k+1) ⟨by omega,by rw[aJ,tB];dsimp only;rw[this,h6];rfl⟩ oM) ?_;exact sZ
     ·have cb:k=0:=by simp at h7;omega
      have tB:na s.data k=none:=by simp[na,cb]
      refine gD ?_;refine gC ?_;refine vF ?_;refine I.back (IH (k+1) ⟨by omega,by rw[aJ,tB,h6];rfl⟩ oM) ?_;exact sZ
   ·have aA:s.data.length<=k:=zD h5
    refine gC ?_;rw[hk.2,aje aA];rfl
def gW(n:Int):List DV:=[56,48,40,32,24,16,8,0].map fun k => .int .u8 (IntKind.u8.wrap (mT .shr .u64 (IntKind.u64.wrap n) k))
def fL(t:Text):List DV := .int .u8 (IntKind.u8.wrap t.length)::t.map me
theorem dZ(n:Int):(gW n).length=8:=rfl
theorem nS(t:Text):(fL t).length=t.length+1:=by simp[fL]
theorem Xi(n:Int){k:Nat}(h:k<8):(gW n).take k++[.int .u8 (IntKind.u8.wrap (mT .shr .u64 (IntKind.u64.wrap n) (56-8*(k:Int)).toNat))]=(gW n).take (k+1):=by
 match k,h with
 |0,_=>rfl
 |1,_=>rfl
 |2,_=>rfl
 |3,_=>rfl
 |4,_=>rfl
 |5,_=>rfl
 |6,_=>rfl
 |7,_=>rfl
theorem Xj(l:List DV)(t:Text)(hl:l.length+t.length<2147483648):au E 313 [.arr 0 (5,1) l] [.own 0 0,.d (.str t)] (fun a b=>a=.own 0 2/\b=[.arr 2 (5,1) (l++fL t)]):=by
 refine aE ?_;refine nA (gC ?_);refine bj ⟨by simp;omega,by simp[me,DV.cells]⟩ ?_;refine gC ?_;simp[fL]
theorem Xk(t:Text)(hl:t.length<2147483648):au E 313 [] [.d .aF,.d (.str t)] (fun a b=>a=.own 0 2/\b=[.arr 2 (5,1) (fL t)]):=by
 refine aE ?_;refine bj ⟨by simp,by simp[DV.cells]⟩ (gC ?_);refine bj ⟨by simp;omega,by simp[me,DV.cells]⟩ ?_;refine gC ?_;simp[fL]
theorem Ek(l:List DV)(n:Int)(hl:l.length<2000000000):au E 314 [.arr 0 (5,1) l] [.own 0 0,.d (.int .i64 n)] (fun a b=>a=.own 0 1/\b=[.arr 1 (5,1) (l++gW n)]):=by
 refine aE ?_;refine I.lP 8 ([0]++rg 5 13) (fun k=>[(5,.d (.int .i64 (56-8*(k:Int)))),(0,.own 0 1)]) (fun k=>[(0,.arr 1 (5,1) (l++(gW n).take k))]) (fun k=>k<=8) (ai4 _) ?_ ?_
 ·refine sY ?_
  refine⟨by simp, ?_⟩;exact sZ
 ·intro k hk IH;refine zA ?_ ?_<;>intro h
  ·have ai:k<8:=by simp at h;omega
   refine gC ?_;refine bj oM (gC ?_);refine bj ⟨by simp[dZ];omega,by simp[DV.cells]⟩ ?_;refine gC ?_;refine I.back (IH (k+1) oM oM) ?_;refine sY ?_
   exact And.intro (by rw[aiK,Xi n ai]) sZ
  ·have aA:k=8:=by simp at h;omega
   subst aA;refine gC ?_;simp[show List.take 8 (gW n)=gW n from rfl]
def vk(d:Datum):List DV:=fL d.text++gW d.n++gW d.m
def vn(s:dw):List DV:=fL s.name++gW s.type++gW s.dD++[.int .u8 (IntKind.u8.wrap s.data.length)]
def nT(s:dw):List DV:=vn s++s.data.flatMap vk
theorem Xl{r:rR}{t:Text}(h:oT r t=true):t.length<=60:=by
 unfold oT at h;split at h
 ·simp at h;exact dh h.1
 ·split at h
  ·exact dh h
  ·split at h
   ·simp[ju]at h;omega
   ·simp at h;simp[h]
theorem IU{r:rR}:∀ {p:Option Datum} {l:List Datum},nR r p l=true->∀ d∈l,lN r d=true
 |_,[],_,d,hd=>by simp at hd
 |p,e::l,h,d,hd=>by
  simp only[nR,ai2]at h;rcases ai3.1 hd with rfl|hd
  ·exact h.1.1
  ·exact IU h.2 d hd
theorem xj{s:dw}(h:eX s=true):s.name.length<=60/\s.data.length<=8/\1<=s.data.length/\∀ d∈s.data,d.text.length<=60:=by
 simp only[eX,ai2,decide_eq_true_eq]at h;obtain⟨⟨⟨⟨⟨⟨h1,h2⟩,h3⟩,h4⟩,h5⟩,h6⟩,h7⟩:=h;refine⟨dh h1,by omega,by omega,fun d hd=>?_⟩;have:=IU h7 d hd;simp only[lN,ai2]at this;exact Xl this.2
theorem Xm{d:Datum}(h:d.text.length<=60):(vk d).length<=77:=by simp[vk,nS,dZ];omega
theorem Ox{l:List Datum}(h:∀ d∈l,d.text.length<=60):(l.flatMap vk).length<=77*l.length:=by
 induction l with
 |nil=>simp
 |cons d l ih =>
  have h1:=Xm (h d (List.mem_cons_self ..));have h2:=ih (fun e he=>h e (List.mem_cons_of_mem _ he));simp only[List.flatMap_cons,ah5,List.length_cons];omega
theorem Oy{s:dw}(h:s.name.length<=60):(vn s).length<=78:=by simp[vn,nS,dZ];omega
theorem Xn(s:dw)(hf:s.Fits)(hs:eX s=true):aq E 255 [s.enc] (· = .aG [.sl (nT s),.int .i64 0]):=by
 obtain⟨hn,hd,-,ht⟩:=xj hs;have hh:=Oy hn;have hlen:∀ k,(vn s++(s.data.take k).flatMap vk).length<=700:=fun k=>by
  have h1:=Ox (l:=s.data.take k) (fun d hd=>ht d (List.mem_of_mem_take hd));have h2:(s.data.take k).length<=8:=by simp;omega
  simp only[ah5];omega
 refine eP F255.h ?_
 with_reducible refine ao (vj s hf) ?_
 refine gC ?_;rw[hs];refine vF ?_;refine lC (Xk _ oM) rfl (gC ?_)
 with_reducible refine aX (Ek _ _ (by simp[nS];omega)) ?_
 refine gC ?_
 with_reducible refine aX (Ek _ _ (by simp[nS,dZ];omega)) ?_
 refine gC ?_;refine bj ⟨by simp[nS,dZ];omega,by simp[DV.cells]⟩ ?_;refine gC ?_;refine I.lP s.data.length ([4,6]++rg 32 17) (fun k=>[(32,.d (.int .i64 k)),(4,.own 1 1)]) (fun k=>[(1,.arr 1 (5,1) (vn s++(s.data.take k).flatMap vk))]) (fun k=>k<=s.data.length) (ai4 _) ?_ ?_
 ·refine sY ?_
  exact And.intro (by simp[vn,aiO]) sZ
 ·intro k hk IH;have rS:=hlen k;refine zA ?_ ?_<;>intro h
  ·have ai:k<s.data.length:=zD h
   obtain⟨d,hd⟩:=aI ai;have pA:=ht d (aiQ hd);refine gC ?_;refine fI d.enc oM (mo hd) rfl (gC ?_)
   with_reducible refine aX (Xj _ _ oM) ?_
   refine gC ?_
   with_reducible refine aX (Ek _ _ (by rw[ah5,nS];omega)) ?_
   refine gC ?_
   with_reducible refine aX (Ek _ _ (by rw[ah5,ah5,nS,dZ];omega)) ?_
   refine gC ?_;refine I.back (IH (k+1) oM oM) ?_;refine sY ?_
   exact And.intro (by simp[cj hd,vk]) sZ
  ·have aA:k=s.data.length:=by simp at h;omega
   subst aA;refine gC ?_;simp[nT]
def Oz(d:Int)(x:DV):Int:=match x with
 | .int _ n=>IntKind.u64.wrap (Dh .xor .u64 d (IntKind.u64.wrap n)*1099511628211)
 |_=>d
def oU(d:Int)(l:List DV):Int:=l.foldl Oz d
@[reducible] def isByte (x : DV) : Prop := ∃ n, x = .int .u8 n
theorem Xo(d:Int)(l m:List DV):oU d (l++m)=oU (oU d l) m:=List.foldl_append
theorem Xp{d:Int}{l:List DV}{k:Nat}{x:DV}(h:l[k]?=some x):oU d (l.take (k+1))=Oz (oU d (l.take k)) x:=by rw[cj h,Xo];rfl
theorem Xq(d:Int)(l:List DV)(hl:l.length<=2147483648)(hb:∀ x∈l,isByte x):au E 186 [.cells [.d (.int .u64 d)]] [.ptr 0 0,.d (.sl l)] (fun a b=>a=.aG []/\b=[.cells [.d (.int .u64 (oU d l))]]):=by
 refine aE ?_;refine I.lP l.length ([5]++rg 8 14) (fun k=>[(8,.d (.int .i64 k))]) (fun k=>[(0,.cells [.d (.int .u64 (oU d (l.take k)))])]) (fun k=>k<=l.length) (ai4 _) ?_ ?_
 ·(conv=>whnf);repeat (first|exact trivial|(refine And.intro (by first|with_reducible rfl|exact congrArg (DV.int .i64) oM|exact rfl|exact congrArg (DV.int .i64) (wrap64 oM oM)|exact congrArg (DV.int .i64) ((wrap64 oM oM).trans oM)) ?_;conv=>whnf))
 ·intro k hk IH;refine zA ?_ ?_<;>intro h
  ·have ai:k<l.length:=zD h
   obtain⟨x,hx⟩:=aI ai;obtain⟨n,rfl⟩:=hb x (aiQ hx);refine gC ?_;refine fI (.int .u8 n) oM (zD hx) rfl (gC ?_);refine I.back (IH (k+1) oM oM) ?_;(conv=>whnf);repeat (first|exact trivial|(refine And.intro (by first|with_reducible rfl|exact congrArg (DV.int .i64) oM|exact congrArg _ (Xp hx).symm|exact congrArg (DV.int .i64) (wrap64 oM oM)|exact congrArg (DV.int .i64) ((wrap64 oM oM).trans oM)) ?_;conv=>whnf))
  ·have aA:k=l.length:=by simp at h;omega
   subst aA;refine gC ?_;simp
theorem ir(n:Int):∀ x∈gW n,isByte x:=by
 intro x hx;simp only[gW,ahY]at hx;obtain⟨k,-,rfl⟩:=hx;exact⟨_,rfl⟩
theorem mq(t:Text):∀ x∈fL t,isByte x:=by
 intro x hx;simp only[fL,ai3,ahY]at hx;rcases hx with rfl|⟨b,-,rfl⟩
 ·exact⟨_,rfl⟩
 ·exact⟨_,rfl⟩
def zo:Int:=14695981039346656037
theorem Xr(l:List DV)(hl:l.length<=2147483648)(hb:∀ x∈l,isByte x):aq E 107 [.sl l] (· = .int .u64 (oU zo l)):=by
 refine eP Tryz.func107 ?_
 with_reducible refine aX (Xq _ l hl hb) ?_
 refine gO Tryz.func107 ?_;rfl
def El(a b:Int):Bool:=decide (a>=0)&&decide (a<=b)&&decide (b<=20000000)
def BR:dE:=⟨[],0,0,0,0,0⟩
theorem IV(s:dw):∀ x∈nT s,isByte x:=by
 intro x hx;simp only[nT,vn,aif,List.mem_flatMap,vk,List.mem_singleton]at hx;rcases hx with(((h|h)|h)|h)|⟨d,-,((h|h)|h)⟩
 ·exact mq _ x h
 ·exact ir _ x h
 ·exact ir _ x h
 ·exact⟨_,h⟩
 ·exact mq _ x h
 ·exact ir _ x h
 ·exact ir _ x h
theorem Xs{s:dw}(h:eX s=true):(nT s).length<=700:=by
 obtain⟨hn,hd,-,ht⟩:=xj h;have h1:=Oy hn;have h2:=Ox ht;simp only[nT,ah5];omega
def Em(a b:dE):Bool:=(a.ar==b.ar&&(a.key==b.key&&(a.nN==b.nN&&(a.bQ==b.bQ&&(a.upto==b.upto&&(a.sum==b.sum&&true))))))
theorem OA{a b:dE}:Em a b=true↔a=b:=by
 obtain⟨a1,a2,a3,a4,a5,a6⟩:=a;obtain⟨b1,b2,b3,b4,b5,b6⟩:=b;simp[Em]
theorem dK{α:Type}{p:α->Bool}{l:List α}{k:Nat}{x:α}(h:l[k]?=some x)(hx:p x=false):l.all p=false:=by
 rw[alh];intro aM;have:=ahH.1 aM x (aiQ h);rw[hx]at this;cases this
theorem ea{α:Type}{p:α->Bool}{l:List α}{k:Nat}{x:α}(hk:(l.take k).all p=true)(h:l[k]?=some x)(hx:p x=true):(l.take (k+1)).all p=true:=by
 rw[cj h,List.all_append,hk];simp[hx]
theorem nb{α:Type}{p:α->Bool}{l:List α}{k:Nat}(hk:(l.take k).all p=true)(h:l.length<=k):l.all p=true:=by
 rwa [List.take_of_length_le h]at hk
theorem kW(x a b:Int):aq E 237 [.int .i64 x,.int .i64 a,.int .i64 b] (· = .bool (decide (a<=x)&&decide (x<=b))):=by
 refine eP Tryz.func237 ?_;repeat' (first|with_reducible(first|refine cX ?_|apply ah<;>intro)|refine gA Tryz.func237 ?_|refine gB ?_|with_reducible rfl)
 all_goals simp_all
 all_goals omega
theorem OB(t:Int):aq E 238 [.int .i64 t] (· = .bool (t==3||t==4)):=by
 refine eP Tryz.func238 ?_;repeat' (first|with_reducible(first|refine cX ?_|apply ah<;>intro)|refine gA Tryz.func238 ?_|refine gB ?_|with_reducible rfl)
 all_goals simp_all
def En(a b:Datum):Bool:=if a.text≠b.text then Op.bytesLess a.text b.text else if a.n≠b.n then decide (a.n<b.n)else decide (a.m<b.m)
theorem Xt(a b:Datum):aq E 240 [a.enc,b.enc] (· = .bool (En a b)):=by
 refine eP Tryz.func240 ?_;repeat' (first|with_reducible(first|refine cX ?_|apply ah<;>intro)|refine gA Tryz.func240 ?_|refine gB ?_|with_reducible rfl)
 all_goals simp_all[En]
theorem OC(a b:Int):aq E 302 [.int .i64 a,.int .i64 b] (· = .bool (El a b)):=by
 refine eP Tryz.func302 ?_;repeat' (first|with_reducible(first|refine cX ?_|apply ah<;>intro)|refine gA Tryz.func302 ?_|refine gB ?_|with_reducible rfl)
 all_goals simp_all[El]
 all_goals omega
theorem mr(t:Text):aq E 299 [.str t] (· = .bool (ju t)):=by
 by_cases hb:1<=t.length/\t.length<=40
 ·obtain⟨c0,tA⟩:=aI (l:=t) (k:=0) oM;obtain⟨c1,mN⟩:=aI (l:=t) (k:=t.length-1) oM;have hw:(IntKind.i64.wrap (t.length-1))=((t.length-1:Nat):Int):=by rw[wrap64 oM oM];omega
  refine eP F299.h ?_;refine aP (by simp;omega) ?_;refine gC ?_;refine aP (by simp;omega) ?_;refine gC ?_;refine mR c0 dC tA (gC ?_);apply ah<;>intro h2
  ·refine gC ?_;refine vT ?_;have e1:t.head?=some c0:=by rw[<- tA];exact alk
   simp only[ju,e1,alf,h2,ajz,ale,ald]
  ·refine gC ?_;rw[hw];refine mR c1 oM (by rw[ai0];exact mN) ?_;refine gC ?_;apply ah<;>intro h3
   ·refine gC ?_;have e2:t.getLast?=some c1:=by rw[<- mN,alm]
    simp only[ju,e2,alf,h3,ajz,ale,ald]
   ·rw[Om hb.1 hb.2 tA mN h2 h3];refine gC ?_;refine I.lP t.length ([2,4,5]++rg 26 26) (fun k=>[(4,.d (.int .i64 k))]) (fun _=>[]) (fun k=>k<=t.length/\(t.take k).all qE=true) ⟨ai4 _,rfl⟩ ?_ ?_
    ·exact sZ
    ·intro k hk IH;refine zA ?_ ?_<;>intro h4
     ·simp at h4;obtain⟨c,hc⟩:=aI h4;refine gC ?_;refine mR c oM (by rw[ai0];exact hc) ?_;refine gC ?_;repeat' (first|with_reducible(first|refine cX ?_|apply ah<;>intro)|refine gE ?_|with_reducible rfl)
      all_goals first
       |(rw[dK hc (by simp_all[qE]<;>omega)];done)
       |skip
      all_goals
       refine gC ?_;refine I.back (IH (k+1) ⟨by omega,ea hk.2 hc (by simp_all[qE]<;>omega)⟩ oM) ?_;exact sZ
     ·simp at h4;refine gC ?_;rw[nb hk.2 h4]
 ·have bI:ju t=false:=by
   simp only[ju,als,decide_eq_false_iff_not];omega
  rw[bI];refine eP F299.h ?_;apply ah<;>intro h
  ·refine gC ?_;refine vT ?_;refine vT ?_;refine vT ?_
   with_reducible rfl
  ·simp at h;refine gC ?_;refine aN (by simp;omega) ?_;refine gC ?_;refine vT ?_;refine vT ?_
   with_reducible rfl
theorem vp(n:Int):(n==0)=(decide (0<=n)&&decide (n<=0)):=by
 rw[akN];simp;omega
theorem Xu(k:Nat)(d:Datum)(hk:1<=k/\k<=8)(hd:d.text.length<=maxLen):aq E 239 [.int .i64 k,d.enc] (· = .bool (lN (gV k) d)):=by
 match k,hk with
 |1,_ =>
  refine eP F239.h ?_;repeat' (first|with_reducible(first|refine cC (kW _ _ _) ?_|refine cC (fA _ hd) ?_|refine cC (kn _ hd) ?_|refine cC (mr _) ?_|refine cX ?_|apply ah<;>intro)|refine gE ?_|with_reducible rfl)
  all_goals simp_all[lN,oT,gV]
  all_goals first|omega|exact vp _
 |2,_ =>
  refine eP F239.h ?_;repeat' (first|with_reducible(first|refine cC (kW _ _ _) ?_|refine cC (fA _ hd) ?_|refine cC (kn _ hd) ?_|refine cC (mr _) ?_|refine cX ?_|apply ah<;>intro)|refine gE ?_|with_reducible rfl)
  all_goals simp_all[lN,oT,gV]
  all_goals first|omega|exact vp _
 |3,_ =>
  refine eP F239.h ?_;repeat' (first|with_reducible(first|refine cC (kW _ _ _) ?_|refine cC (fA _ hd) ?_|refine cC (kn _ hd) ?_|refine cC (mr _) ?_|refine cX ?_|apply ah<;>intro)|refine gE ?_|with_reducible rfl)
  all_goals simp_all[lN,oT,gV]
  all_goals first|omega|exact vp _
 |4,_ =>
  refine eP F239.h ?_;repeat' (first|with_reducible(first|refine cC (kW _ _ _) ?_|refine cC (fA _ hd) ?_|refine cC (kn _ hd) ?_|refine cC (mr _) ?_|refine cX ?_|apply ah<;>intro)|refine gE ?_|with_reducible rfl)
  all_goals simp_all[lN,oT,gV]
  all_goals first|omega|exact vp _
 |5,_ =>
  refine eP F239.h ?_;repeat' (first|with_reducible(first|refine cC (kW _ _ _) ?_|refine cC (fA _ hd) ?_|refine cC (kn _ hd) ?_|refine cC (mr _) ?_|refine cX ?_|apply ah<;>intro)|refine gE ?_|with_reducible rfl)
  all_goals simp_all[lN,oT,gV]
  all_goals first|omega|exact vp _
 |6,_ =>
  refine eP F239.h ?_;repeat' (first|with_reducible(first|refine cC (kW _ _ _) ?_|refine cC (fA _ hd) ?_|refine cC (kn _ hd) ?_|refine cC (mr _) ?_|refine cX ?_|apply ah<;>intro)|refine gE ?_|with_reducible rfl)
  all_goals simp_all[lN,oT,gV]
  all_goals first|omega|exact vp _
 |7,_ =>
  refine eP F239.h ?_;repeat' (first|with_reducible(first|refine cC (kW _ _ _) ?_|refine cC (fA _ hd) ?_|refine cC (kn _ hd) ?_|refine cC (mr _) ?_|refine cX ?_|apply ah<;>intro)|refine gE ?_|with_reducible rfl)
  all_goals simp_all[lN,oT,gV]
  all_goals first|omega|exact vp _
 |8,_ =>
  refine eP F239.h ?_;repeat' (first|with_reducible(first|refine cC (kW _ _ _) ?_|refine cC (fA _ hd) ?_|refine cC (kn _ hd) ?_|refine cC (mr _) ?_|refine cX ?_|apply ah<;>intro)|refine gE ?_|with_reducible rfl)
  all_goals simp_all[lN,oT,gV]
  all_goals first|omega|exact vp _
theorem nd:∀ (a:Text),Op.bytesLess a a=false
 |[]=>rfl
 |c::a=>by simp[Op.bytesLess,nd a]
theorem Xv(a b:Datum):En a b=decide (tz a b<0):=by
 unfold En tz;by_cases h1:a.text=b.text
 ·simp only[h1,ne_eq,not_true_eq_false,if_false,zn,nd,Bool.false_eq_true,tx,if_true,kV];by_cases h2:a.n=b.n
  ·simp only[h2,not_true_eq_false,if_false,Int.lt_irrefl,if_true];rw[akN];simp only[decide_eq_true_eq];repeat' split
   all_goals omega
  ·simp only[h2,not_false_eq_true,if_true];rw[akN];simp only[decide_eq_true_eq];repeat' split
   all_goals omega
 ·simp only[h1,ne_eq,not_false_eq_true,if_true,zn,tx];cases h:Op.bytesLess a.text b.text
  ·simp[h1]
  ·simp
theorem Xw{k:Nat}(h:1<=k/\k<=8):(gV k).single=((k:Int)==3||(k:Int)==4):=by
 match k,h with
 |1,_=>rfl
 |2,_=>rfl
 |3,_=>rfl
 |4,_=>rfl
 |5,_=>rfl
 |6,_=>rfl
 |7,_=>rfl
 |8,_=>rfl
theorem Xx{k:Nat}(h:1<=k/\k<=8):(!(gV k).jS)=((k:Int) != 1&&(k:Int) != 5&&(k:Int) != 8):=by
 match k,h with
 |1,_=>rfl
 |2,_=>rfl
 |3,_=>rfl
 |4,_=>rfl
 |5,_=>rfl
 |6,_=>rfl
 |7,_=>rfl
 |8,_=>rfl
end Go.Proofs.YtlhehdgciafakaaGreatDoor.P
end
section
namespace Go.Proofs.YtlhehdgciafakaaGreatDoor.P
open Go Go.az
set_option maxRecDepth 100000
set_option maxHeartbeats 4000000
theorem Xy(s:dw):eX s=(Nm.valid s.name&&(decide (1<=s.type)&&decide (s.type<=8))&&(decide (0<=s.dD)&&decide (s.dD<=100000))&&(decide (1<=(s.data.length:Int))&&decide ((s.data.length:Int)<=8)) &&
  !((s.type==3||s.type==4)&&decide ((s.data.length:Int)>1)) && !(Nm.jS s.name&&(s.type != 1&&s.type != 5&&s.type != 8))&&nR (gV s.type.toNat) none s.data):=by
 by_cases ht:1<=s.type/\s.type<=8
 ·by_cases hn:1<=(s.data.length:Int)
  ·obtain⟨t,pv⟩:=aln (a:=s.type) oM;have h8:1<=t/\t<=8:=by omega
   have e1:=Xw h8;have e2:=Xx h8;have e3:((s.data.length:Int) != 1)=decide ((s.data.length:Int)>1):=by
    rw[akN];simp;omega
   simp only[eX,pv,ai0,e1,e2,e3]
  ·simp[eX,hn]
 ·simp only[eX];have:(decide (1<=s.type)&&decide (s.type<=8))=false:=by
   rw[als];simp;omega
  simp only[this,ale,ald]
theorem Xz(k:Int)(d:Datum)(hk:1<=k/\k<=8)(hd:d.text.length<=maxLen):aq E 239 [.int .i64 k,d.enc] (· = .bool (lN (gV k.toNat) d)):=by
 obtain⟨t,rfl⟩:=aln (a:=k) oM;rw[ai0];exact Xu t d oM hd
theorem zp(s:dw)(hf:s.Fits):aq E 157 [s.enc] (· = .bool (eX s)):=by
 rw[Xy];refine eP F157.h ?_;repeat' (first|with_reducible(first|refine cC (fA _ hf.name) ?_|refine cC (kW _ _ _) ?_|refine cC (OB _) ?_|refine cC (kn _ hf.name) ?_|refine cX ?_|apply ah<;>intro)|refine gE ?_|with_reducible rfl)
 all_goals try simp only[aiO]at *
 all_goals try (simp only[ajb,akY]at *;simp only[*,ald,ale,aja,ajz,ali,alr,alj];done)
 all_goals
  have iE:∀ {a b c d e f:Bool},(!a)=false->(!b)=false->(!c)=false->(!d)=false->e=false->f=false->∀ g:Bool,(a&&b&&c&&d && !e && !f&&g)=g:=fun h1 h2 h3 h4 h5 h6 g=>by
   simp_all
  have OD:1<=s.type/\s.type<=8:=by simp_all
  have hl:s.data.length<=8:=by simp_all<;>omega
  rw[iE (by assumption) (by assumption) (by assumption) (by assumption) (by simp_all<;>omega) (by simp_all) _];clear iE;refine gC ?_;refine I.lP s.data.length ([2,4]++rg 56 33) (fun k=>[(4,.d (.int .i64 k))]) (fun _=>[]) (fun k=>k<=s.data.length/\nR (gV s.type.toNat) none s.data=nR (gV s.type.toNat) (na s.data k) (s.data.drop k)) ⟨ai4 _,rfl⟩ ?_ ?_
  ·exact sZ
  ·intro k hk IH;refine zA ?_ ?_<;>intro h5
   ·have ai:k<s.data.length:=zD h5
    obtain⟨d,hd⟩:=aI ai;have aJ:=Ov (r:=gV s.type.toNat) hd;rw[<- hk.2]at aJ;refine gC ?_;refine dU ?_;refine fI d.enc oM (mo hd) rfl (gD ?_);refine ax (Xz _ d OD (hf.texts d (aiQ hd))) (gD ?_);apply ah<;>intro h6
    ·refine gD ?_;refine gC ?_;refine vT ?_;rw[ajb]at h6;rw[aJ,h6,ald,ald]
    ·rw[akY]at h6;refine gD ?_;apply ah<;>intro h7
     ·have cb:0<k:=zD h7
      obtain⟨e,he⟩:=aI (l:=s.data) (k:=k-1) oM;have hw:IntKind.i64.wrap ((k:Int)-1)=((k-1:Nat):Int):=by rw[wrap64 oM oM];omega
      have tB:na s.data k=some e:=by simp[na,he];omega
      refine gD ?_;rw[hw];refine fI e.enc oM (mo he) rfl (gD ?_);refine fI d.enc oM (mo hd) rfl (gD ?_);refine ax (Xt _ _) (gD ?_);rw[Xv];refine gC ?_;apply ah<;>intro h8
      ·refine gC ?_;have:decide (tz e d<0)=false:=zD h8
       rw[aJ,tB];dsimp only;rw[this,ale,ald]
      ·refine gC ?_;have:decide (tz e d<0)=true:=zD h8
       refine I.back (IH (k+1) ⟨by omega,by rw[aJ,tB];dsimp only;rw[this,h6];rfl⟩ oM) ?_;exact sZ
     ·have cb:k=0:=by simp at h7;omega
      have tB:na s.data k=none:=by simp[na,cb]
      refine gD ?_;refine gC ?_;refine vF ?_;refine I.back (IH (k+1) ⟨by omega,by rw[aJ,tB,h6];rfl⟩ oM) ?_;exact sZ
   ·have aA:s.data.length<=k:=zD h5
    refine gC ?_;rw[hk.2,aje aA];rfl
end Go.Proofs.YtlhehdgciafakaaGreatDoor.P
end
