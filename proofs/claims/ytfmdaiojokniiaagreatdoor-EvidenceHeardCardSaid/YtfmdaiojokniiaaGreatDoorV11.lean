/- Several texts of mine, one behind the other. Conditions: as each says. -/
import Derived.Test.YtfmdaiojokniiaaGreatDoorV9
import Derived.Test.YtfmdaiojokniiaaGreatDoorV10
set_option linter.unusedVariables false
set_option linter.unusedSimpArgs false
section
namespace Go.aw
open Go Go.RowKit
section
variable {E:Env} {ag:FuncId} {R:cw} {s:List AV} {h:List ae} {ops:Array Oper} {o:Oper} {l:List Oper} {k:List aN}
end
end Go.aw
namespace Go.aw
open Go Go.RowKit
theorem I.DA {E:Env} {ag:FuncId} {R:cw} {td:List aN} {s:List AV} {h:List ae} {lits:List Nat} {rows:List bk} (hp:R.rows.Perm rows) (H:I E ag ⟨R.n,R.Q,rows,R.fx⟩ lits td s h):I E ag R lits td s h:=by
 replace H:=H.to;refine .of ?_;unfold AW at H ⊢;intro c0 c t ts h0 h1 h2 h3 hr bF h4 h5 cs;refine H c0 c t ts h0 h1 h2 h3 hr ⟨⟨fun g hg=>bF.all.each g ?_,?_⟩,fun g hg=>bF.flat g (hp.mem_iff.2 hg)⟩ h4 h5 cs
 ·exact ((hp.append_right R.fx.loops).mem_iff).2 hg
 ·exact (((hp.append_right R.fx.loops).flatMap_right bk.cd).nodup_iff).1 bF.all.nodup
theorem aP {G:List (Nat × DV)} {s:List AV} {i:Nat} {v:AV} (h:s[i]? = some v):aY G s (.tmp i) v:=fun c a _ hs=>by
 have hl:i<a.tmps.size:=by rw [← hs.1]; exact aR h
 have:a.eval (.tmp i)=a.tmps[i]:=by simp [Act.eval,hl]
 rw [this];exact hs.2 i v _ h (by simp [hl])
end Go.aw
end
section
namespace Go.Proofs.YtfmdaiojokniiaaGreatDoor.P
open Go Go.aw Go.RowKit
set_option maxRecDepth 100000
set_option maxHeartbeats 4000000
theorem DB (t:Text):aq E 255 [.str t] (· = .bool (Nm.label t)):=by
 have hl:¬ (1≤t.length∧t.length≤12)→Nm.label t=false:=fun h=>by simp [Nm.label]; intro h1 h2; exact absurd ⟨h1,h2⟩ h
 by_cases DD:1≤t.length∧t.length≤12
 ·obtain ⟨c,hc⟩:=aL (l:=t) (k:=0) (by omega);obtain ⟨d,hd⟩:=aL (l:=t) (k:=t.length - 1) (by omega);have hw:IntKind.i64.wrap ((t.length:Int) - 1)=((t.length - 1:Nat):Int):=by rw [wrap64 (by omega) (by omega)]; omega
  refine eP Tryz.func255 ?_;refine aZ (by simp; omega) ?_;refine gO Tryz.func255 ?_;refine aZ (by simp; omega) ?_;refine gO Tryz.func255 ?_;refine jt c (by omega) hc ?_;refine gO Tryz.func255 ?_;refine ai (fun h1=>?_) (fun h1=>?_)
  ·refine gO Tryz.func255 ?_;refine aV ?_;refine gO Tryz.func255 ?_;rw [zQ (k:=0) (by omega) (by rw [zR hc]; simp at h1; omega)]
  refine gO Tryz.func255 ?_;refine jt d (by omega) (by rw [hw]; exact hd) ?_;refine gO Tryz.func255 ?_;refine ai (fun h2=>?_) (fun h2=>?_)
  ·refine gO Tryz.func255 ?_;rw [zQ (k:=t.length - 1) (by omega) (by rw [zR hd]; simp at h2; omega)]
  refine gO Tryz.func255 ?_;refine I.loop (κ:=Nat) ([2,3,4]++rg 28 25) (fun k=>[(28,.d (.int .i64 k))]) (fun _=>[]) (fun k=>k≤t.length∧∀ i,i<k→Nm.oo t i=true) (fun k=>t.length - k) 0 ⟨Nat.zero_le _,by omega⟩ ?_ ?_
  ·exact sZ
  rintro k ⟨hk,aW⟩ IH;refine I.head af Tryz.func255 2000 ?_;(conv=>whnf);refine ai (fun h5=>?_) (fun h5=>?_)
  ·have aj:k<t.length:=by simpa using h5
   obtain ⟨e,he⟩:=aL aj;have qJ:=zR he;have h0:e.toNat=45→0<k∧k+1<t.length:=fun h=>by
    simp at h1 h2;constructor
    ·refine Nat.pos_of_ne_zero fun h3=>?_;subst h3;rw [hc] at he;cases he;omega
    ·refine Nat.lt_of_not_le fun h3=>?_;obtain rfl:k=t.length - 1:=by omega
     rw [hd] at he;cases he;omega
   have back:Nm.oo t k=true→_:=fun e=>IH (k+1) ⟨aj,fun i hi=>(Nat.lt_succ_iff_lt_or_eq.1 hi).elim (aW i) (fun h=>h ▸ e)⟩ (by omega);refine gO Tryz.func255 ?_;refine jt e (by omega) (by rw [Int.toNat_natCast]; exact he) ?_;repeat' (first | with_reducible refine cY ?_ | with_reducible refine cN ?_ | with_reducible refine ai (fun _=>?_) (fun _=>?_) | refine gA Tryz.func255 ?_ | refine gB ?_ | with_reducible rfl)
   all_goals try (refine I.run af Tryz.func255 2000 ?_; conv=>whnf)
   all_goals simp only [decide_eq_true_eq,decide_eq_false_iff_not,beq_iff_eq,beq_eq_false_iff_ne,bne_iff_ne,bne_eq_false_iff_eq] at *
   all_goals first
    |(rw [zQ aj (by rw [qJ]; omega)]; done)
    |(refine I.back (back (by rw [qJ]; omega)) ?_; exact Dh)
  ·have aC:k=t.length:=by have:=of_decide_eq_false h5; omega
   subst aC;refine gO Tryz.func255 ?_;simp only [Nm.label];rw [decide_eq_true ⟨DD.1,DD.2,aW⟩]
 ·rw [hl DD];refine eP Tryz.func255 ?_;refine ai (fun h1=>?_) (fun h1=>?_)
  ·repeat' (first | with_reducible refine cY ?_ | with_reducible refine cN ?_ | with_reducible refine ai (fun _=>?_) (fun _=>?_) | refine gA Tryz.func255 ?_ | refine gB ?_ | with_reducible rfl)
  ·refine I.run af Tryz.func255 2000 ?_;(conv=>whnf);refine bh (by simp at h1 ⊢; omega) ?_;repeat' (first | with_reducible refine cY ?_ | with_reducible refine cN ?_ | with_reducible refine ai (fun _=>?_) (fun _=>?_) | refine gA Tryz.func255 ?_ | refine gB ?_ | with_reducible rfl)
def mD (t:Text):Nat→Int
 | 0 => -1
 |k+1=>if t[k]? = some 46 then k else mD t k
theorem Ii (t:Text):∀ k,k≤t.length→(mD t k = -1∧46 ∉ t.take k)∨∃ m:Nat,mD t k=m∧m<k∧t.take k=t.take m++46::(t.take k).drop (m+1)∧46 ∉ (t.take k).drop (m+1)
 | 0,_ => .inl ⟨rfl,by simp⟩
 |k+1,hk=>by
  obtain ⟨c,hc⟩:=aL (l:=t) (k:=k) (by omega);have ht:=cI hc;have hl:(t.take k).length=k:=by simp; omega
  rw [mD,hc];by_cases h:c=46
  ·subst h;refine .inr ⟨k,by simp,by omega,?_,?_⟩
   ·rw [ht,List.drop_of_length_le (by simp; omega)]
   ·rw [List.drop_of_length_le (by simp; omega)]; simp
  ·rw [if_neg (by simpa using h),ht];rcases Ii t k (by omega) with ⟨h1,h2⟩ | ⟨m,h1,h2,h3,h4⟩
   ·exact .inl ⟨h1,by simp [h2]; exact fun e=>h e.symm⟩
   ·have e:(t.take k++[c]).drop (m+1)=(t.take k).drop (m+1)++[c]:=by rw [List.drop_append_of_le_length (by omega)]
    refine .inr ⟨m,h1,by omega,?_,?_⟩
    ·rw [e]; conv=>lhs; rw [h3];simp
    ·rw [e]; simp [h4]; exact fun e=>h e.symm
theorem PI (t:Text):(mD t t.length = -1∧Nm.split t=[t])∨∃ m:Nat,mD t t.length=m∧m<t.length∧Nm.split t=Nm.split (t.take m)++[t.drop (m+1)]:=by
 rcases Ii t t.length (Nat.le_refl _) with ⟨h1,h2⟩ | ⟨m,h1,h2,h3,h4⟩
 ·rw [List.take_length] at h2;exact .inl ⟨h1,Nm.zN t h2⟩
 ·rw [List.take_length] at h3 h4;exact .inr ⟨m,h1,h2,by conv=>lhs; rw [h3,Nm.zM,Nm.zN _ h4]⟩
theorem PJ (t:Text) (ht:t.length≤maxLen):aq E 334 [.str t,.int .u8 46] (· = .int .i64 (mD t t.length)):=by
 unfold maxLen at ht;have hw:IntKind.i64.wrap ((t.length:Int) - 1)=(t.length:Int) - 1:=wrap64 (by omega) (by omega);refine eP Tryz.func334 ?_;refine I.loop (κ:=Nat) ([4,5]++rg 9 10) (fun k=>[(5,.d (.int .i64 ((k:Int) - 1)))]) (fun _=>[]) (fun k=>k≤t.length∧mD t t.length=mD t k) (fun k=>k) t.length ⟨Nat.le_refl _,rfl⟩ ?_ ?_
 ·exact sZ
 rintro k ⟨hk,hd⟩ IH;refine I.head af Tryz.func334 2000 ?_;(conv=>whnf);refine ai (fun h5=>?_) (fun h5=>?_)
 ·obtain ⟨k,rfl⟩:∃ j,k=j+1:=⟨k - 1,by have:=of_decide_eq_true h5; omega⟩;obtain ⟨c,hc⟩:=aL (l:=t) (k:=k) (by omega);rw [mD,hc] at hd;refine gO Tryz.func334 ?_;refine jt c (by omega) (by rw [show (((k+1:Nat):Int) - 1).toNat=k by omega]; exact hc) ?_;refine gO Tryz.func334 ?_;by_cases h:c=46
  ·subst h;refine bh (by decide) ?_;refine gO Tryz.func334 ?_;rw [hd,if_pos rfl,show (((k+1:Nat):Int) - 1)=(k:Int) by omega]
  ·rw [if_neg (by simpa using h)] at hd;refine aZ (beq_eq_false_iff_ne.2 fun e=>h (UInt8.toNat_inj.1 (Int.ofNat.inj e))) ?_;refine gO Tryz.func334 ?_;refine I.back (IH k ⟨by omega,hd⟩ (by omega)) ?_;exact sZ
 ·have aC:k=0:=by have:=of_decide_eq_false h5; omega
  subst aC;refine gO Tryz.func334 ?_;rw [hd]; rfl
theorem zY (t:Text) (ht:t.length≤maxLen):aq E 287 [.str t,.int .u8 46] (· = .int .i64 (mD t t.length)):=by
 have c1:=PJ t ht;refine eP Tryz.func287 ?_;refine ao (c1) ?_;refine gO Tryz.func287 ?_
 with_reducible rfl
def sH:Bool→List Text→Prop
 |false,S=>∀ y∈S,Nm.label y=true
 |true,S=>∃ R,S=[42]::R∧∀ y∈R,Nm.label y=true
theorem PK {P S:List Text} {x:Text} {w:Bool} (hS:sH w S) (h:w=true∨8<S.length+1∨(x≠[42]∧Nm.label x=false)):Nm.parts (P++x::S)=false:=by
 rw [← Bool.not_eq_true,pj];rintro ⟨h1,h2⟩;rcases h with rfl | h | ⟨h3,h4⟩
 ·obtain ⟨R,rfl,-⟩:=hS;have:=h2 (P.length+1) [42] (by simp);simp [fF] at this;exact absurd this (by decide)
 ·simp at h1; omega
 ·have:=h2 P.length x (by simp);simp [fF,h3,h4] at this
theorem PL {S:List Text} {x:Text} (hS:sH false S) (h:S.length+1≤8) (hx:x=[42]∨Nm.label x=true):Nm.parts (x::S)=true:=by
 simp only [Nm.parts,Bool.and_eq_true,decide_eq_true_eq,List.all_eq_true,Bool.or_eq_true,beq_iff_eq];exact ⟨h,hx.symm,hS⟩
theorem PM {S:List Text} {x:Text} {w:Bool} (hS:sH false S) (hw:w=(x==[42])) (hx:x=[42]∨Nm.label x=true):sH w (x::S):=by
 subst hw;cases h:x==[42]
 ·exact List.forall_mem_cons.2 ⟨hx.resolve_left (by simpa using h),hS⟩
 ·exact ⟨S,by simpa using h,hS⟩
theorem zZ (t:Text):∃ (i:Int) (x:Text) (P:List Text),mD t t.length=i ∧ -1≤i∧i<t.length∧t.drop (i+1).toNat=x∧Nm.split t=P++[x]∧(i<0→P=[])∧(0≤i→P=Nm.split (t.take i.toNat)):=by
 rcases PI t with ⟨h1,h2⟩ | ⟨m,h1,h2,h3⟩
 ·exact ⟨-1,t,[],h1,by omega,by omega,rfl,h2,fun _=>rfl,fun h=>by omega⟩
 ·exact ⟨m,_,_,h1,by omega,by omega,rfl,by rw [show ((m:Int)+1).toNat=m+1 by omega]; exact h3,fun h=>by omega,fun _=>rfl⟩
theorem sJ (t:Text) (ht:t.length≤maxLen):aq E 177 [.str t] (· = .bool (Nm.valid t)):=by
 refine eP Tryz.func177 ?_;refine ai (fun h1=>?_) (fun h1=>?_)
 ·obtain rfl:t=[46]:=by simpa using h1
  refine gO Tryz.func177 ?_;rfl
 have h1:t≠[46]:=by simpa using h1
 refine gO Tryz.func177 ?_;refine ai (fun h2=>?_) (fun h2=>?_)
 ·refine gO Tryz.func177 ?_;simp at h2;simp [Nm.valid,h1];omega
 have h2:t.length≤60:=by simp at h2; omega
 have hv:Nm.valid t=Nm.parts (Nm.split t):=by simp [Nm.valid,h1,h2]
 refine gO Tryz.func177 ?_;refine I.rangeFunc (aP rfl) Tryz.func233 rfl (by decide) rfl (fun ll d tt=>?_);refine gO Tryz.func233 ?_;refine aZ (by simpa using h1) ?_;refine gO Tryz.func233 ?_;refine I.loop (κ:=Text × Bool × List Text) [4,5,9,10,11,12,13,14,15,16,17,18,19,20,21,22,23,24] (fun x=>[(4,.d (.str x.1))]) (fun x=>[(1,.cells [.d (.int .i64 x.2.2.length)]),(2,.cells [.d (.bool x.2.1)])]) (fun x=>x.1.length≤60∧Nm.split t=Nm.split x.1++x.2.2∧x.2.2.length≤8∧sH x.2.1 x.2.2) (fun x=>x.1.length) (t,false,[]) ⟨h2,by simp,by simp,by simp [sH]⟩ ?_ ?_
 ·(conv=>whnf);repeat (first | exact trivial | (refine sI ?_; conv=>whnf))
  refine And.intro rfl ?_;exact sZ
 rintro ⟨rest,w,S⟩ ⟨k1,k2,k3,k4⟩ IH;simp only at k1 k2 k3 k4;obtain ⟨i,x,P,e1,e2,e3,e4,e5,e6,e7⟩:=zZ rest;have c1:=zY rest (by unfold maxLen; omega);have hw:IntKind.i64.wrap (i+1)=i+1:=wrap64 (by omega) (by omega);have e8:Nm.split t=P++x::S:=by rw [k2,e5]; simp
 have bad:=fun h=>PK (P:=P) (x:=x) k4 h;rw [← e8,← hv] at bad;rw [e1] at c1;refine I.head af Tryz.func233 2000 ?_;(conv=>whnf);refine ao (c1) ?_;refine gO Tryz.func233 ?_;refine a8 ⟨by rw [hw]; simp; omega,by rw [hw]; simp; omega,by simp⟩ ?_;refine gO Tryz.func233 ?_;rw [hw];simp only [Option.getD_none,Option.getD_some,Int.toNat_natCast,List.take_length,e4];refine I.yield 0 rfl rfl rfl (aP rfl) (lG (aP rfl)) rfl ?_;(conv=>whnf);refine gO Tryz.func177 ?_;refine I.begin 0 rfl rfl rfl ?_;(conv=>whnf);refine gO Tryz.func177 ?_;have hn:IntKind.i64.wrap ((S.length:Int)+1)=(S.length:Int)+1:=wrap64 (by omega) (by omega);repeat' (first | with_reducible refine ao (DB x) ?_ | with_reducible refine ay (DB x) ?_ | with_reducible refine cY ?_ | with_reducible refine cN ?_ | with_reducible refine ai (fun _=>?_) (fun _=>?_) | refine gA Tryz.func177 ?_ | refine gB ?_ | with_reducible rfl)
 all_goals try (refine I.run af Tryz.func177 2000 ?_; conv=>whnf)
 all_goals rw [hn] at *
 all_goals try
  refine I.zW 0 rfl rfl rfl ?_;(conv=>whnf);refine gO Tryz.func233 ?_;refine bh (by decide) ?_;refine gO Tryz.func233 ?_;refine aV ?_;refine gO Tryz.func233 ?_;refine I.iD af Tryz.func233 rfl rfl rfl rfl (fun e=>nomatch e) ?_;(conv=>whnf);refine gO Tryz.func177 ?_;refine I.fS af Tryz.func177 rfl rfl rfl rfl rfl ?_;rw [bad (by simp_all; try omega)];rfl
 all_goals
  have hx:x=[42]∨Nm.label x=true:=by simp_all
  have h8:S.length+1≤8:=by simp_all; try omega
  have hS:sH false S:=by simp_all
  refine I.mC 0 rfl rfl rfl ?_;(conv=>whnf);refine gO Tryz.func233 ?_;refine aZ (by decide) ?_;refine gO Tryz.func233 ?_;refine ai (fun h5=>?_) (fun h5=>?_)
  ·refine gO Tryz.func233 ?_;refine I.iD af Tryz.func233 rfl rfl rfl rfl (fun e=>nomatch e) ?_;(conv=>whnf);refine gO Tryz.func177 ?_;refine I.fS af Tryz.func177 rfl rfl rfl rfl rfl ?_;rw [hv,e8,e6 (by simpa using h5),List.nil_append,PL hS h8 hx];rfl
  ·have h5:0≤i:=by simpa using h5
   refine gO Tryz.func233 ?_;refine a8 ⟨by simp,by simp; omega,by simp; omega⟩ ?_;refine gO Tryz.func233 ?_;simp only [Option.getD_none,Option.getD_some,Int.toNat_zero,List.drop_zero];refine I.back (IH (rest.take i.toNat,x==[42],x::S) ⟨by simp; omega,by simp only; rw [e8,e7 h5],h8,PM hS rfl hx⟩ (by simp; omega)) ?_;(conv=>whnf);repeat (first | exact trivial | (refine sI ?_; conv=>whnf))
   refine And.intro (by simp) ?_;exact sZ
end Go.Proofs.YtfmdaiojokniiaaGreatDoor.P
end
