/- Lemmas of mine. Conditions: as stated. -/
import Derived.Test.YtcmnpelmmekdkaaGreatDoorW8
import Derived.Shelf.SlSortCmp.Whole1
import Derived.Shelf.SlicesG.Cmp
import Derived.Ground.SlgmProg
import Derived.Ground.Names2Prog
import Derived.Ground.SlsfProg
import Derived.Ground.SlgcProg
set_option linter.unusedVariables false
set_option linter.unusedSimpArgs false
section
namespace Go.Proofs.YtcmnpelmmekdkaaGreatDoor.P
open Go Go.aA
set_option maxRecDepth 100000
structure bR where
 bB:aM
 other:Text
 deriving DecidableEq
structure bu where
 name:Text
 az:List Text
 before:Int
 bB:aM
 list:List aM
def cy(met:List Text)(b:Int)(dp:List aM):List bR->List bu
 |[]=>[]
 |x::r=>if x.other∈met then cy met b dp r else⟨x.other,[],b,x.bB,dp++[x.bB]⟩::cy (met++[x.other]) b dp r
abbrev mA:=Text->List Text × List bR
def ph(J:mA):Nat->List bu->List bu->List bu
 |0,done,_=>done
 |_+1,done,[]=>done
 |n+1,done,v::w=>ph J n (done++[{ v with az:=(J v.name).1 }]) (w++cy ((done++v::w).map bu.name) done.length v.list (J v.name).2)
theorem Dn{b:Int}{dp:List aM}:∀ {L:List bR} {met:List Text} {v:bu},v∈cy met b dp L->v.name ∉ met/\(∃ x∈L,x.other=v.name/\v.bB=x.bB/\v.list=dp++[x.bB])/\v.before=b/\v.az=[]
 |[],_,_,h=>by simp[cy]at h
 |x::r,met,v,h=>by
  rw[cy]at h;split at h
  ·obtain⟨h1,⟨y,h2,h3⟩,h4⟩:=Dn h;exact⟨h1,⟨y,List.mem_cons_of_mem _ h2,h3⟩,h4⟩
  ·rename_i hn;rcases List.mem_cons.1 h with rfl|h
   ·exact⟨hn,⟨x,List.mem_cons_self ..,rfl,rfl,rfl⟩,rfl,rfl⟩
   ·obtain⟨h1,⟨y,h2,h3⟩,h4⟩:=Dn h;exact⟨fun e=>h1 (List.mem_append_left _ e),⟨y,List.mem_cons_of_mem _ h2,h3⟩,h4⟩
theorem Ip{b:Int}{dp:List aM}:∀ {L:List bR} {met:List Text},met.Nodup->(met++(cy met b dp L).map bu.name).Nodup
 |[],met,h=>by simpa [cy]using h
 |x::r,met,h=>by
  rw[cy];split
  ·exact Ip h
  ·rename_i hn
   have:=Ip (L:=r) (b:=b) (dp:=dp) (met:=met++[x.other]) (by
    rw[List.nodup_append]
    exact⟨h,by simp,fun a ha c hc e=>by simp at hc;subst hc;subst e;exact hn ha⟩)
   simpa [List.append_assoc]using this
theorem Iq{b:Int}{dp:List aM}:∀ {L:List bR} {met:List Text} {x:bR},x∈L->x.other∈met++(cy met b dp L).map bu.name
 |y::r,met,x,h=>by
  rw[cy];split
  ·rename_i hm;rcases List.mem_cons.1 h with rfl|h
   ·exact List.mem_append_left _ hm
   ·exact Iq h
  ·rcases List.mem_cons.1 h with rfl|h
   ·simp
   ·have:=Iq (b:=b) (dp:=dp) (met:=met++[y.other]) h
    simpa [List.append_assoc]using this
theorem Dp{b:Int}{dp:List aM}{d:bR}:∀ {L:List bR} {met:List Text},d.other∈met->cy met b dp (L.filter fun x => !decide (x=d))=cy met b dp L
 |[],_,_=>rfl
 |x::r,met,h=>by
  by_cases e:x=d
  ·subst e;rw[List.filter_cons_of_neg (by simp),Dp h,cy,if_pos h]
  ·rw[List.filter_cons_of_pos (by simpa using e),cy,cy];split
   ·exact Dp h
   ·rw[Dp (List.mem_append_left _ h)]
theorem xY{α:Type}[DecidableEq α]:∀ {l U:List α},l.Nodup->(∀ x∈l,x∈U)->l.length<=U.length
 |[],_,_,_=>by simp
 |x::l,U,h,hs=>by
  rw[List.nodup_cons]at h;have h1:=xY (U:=U.erase x) h.2 fun y hy=>by
   have:y≠x:=fun e=>h.1 (e ▸ hy);exact(List.mem_erase_of_ne this).2 (hs y (List.mem_cons_of_mem _ hy))
  have h2:=List.length_erase_of_mem (hs x (List.mem_cons_self ..));have h3:=List.length_pos_of_mem (hs x (List.mem_cons_self ..));simp;omega
def AP(J:mA)(U:List Text):Prop:=∀ n∈U,∀ x∈(J n).2,x.other∈U
structure fS(J:mA)(s:Text)(done wait:List bu):Prop where
 nodup:((done++wait).map bu.name).Nodup
 start:s∈(done++wait).map bu.name
 shut:∀ v∈done,v.az=(J v.name).1/\∀ x∈(J v.name).2,x.other∈(done++wait).map bu.name
 least:∀ U,s∈U->AP J U->∀ v∈done++wait,v.name∈U
 prev:∀ (j:Nat) (v:bu),(done++wait)[j]?=some v->(v.before = -1/\v.list=[]/\v.name=s/\j=0)\/∃ (b:Nat) (u:bu) (x:bR),v.before=b/\b<j/\b<done.length/\done[b]?=some u/\x∈(J u.name).2/\x.other=v.name/\v.bB=x.bB/\v.list=u.list++[v.bB]
theorem fS.init{J:mA}{s:Text}{q:aM}:fS J s [] [⟨s,[],-1,q,[]⟩]:=by
 refine⟨by simp,by simp,fun v hv=>by simp at hv,fun U h _ v hv=>by simp at hv;subst hv;exact h,fun j v hj=>?_⟩;cases j with
 |zero=>simp at hj;subst hj;exact .inl ⟨rfl,rfl,rfl,rfl⟩
 |succ j=>simp at hj
theorem fS.next{J:mA}{s:Text}{done w:List bu}{v:bu}(H:fS J s done (v::w)):fS J s (done++[{ v with az:=(J v.name).1 }]) (w++cy ((done++v::w).map bu.name) done.length v.list (J v.name).2):=by
 have Ir:((done++[{ v with az:=(J v.name).1 }])++(w++cy ((done++v::w).map bu.name) done.length v.list (J v.name).2)).map bu.name=(done++v::w).map bu.name++(cy ((done++v::w).map bu.name) done.length v.list (J v.name).2).map bu.name:=by simp
 refine⟨?_,?_,?_,?_,?_⟩
 ·rw[Ir];exact Ip H.nodup
 ·rw[Ir];exact List.mem_append_left _ H.start
 ·intro u hu;rw[Ir];rcases List.mem_append.1 hu with hu|hu
  ·exact⟨(H.shut u hu).1,fun x hx=>List.mem_append_left _ ((H.shut u hu).2 x hx)⟩
  ·simp at hu;subst hu;exact⟨rfl,fun x hx=>Iq hx⟩
 ·intro U hs hU u hu;have hv:v.name∈U:=H.least U hs hU v (by simp);rcases List.mem_append.1 hu with hu|hu
  ·rcases List.mem_append.1 hu with hu|hu
   ·exact H.least U hs hU u (List.mem_append_left _ hu)
   ·simp at hu;subst hu;exact hv
  ·rcases List.mem_append.1 hu with hu|hu
   ·exact H.least U hs hU u (by simp[hu])
   ·obtain⟨_,⟨x,h1,h2,_⟩,_⟩:=Dn hu;rw[<- h2];exact hU _ hv x h1
 ·intro j u hj;have key:∀ {b:Nat} {z:bu},done[b]?=some z->(done++[{ v with az:=(J v.name).1 }])[b]?=some z:=fun{b z} h=>by
   rw[List.getElem?_append_left (List.getElem?_eq_some_iff.1 h).1];exact h
  have old:∀ (j:Nat) (u u':bu),(done++v::w)[j]?=some u->u'.before=u.before->u'.list=u.list->u'.name=u.name->u'.bB=u.bB->(u'.before = -1/\u'.list=[]/\u'.name=s/\j=0)\/∃ (b:Nat) (z:bu) (x:bR),u'.before=b/\b<j/\b<(done++[{ v with az:=(J v.name).1 }]).length/\(done++[{ v with az:=(J v.name).1 }])[b]?=some z/\x∈(J z.name).2/\x.other=u'.name/\u'.bB=x.bB/\u'.list=z.list++[u'.bB]:=by
   intro j u u' hj e1 e2 e3 e4;rw[e1,e2,e3,e4];rcases H.prev j u hj with h|⟨b,z,x,h1,h2,h3,h4,h5⟩
   ·exact .inl h
   ·exact .inr ⟨b,z,x,h1,h2,by simp;omega,key h4,h5⟩
  by_cases gW:j<done.length+1+w.length
  ·rcases Nat.lt_trichotomy j done.length with h|h|h
   ·rw[List.append_assoc,List.getElem?_append_left h]at hj;exact old j u u (by rw[List.getElem?_append_left h];exact hj) rfl rfl rfl rfl
   ·subst h;rw[List.append_assoc,List.getElem?_append_right (Nat.le_refl _),Nat.sub_self]at hj;simp at hj;subst hj;exact old done.length v _ (by simp) rfl rfl rfl rfl
   ·rw[List.getElem?_append_right (by simp;omega),List.getElem?_append_left (by simp;omega)]at hj;refine old j u u ?_ rfl rfl rfl rfl;rw[List.getElem?_append_right (by omega),show j-done.length=(j-(done.length+1))+1 by omega,List.getElem?_cons_succ]
    simpa using hj
  ·rw[List.getElem?_append_right (by simp;omega),List.getElem?_append_right (by simp;omega)]at hj;have hm:=List.mem_of_getElem? hj;obtain⟨h1,⟨x,h2,h3,h4,h5⟩,h6,h7⟩:=Dn hm;refine .inr ⟨done.length,{ v with az:=(J v.name).1 },x,h6,by omega,by simp,by simp,h2,h3,h4,?_⟩;rw[h5,h4]
theorem PH{J:mA}{s:Text}{U:List Text}(hs:s∈U)(hU:AP J U):∀ (n:Nat) (done wait:List bu),fS J s done wait->U.length<done.length+n->fS J s (ph J n done wait) []
 |0,done,wait,H,h=>by
  have:=xY H.nodup (U:=U) fun x hx=>by
   obtain⟨v,hv,rfl⟩:=List.mem_map.1 hx;exact H.least U hs hU v hv
  simp at this;omega
 |n+1,done,[],H,h=>by simpa [ph]using H
 |n+1,done,v::w,H,h=>by
  rw[ph];exact PH hs hU n _ _ H.next (by simp;omega)
theorem Is{J:mA}{s:Text}{U:List Text}(hs:s∈U)(hU:AP J U){done wait:List bu}(H:fS J s done wait):done.length+wait.length<=U.length:=by
 have:=xY H.nodup (U:=U) fun x hx=>by
  obtain⟨v,hv,rfl⟩:=List.mem_map.1 hx;exact H.least U hs hU v hv
 simpa using this
theorem PI{lt:bR->bR->Prop}(tE:∀ a,¬ lt a a)(pj:∀ a b c,lt a b->lt b c->lt a c){b:Int}{dp:List aM}:∀ {D L:List bR} {met:List Text},D.Pairwise lt->L.Pairwise (fun a b=>lt a b\/a=b)->(∀ x,x∈L↔x∈D)->cy met b dp L=cy met b dp D
 |[],L,met,_,_,h=>by
  cases L with
  |nil=>rfl
  |cons x L=>have:=(h x).1 (List.mem_cons_self ..);simp at this
 |d::D,L,met,hD,hL,h=>by
  obtain⟨p1,p2⟩:=List.pairwise_cons.1 hD;cases L with
  |nil=>have:=(h d).2 (List.mem_cons_self ..);simp at this
  |cons x L =>
   obtain⟨q1,q2⟩:=List.pairwise_cons.1 hL;have xr:x=d:=by
    rcases List.mem_cons.1 ((h x).1 (List.mem_cons_self ..))with e|e
    ·exact e
    ·have h1:=p1 x e;rcases List.mem_cons.1 ((h d).2 (List.mem_cons_self ..))with e2|e2
     ·exact e2.symm
     ·rcases q1 d e2 with h2|h2
      ·exact absurd (pj _ _ _ h1 h2) (tE _)
      ·exact h2
   subst xr;have step:∀ Dq,x.other∈Dq->cy Dq b dp L=cy Dq b dp D:=fun Dq hm=>by
    rw[<- Dp hm];refine PI tE pj p2 (q2.sublist List.filter_sublist) fun y=>?_;rw[List.mem_filter];constructor
    ·rintro⟨h1,h2⟩;rcases List.mem_cons.1 ((h y).1 (List.mem_cons_of_mem _ h1))with e|e
     ·simp[e]at h2
     ·exact e
    ·intro hy;have aH:y≠x:=fun e=>tE x (e ▸ p1 y hy);rcases List.mem_cons.1 ((h y).2 (List.mem_cons_of_mem _ hy))with e|e
     ·exact absurd e aH
     ·exact⟨e,by simpa using aH⟩
   rw[cy,cy];split
   ·rename_i hm;exact step met hm
   ·rw[step (met++[x.other]) (by simp)]
section
variable {α:Type} [DecidableEq α] (lt:α->α->Bool)
def iD:List α->α->List α
 |[],x=>[x]
 |y::r,x=>if y=x then y::r else if lt x y then x::y::r else y::iD r x
variable {lt}
theorem AQ{x y:α}:∀ {l:List α},y∈iD lt l x↔y∈l\/y=x
 |[]=>by simp[iD]
 |z::r=>by
  rw[iD];split
  ·rename_i h;subst h;simp only[List.mem_cons];constructor
   ·exact fun h => .inl h
   ·rintro(h|h)
    ·exact h
    ·exact .inl h
  ·split
   ·simp only[List.mem_cons];constructor
    ·rintro(h|h|h)
     ·exact .inr h
     ·exact .inl (.inl h)
     ·exact .inl (.inr h)
    ·rintro((h|h)|h)
     ·exact .inr (.inl h)
     ·exact .inr (.inr h)
     ·exact .inl h
   ·rw[List.mem_cons,AQ,List.mem_cons];constructor
    ·rintro(h|h|h)
     ·exact .inl (.inl h)
     ·exact .inl (.inr h)
     ·exact .inr h
    ·rintro((h|h)|h)
     ·exact .inl h
     ·exact .inr (.inl h)
     ·exact .inr (.inr h)
theorem It(pj:∀ a b c,lt a b=true->lt b c=true->lt a c=true)(kS:∀ a b,a≠b->lt a b=false->lt b a=true){x:α}:∀ {l:List α},l.Pairwise (fun a b=>lt a b=true)->(iD lt l x).Pairwise fun a b=>lt a b=true
 |[],_=>by simp[iD]
 |y::r,h=>by
  obtain⟨h1,h2⟩:=List.pairwise_cons.1 h;rw[iD];split
  ·exact h
  ·rename_i aH;cases e:lt x y
   ·simp only[Bool.false_eq_true,if_false];refine List.pairwise_cons.2 ⟨fun z hz=>?_,It pj kS h2⟩;rcases AQ.1 hz with hz|hz
    ·exact h1 z hz
    ·subst hz;exact kS _ _ (fun q=>aH q.symm) e
   ·simp only[if_true];refine List.pairwise_cons.2 ⟨fun z hz=>?_,h⟩;rcases List.mem_cons.1 hz with rfl|hz
    ·exact e
    ·exact pj _ _ _ e (h1 z hz)
def fJ(l:List α)(xs:List α):List α:=xs.foldl (iD lt) l
theorem Dr{y:α}:∀ {xs l:List α},y∈fJ (lt:=lt) l xs↔y∈l\/y∈xs
 |[],l=>by simp[fJ]
 |x::xs,l=>by
  have:=Dr (y:=y) (xs:=xs) (l:=iD lt l x);rw[fJ,List.foldl_cons];rw[fJ]at this;rw[this,AQ,List.mem_cons];constructor
  ·rintro((h|h)|h)
   ·exact .inl h
   ·exact .inr (.inl h)
   ·exact .inr (.inr h)
  ·rintro(h|h|h)
   ·exact .inl (.inl h)
   ·exact .inl (.inr h)
   ·exact .inr h
theorem Ds(pj:∀ a b c,lt a b=true->lt b c=true->lt a c=true)(kS:∀ a b,a≠b->lt a b=false->lt b a=true):∀ {xs l:List α},l.Pairwise (fun a b=>lt a b=true)->(fJ (lt:=lt) l xs).Pairwise fun a b=>lt a b=true
 |[],_,h=>h
 |_::xs,_,h=>Ds pj kS (xs:=xs) (It pj kS h)
omit [DecidableEq α] in
theorem Dt(tE:∀ a,lt a a=false)(pj:∀ a b c,lt a b=true->lt b c=true->lt a c=true):∀ {a b:List α},a.Pairwise (fun x y=>lt x y=true)->b.Pairwise (fun x y=>lt x y=true)->(∀ x,x∈a↔x∈b)->a=b
 |[],[],_,_,_=>rfl
 |[],y::b,_,_,h=>by have:=(h y).2 (List.mem_cons_self ..);simp at this
 |x::a,[],_,_,h=>by have:=(h x).1 (List.mem_cons_self ..);simp at this
 |x::a,y::b,ha,hb,h=>by
  obtain⟨a1,a2⟩:=List.pairwise_cons.1 ha;obtain⟨b1,b2⟩:=List.pairwise_cons.1 hb;have no:∀ u v,lt u v=true->lt v u=true->False:=fun u v h1 h2=>by have:=pj _ _ _ h1 h2;rw[tE]at this;cases this
  have e:x=y:=by
   rcases List.mem_cons.1 ((h x).1 (List.mem_cons_self ..))with e|e
   ·exact e
   ·rcases List.mem_cons.1 ((h y).2 (List.mem_cons_self ..))with e2|e2
    ·exact e2.symm
    ·exact(no _ _ (b1 x e) (a1 y e2)).elim
  subst e
  congr 1
  refine Dt tE pj a2 b2 fun z=>?_;constructor
  ·intro hz;rcases List.mem_cons.1 ((h z).1 (List.mem_cons_of_mem _ hz))with e|e
   ·subst e;have:=a1 _ hz;rw[tE]at this;cases this
   ·exact e
  ·intro hz;rcases List.mem_cons.1 ((h z).2 (List.mem_cons_of_mem _ hz))with e|e
   ·subst e;have:=b1 _ hz;rw[tE]at this;cases this
   ·exact e
end
theorem AR{b:Int}{dp:List aM}{x:bR}:∀ {L:List bR} {met:List Text},cy met b dp (L++[x])=cy met b dp L++if x.other∈met++(cy met b dp L).map bu.name then[]else[⟨x.other,[],b,x.bB,dp++[x.bB]⟩]
 |[],met=>by simp[cy]
 |y::r,met=>by
  rw[List.cons_append,cy,cy];split
  ·exact AR
  ·rw[AR,List.cons_append];simp only[List.map_cons,List.append_assoc,List.singleton_append]
theorem fS.closed{J:mA}{s:Text}{R:List bu}(H:fS J s R []):AP J (R.map bu.name):=fun n hn x hx=>by
 obtain⟨v,hv,rfl⟩:=List.mem_map.1 hn
 simpa using(H.shut v hv).2 x hx
theorem fS.sub{J:mA}{s t:Text}{R Q:List bu}(H:fS J s R [])(K:fS J t Q [])(h:t∈R.map bu.name):∀ v∈Q,v.name∈R.map bu.name:=fun v hv =>
 K.least _ h H.closed v (by simpa using hv)
def fg(R:List bu):List Text:=R.flatMap (·.az)
theorem fS.PJ{J:mA}{s:Text}{R:List bu}(H:fS J s R []){z:Text}:z∈fg R↔∃ n∈R.map bu.name,z∈(J n).1:=by
 rw[fg,List.mem_flatMap];constructor
 ·rintro⟨v,hv,hz⟩;exact⟨v.name,List.mem_map.2 ⟨v,hv,rfl⟩,(H.shut v hv).1 ▸ hz⟩
 ·rintro⟨n,hn,hz⟩;obtain⟨v,hv,rfl⟩:=List.mem_map.1 hn;exact⟨v,hv,(H.shut v hv).1 ▸ hz⟩
theorem fS.back{J:mA}{s:Text}{R:List bu}(H:fS J s R []){i:Nat}{v:bu}(h:R[i]?=some v):(v.before = -1/\v.list=[])\/∃ (b:Nat) (u:bu),v.before=b/\b<i/\R[b]?=some u/\v.list=u.list++[v.bB]:=by
 rcases H.prev i v (by simpa using h)with⟨h1,h2,_⟩|⟨b,u,x,h1,h2,_,h4,_,_,_,h8⟩
 ·exact .inl ⟨h1,h2⟩
 ·exact .inr ⟨b,u,h1,h2,h4,h8⟩
def fh(p q:aR):Bool:=decide (iV q.aE<iV p.aE)||(decide (iV p.aE=iV q.aE)&&decide (p.host<q.host))
theorem PK(p:aR):fh p p=false:=by simp[fh]
theorem Zn{p q r:aR}(h:fh p q=true)(k:fh q r=true):fh p r=true:=by
 simp only[fh,Bool.or_eq_true,Bool.and_eq_true,decide_eq_true_eq]at *;omega
def xZ(l:List aR)(ad:Text)(b:Int)(i:Nat):Int:=match l[i]? with
 |none=>b
 |some p=>if p.aE.ad=ad then(if b<0 then(i:Int)else match l[b.toNat]? with
  |some q=>if fh p q then(i:Int)else b
  |none=>b)else b
def ez(l:List aR)(ad:Text):Nat->Int
 |0 => -1
 |n+1=>xZ l ad (ez l ad n) n
def mB(l:List aR)(ad:Text):Int:=ez l ad l.length
structure PL(l:List aR)(ad:Text)(n:Nat)(k:Nat)(q:aR):Prop where
 lt:k<n
 at_:l[k]?=some q
 home:q.aE.ad=ad
 Du:∀ j p,j<n->l[j]?=some p->p.aE.ad=ad->fh p q=false
theorem x7{l:List aR}{ad:Text}:∀ (n:Nat),(ez l ad n = -1/\∀ j p,j<n->l[j]?=some p->p.aE.ad≠ad)\/∃ k q,ez l ad n=(k:Nat)/\PL l ad n k q
 |0 => .inl ⟨rfl,fun j p h=>by omega⟩
 |n+1=>by
  have ih:=x7 (l:=l) (ad:=ad) n;rw[ez];unfold xZ;cases hn:l[n]? with
  |none =>
   simp only;rcases ih with⟨h1,h2⟩|⟨k,q,h1,h2⟩
   ·refine .inl ⟨h1,fun j p hj hp=>?_⟩;rcases Nat.lt_or_ge j n with h|h
    ·exact h2 j p h hp
    ·obtain rfl:j=n:=by omega
     rw[hn]at hp;cases hp
   ·refine .inr ⟨k,q,h1,⟨by have:=h2.lt;omega,h2.at_,h2.home,fun j p hj hp ha=>?_⟩⟩;rcases Nat.lt_or_ge j n with h|h
    ·exact h2.Du j p h hp ha
    ·obtain rfl:j=n:=by omega
     rw[hn]at hp;cases hp
  |some x =>
   simp only;by_cases hx:x.aE.ad=ad
   case neg =>
    rw[if_neg hx];rcases ih with⟨h1,h2⟩|⟨k,q,h1,h2⟩
    ·refine .inl ⟨h1,fun j p hj hp=>?_⟩;rcases Nat.lt_or_ge j n with h|h
     ·exact h2 j p h hp
     ·obtain rfl:j=n:=by omega
      rw[hn]at hp;cases hp;exact hx
    ·refine .inr ⟨k,q,h1,⟨by have:=h2.lt;omega,h2.at_,h2.home,fun j p hj hp ha=>?_⟩⟩;rcases Nat.lt_or_ge j n with h|h
     ·exact h2.Du j p h hp ha
     ·obtain rfl:j=n:=by omega
      rw[hn]at hp;cases hp;exact absurd ha hx
   rw[if_pos hx];rcases ih with⟨h1,h2⟩|⟨k,q,h1,h2⟩
   ·rw[h1,if_pos (by omega)];refine .inr ⟨n,x,rfl,⟨by omega,hn,hx,fun j p hj hp ha=>?_⟩⟩;rcases Nat.lt_or_ge j n with h|h
    ·exact absurd ha (h2 j p h hp)
    ·obtain rfl:j=n:=by omega
     rw[hn]at hp;cases hp;exact PK _
   ·rw[h1,if_neg (by omega),Int.toNat_natCast,h2.at_];simp only;cases e:fh x q
    ·rw[if_neg (by decide)];refine .inr ⟨k,q,rfl,⟨by have:=h2.lt;omega,h2.at_,h2.home,fun j p hj hp ha=>?_⟩⟩;rcases Nat.lt_or_ge j n with h|h
     ·exact h2.Du j p h hp ha
     ·obtain rfl:j=n:=by omega
      rw[hn]at hp;cases hp;exact e
    ·rw[if_pos rfl];refine .inr ⟨n,x,rfl,⟨by omega,hn,hx,fun j p hj hp ha=>?_⟩⟩;rcases Nat.lt_or_ge j n with h|h
     ·cases e2:fh p x
      ·rfl
      ·have:=h2.Du j p h hp ha;rw[Zn e2 e]at this;cases this
     ·obtain rfl:j=n:=by omega
      rw[hn]at hp;cases hp;exact PK _
def gd(l:List aR)(ad:Text):Option aP:=match l[(mB l ad).toNat]? with
 |some p=>if 0<=mB l ad then some p.aE else none
 |none=>none
theorem PM{l:List aR}{ad:Text}:gd l ad=none↔∀ p∈l,p.aE.ad≠ad:=by
 rcases x7 (l:=l) (ad:=ad) l.length with⟨h1,h2⟩|⟨k,q,h1,h2⟩
 ·constructor
  ·intro _ p hp;obtain⟨j,hj⟩:=List.getElem?_of_mem hp;exact h2 j p (List.getElem?_eq_some_iff.1 hj).1 hj
  ·intro _;unfold gd mB;rw[h1];split
   ·rw[if_neg (by omega)]
   ·rfl
 ·constructor
  ·intro h;unfold gd mB at h;rw[h1,Int.toNat_natCast,h2.at_]at h;simp at h
  ·intro h;exact absurd h2.home (h q (List.mem_of_getElem? h2.at_))
theorem PN{l:List aR}{ad:Text}{z:aP}:gd l ad=some z->∃ k q,mB l ad=(k:Nat)/\PL l ad l.length k q/\q.aE=z:=by
 rcases x7 (l:=l) (ad:=ad) l.length with⟨h1,h2⟩|⟨k,q,h1,h2⟩
 ·intro h;have:gd l ad=none:=PM.2 fun p hp=>by
   obtain⟨j,hj⟩:=List.getElem?_of_mem hp;exact h2 j p (List.getElem?_eq_some_iff.1 hj).1 hj
  rw[this]at h;cases h
 ·intro h;refine⟨k,q,h1,h2,?_⟩;unfold gd mB at h;rw[h1,Int.toNat_natCast,h2.at_]at h;simp at h;exact h
def dA(a b:bR):Bool:=decide (bq a.bB.name b.bB.name<0)||(decide (a.bB.name=b.bB.name)&&(decide (a.bB.type<b.bB.type)||(decide (a.bB.type=b.bB.type)&&decide (bq a.other b.other<0))))
theorem Iu(a:bR):dA a a=false:=by simp[dA,jE]
theorem x8(a b c:bR)(h:dA a b=true)(k:dA b c=true):dA a c=true:=by
 obtain⟨⟨an,at_⟩,ao⟩:=a;obtain⟨⟨bn,bt⟩,bo⟩:=b;obtain⟨⟨cn,ct⟩,co⟩:=c;simp only[dA,Bool.or_eq_true,Bool.and_eq_true,decide_eq_true_eq]at *;rcases h with h|⟨rfl,h⟩
 ·rcases k with k|⟨rfl,k⟩
  ·exact .inl (o7 h k)
  ·exact .inl h
 ·rcases k with k|⟨rfl,k⟩
  ·exact .inl k
  ·refine .inr ⟨rfl,?_⟩;rcases h with h|⟨rfl,h⟩
   ·rcases k with k|⟨rfl,k⟩
    ·exact .inl (by omega)
    ·exact .inl h
   ·rcases k with k|⟨rfl,k⟩
    ·exact .inl k
    ·exact .inr ⟨rfl,o7 h k⟩
theorem AS{a b:Text}(h:a≠b):bq a b<0\/bq b a<0:=by
 have h1:=tg a b;have h2:bq a b≠0:=fun e=>h (oa e);omega
theorem Dv(a b:bR)(aH:a≠b)(h:dA a b=false):dA b a=true:=by
 obtain⟨⟨an,at_⟩,ao⟩:=a;obtain⟨⟨bn,bt⟩,bo⟩:=b;simp only[dA,Bool.or_eq_true,Bool.and_eq_true,decide_eq_true_eq,Bool.or_eq_false_iff,Bool.and_eq_false_iff,decide_eq_false_iff_not]at *;by_cases e1:an=bn
 ·subst e1;refine .inr ⟨rfl,?_⟩;by_cases e2:at_=bt
  ·subst e2;refine .inr ⟨rfl,?_⟩;have Iv:ao≠bo:=fun e=>aH (by rw[e]);rcases AS Iv with h2|h2
   ·exact absurd h2 (by
     rcases h.2 with h3|h3
     ·exact absurd rfl h3
     ·rcases h3.2 with h4|h4
      ·exact absurd rfl h4
      ·exact h4)
   ·exact h2
  ·rcases h.2 with h3|h3
   ·exact absurd rfl h3
   ·exact .inl (by omega)
 ·rcases AS e1 with h2|h2
  ·exact absurd h2 h.1
  ·exact .inl h2
def ec(ad:Text)(l:List Signed):List bR:=l.flatMap fun x=>if x.set.name=ad/\x.set.type=2 then x.set.data.map fun d=>⟨⟨ad,2⟩,d.text⟩else[]
def Iw(a:qj):Text:=match a.ab with
 |s::_=>match s.set.data with
  |d::_=>d.text
  |[]=>[]
 |[]=>[]
def qx(s:Text)(a:qj):List bR:=if a.kind=3 then[⟨⟨s,3⟩,Iw a⟩]else[]
def dL(l:List aR)(s:Text):Nat->Text->List Text × List bR
 |0,ad=>([ad],[])
 |n+1,ad=>match gd l ad with
  |none=>([ad],[])
  |some z =>
   if (bU z ⟨s,1⟩).kind=4 then
    (ad::(dL l s n (bU z ⟨s,1⟩).cut).1,ec ad z.ab++(ec (bU z ⟨s,1⟩).cut (bU z ⟨s,1⟩).ab++(dL l s n (bU z ⟨s,1⟩).cut).2))
   else([ad],ec ad z.ab++qx s (bU z ⟨s,1⟩))
def lQ(l:List aR)(s:Text):List bR:=(dL l s 64 [46]).2
def ic(l:List aR):mA:=fun s=>((dL l s 64 [46]).1,fJ (lt:=dA) [] (lQ l s))
theorem Iy{l:List aR}{s:Text}{x:bR}:x∈(ic l s).2↔x∈lQ l s:=by
 show x∈fJ (lt:=dA) [] (lQ l s)↔_;rw[Dr];simp
theorem Zo{l:List aR}{s:Text}:(ic l s).2.Pairwise fun a b=>dA a b=true:=Ds x8 Dv List.Pairwise.nil
theorem Dw{ad:Text}{l:List Signed}{x:bR}:x∈ec ad l↔x.bB=⟨ad,2⟩/\∃ s∈l,s.set.name=ad/\s.set.type=2/\∃ d∈s.set.data,d.text=x.other:=by
 rw[ec,List.mem_flatMap];constructor
 ·rintro⟨s,hs,h⟩;split at h
  ·rename_i e;obtain⟨d,hd,rfl⟩:=List.mem_map.1 h;exact⟨rfl,s,hs,e.1,e.2,d,hd,rfl⟩
  ·simp at h
 ·rintro⟨h1,s,hs,e1,e2,d,hd,e3⟩;refine⟨s,hs,?_⟩;rw[if_pos ⟨e1,e2⟩];refine List.mem_map.2 ⟨d,hd,?_⟩;obtain⟨bB,other⟩:=x;simp only at h1 e3;rw[h1,e3]
def dep(t:Text):Nat:=(Nm.labels t).length
def Fair(l:List aR):Prop:=∀ (ad:Text) (z:aP) (q:aM),gd l ad=some z->(bU z q).kind=4->Nm.under q.name (bU z q).cut=true/\dep ad<dep (bU z q).cut
theorem PO{s z:Text}(h:Nm.under s z=true):dep z<=dep s:=by
 have:=(s5.1 h).length_le
 simpa [dep]using this
theorem Iz{l:List aR}{s:Text}:∀ {n:Nat} {ad:Text},ad∈(dL l s n ad).1
 |0,ad=>by simp[dL]
 |n+1,ad=>by
  rw[dL];split
  ·simp
  ·split<;>simp
theorem PQ{l:List aR}{s:Text}:∀ {n:Nat} {ad:Text} {x:bR},x∈(dL l s n ad).2->(x.bB.type=2/\x.bB.name∈(dL l s n ad).1)\/x.bB=⟨s,3⟩
 |0,ad,x,h=>by simp[dL]at h
 |n+1,ad,x,h=>by
  rw[dL]at h ⊢;cases e:gd l ad with
  |none=>rw[e]at h;simp at h
  |some Y =>
   rw[e]at h;simp only at h ⊢;split
   ·rename_i h4;rw[if_pos h4]at h;simp only[List.mem_append]at h;rcases h with h|h|h
    ·obtain⟨h1,_⟩:=Dw.1 h;rw[h1];exact .inl ⟨rfl,by simp⟩
    ·obtain⟨h1,_⟩:=Dw.1 h;rw[h1];exact .inl ⟨rfl,List.mem_cons_of_mem _ Iz⟩
    ·rcases PQ h with⟨h1,h2⟩|h1
     ·exact .inl ⟨h1,List.mem_cons_of_mem _ h2⟩
     ·exact .inr h1
   ·rename_i h4;rw[if_neg h4]at h;rcases List.mem_append.1 h with h|h
    ·obtain⟨h1,_⟩:=Dw.1 h;rw[h1];exact .inl ⟨rfl,by simp⟩
    ·unfold qx at h;split at h
     ·simp at h;subst h;exact .inr rfl
     ·simp at h
end Go.Proofs.YtcmnpelmmekdkaaGreatDoor.P
end
section
namespace Go.Proofs.YtcmnpelmmekdkaaGreatDoor.P
open Go Go.aA
set_option maxRecDepth 100000
set_option maxHeartbeats 4000000
theorem Qc{α:Type}{l:List α}(hn:l.Nodup){i j:Nat}{a:α}(hi:l[i]?=some a)(hj:l[j]?=some a):i=j:=by
 obtain⟨p1,e1⟩:=List.getElem?_eq_some_iff.1 hi;obtain⟨p2,e2⟩:=List.getElem?_eq_some_iff.1 hj;have h:=List.pairwise_iff_getElem.1 (List.nodup_iff_pairwise_ne.1 hn);rcases Nat.lt_trichotomy i j with dq|dq|dq
 ·exact absurd (e1.trans e2.symm) (h i j p1 p2 dq)
 ·exact dq
 ·exact absurd (e2.trans e1.symm) (h j i p2 p1 dq)
theorem ZU(p:qo):ea E.T (TK.struct [(0,3),(1,9)]) (qo.en p):=⟨_,rfl,rfl,⟨_,rfl,_,rfl⟩,rfl,⟨_,rfl,_,rfl⟩,trivial⟩
def aR.spot(p:aR):qo:=(p.host,p.aE.ad)
theorem Qd{l:List aR}{k:Nat}{x:aR}(h:l[k]?=some x):(l.take (k+1)).map aR.spot=(l.take k).map aR.spot++[x.spot]:=by
 rw[dW h,List.map_append];rfl
theorem Qe{l:List aR}{i:Nat}{x:aR}(hx:l[i]?=some x)(h:x.spot∈(l.take i).map aR.spot):¬ (l.map aR.spot).Nodup:=fun hn=>by
 obtain⟨y,hy,e⟩:=List.mem_map.1 h;obtain⟨m,hm⟩:=List.getElem?_of_mem hy;rw[List.getElem?_take]at hm;split at hm
 ·rename_i y8;have h1:(l.map aR.spot)[i]?=some x.spot:=by simp[hx]
  have h2:(l.map aR.spot)[m]?=some x.spot:=by simp[hm,e]
  have:=Qc hn h1 h2;omega
 ·cases hm
theorem Qf{l:List aR}{i:Nat}{x:aR}(hx:l[i]?=some x)(h:((l.take i).map aR.spot).Nodup)(hn:x.spot ∉ (l.take i).map aR.spot):((l.take (i+1)).map aR.spot).Nodup:=by
 rw[Qd hx,List.nodup_append];exact⟨h,by simp,fun a ha b hb e=>by simp at hb;subst hb;subst e;exact hn ha⟩
theorem Qg{es:List (DV × DV)}(h:lO qo.en es):∀ p∈es,ea E.T (TK.struct [(0,3),(1,9)]) p.1:=fun p hp=>by
 obtain⟨a,e⟩:=h p hp;rw[e];exact ZU a
theorem Qh{α:Type}[DecidableEq α]{en:α->DV}(hk:∀ a b,eW (en a) (en b)=decide (a=b)){b:α}{v:DV}:∀ {es:List (DV × DV)},lO en es->(cx (en b) v es).length=es.length+(if (findD (en b) es).isSome then 0 else 1)
 |[],_=>by simp[cx,findD]
 |q::es,h=>by
  obtain⟨s,hs⟩:=h q (List.mem_cons_self ..);obtain⟨q1,q2⟩:=q;simp only at hs;subst hs;unfold cx;simp only[hk];by_cases e:b=s
  ·subst e;simp[findD,hk]
  ·have ih:=Qh hk (b:=b) (v:=v) (es:=es) (fun r hr=>h r (List.mem_cons_of_mem _ hr));simp only[e,decide_false,Bool.false_eq_true,if_false,findD,hk,List.length_cons,ih];omega
theorem Qi{α:Type}[DecidableEq α]{en:α->DV}(hk:∀ a b,eW (en a) (en b)=decide (a=b))(l:List α):∀ k,k<=l.length->(gb en (l.take k)).length=(fR [] (l.take k)).length
 |0,_=>rfl
 |k+1,h=>by
  obtain⟨x,hx⟩:=bd (l:=l) (k:=k) (by omega);have ih:=Qi hk l k (by omega);rw[O8 hx,O' hx,Qh hk (tC hk _).1,(Dg hk _ x).2,ih];by_cases hm:x∈l.take k
  ·simp[hm]
  ·simp[hm]
theorem ZV{l:List Host}{i k:Nat}{x y:Host}(hx:l[i]?=some x)(hy:l[k]?=some y)(hk:k<i)(e:y.addr=x.addr):jk l=false:=by
 have:¬ (l.map (·.addr)).Nodup:=fun hn=>by
  have h1:(l.map (·.addr))[i]?=some x.addr:=by simp[hx]
  have h2:(l.map (·.addr))[k]?=some x.addr:=by simp[hy,e]
  have:=Qc hn h1 h2;omega
 simp[jk,this]
theorem ZW{l:List Int}{i:Nat}{x:Int}(h:(l.take i).Nodup)(hx:l[i]?=some x)(hn:∀ m y,m<i->l[m]?=some y->y≠x):(l.take (i+1)).Nodup:=by
 rw[dW hx,List.nodup_append];refine⟨h,by simp,fun a ha b hb e=>?_⟩;simp at hb;subst hb;subst e;obtain⟨m,hm⟩:=List.getElem?_of_mem ha;rw[List.getElem?_take]at hm;split at hm
 ·rename_i y8;exact hn m _ y8 hm rfl
 ·cases hm
theorem ZX(l:List Host)(hn:∀ x∈l,x.name.length<=maxLen):au E 77 [.sl (l.map Host.enc)] (· = .bool (jk l)):=by
 refine eP F77 ?_;refine ar (fun h1=>?_) (fun h1=>?_)
 ·refine gO F77 ?_;have:jk l=false:=by simp[jk];simp at h1;omega
  rw[this]
 ·have hlen:l.length<=64:=by simp at h1;omega
  refine gO F77 ?_;refine aa.loop (κ:=Nat) (rg 2 5++rg 10 53) (fun k=>[(3,.d (.int .i64 k)),(2,.d (.bool false))]) (fun _=>[]) (fun k=>k<=l.length/\(l.take k).all mv=true/\((l.map (·.addr)).take k).Nodup) (fun k=>l.length-k) 0 ⟨Nat.zero_le _,rfl,by simp⟩ ?_ ?_
  ·exact sZ
  rintro i ⟨hi,aW,fG⟩ IH;refine aa.head ag F77 2000 ?_;(conv=>whnf);refine ar (fun h5=>?_) (fun h5=>?_)
  ·have ai:i<l.length:=by simpa using h5
   obtain⟨x,hx⟩:=bd ai;have bw:=hn x (List.mem_of_getElem? hx);refine gO F77 ?_;refine aC (e:=x.enc) (aS hx) rfl ?_;refine gO F77 ?_
   with_reducible refine aj (fF x.name bw) ?_
   refine gO F77 ?_;cases hv:Nm.valid x.name
   ·repeat' (first|with_reducible(first|refine cY ?_|refine cN ?_|refine ar (fun _=>?_) (fun _=>?_))|refine gA F77 ?_|refine gB ?_|refine gC ?_|with_reducible rfl)
    all_goals (rw[HQ hx (by simp[mv,hv])])
   ·have fC:x.name.length<=1000:=by have:=dK hv;omega
    repeat' (first|with_reducible(first|refine aj (GV x.name fC) ?_|refine bj (GV x.name fC) ?_|refine cY ?_|refine cN ?_|refine ar (fun _=>?_) (fun _=>?_))|refine gA F77 ?_|refine gB ?_|refine gC ?_|with_reducible rfl)
    all_goals try (rw[HQ hx (by(simp_all[mv,vK,kp]<;>omega))];done)
    have hb:mv x=true:=by(simp_all[mv,vK,kp]<;>omega)
    refine gO F77 ?_;refine aa.loop (κ:=Nat) ([2,6]++rg 50 13) (fun k=>[(6,.d (.int .i64 k)),(2,.d (.bool false))]) (fun _=>[]) (fun k=>k<=i/\∀ m y,m<k->l[m]?=some y->y.addr≠x.addr) (fun k=>i-k) 0 ⟨Nat.zero_le _,fun m y h=>by omega⟩ ?_ ?_
    ·exact sZ
    rintro k ⟨hk,aH⟩ xy;refine aa.head ag F77 2000 ?_;(conv=>whnf);refine ar (fun h6=>?_) (fun h6=>?_)
    ·have ki:k<i:=by simpa using h6
     obtain⟨y,hy⟩:=bd (l:=l) (k:=k) (by omega);refine gO F77 ?_;refine aa.draw ag bN 8 2000 (by kernel_rfl) ?_;(conv=>whnf);refine aC (e:=y.enc) (aS hy) rfl ?_;refine gD ?_;refine gS ?_;refine gO F77 ?_;refine ar (fun h7=>?_) (fun h7=>?_)
     ·refine gO F77 ?_;rw[ZV hx hy ki (by simpa using h7)]
     ·refine gO F77 ?_;refine aa.back (xy (k+1) ⟨by omega,fun m z hm hz=>?_⟩ (by omega)) ?_
      ·by_cases oq:m=k
       ·subst oq;rw[hy]at hz;cases hz;simpa using h7
       ·exact aH m z (by omega) hz
      ·exact sZ
    ·have IP:i<=k:=by simpa using h6
     refine gO F77 ?_;refine aa.back (IH (i+1) ⟨by omega,jC aW hx hb,ZW (x:=x.addr) fG (by simp[hx]) (fun m z hm hz=>?_)⟩ (by omega)) ?_
     ·simp only[List.getElem?_map,Option.map_eq_some_iff]at hz;obtain⟨y,hy,rfl⟩:=hz;exact aH m y (by omega) hy
     ·exact sZ
  ·have aG:l.length<=i:=by simpa using h5
   rw[List.take_of_length_le aG]at aW;rw[List.take_of_length_le (by simpa using aG)]at fG;refine gO F77 ?_;simp[jk,aW,fG,hlen]
theorem ZY(a:eD)(l:List Int)(hf:a.Fits)(hl:l.length<=1000000):au E 78 [a.enc,.sl (l.map (.int .i64))] (· = .bool (oh a l)):=by
 refine eP F78 ?_;refine aa.loop (κ:=Nat) ([4,5]++rg 7 18) (fun k=>[(5,.d (.int .i64 k)),(4,.d (.bool false))]) (fun _=>[]) (fun k=>k<=l.length/\(l.take k).all kp=true) (fun k=>l.length-k) 0 ⟨Nat.zero_le _,rfl⟩ ?_ ?_
 ·exact sZ
 rintro i ⟨hi,aW⟩ IH;refine aa.head ag F78 2000 ?_;(conv=>whnf);refine ar (fun h5=>?_) (fun h5=>?_)
 ·have ai:i<l.length:=by simpa using h5
  obtain⟨x,hx⟩:=bd ai;refine gO F78 ?_;repeat' (first|with_reducible(first|refine aC (aS hx) rfl ?_|refine cY ?_|refine cN ?_|refine ar (fun _=>?_) (fun _=>?_))|refine gA F78 ?_|refine gB ?_|refine gC ?_|with_reducible rfl)
  all_goals try (have dE:l.all kp=false:=iU hx (by(simp_all[kp]<;>omega));simp[oh,dE];done)
  refine gO F78 ?_;refine aa.back (IH (i+1) ⟨by omega,jC aW hx (by(simp_all[kp]<;>omega))⟩ (by omega)) ?_;exact sZ
 ·have aG:l.length<=i:=by simpa using h5
  rw[List.take_of_length_le aG]at aW;refine gO F78 ?_;repeat' (first|with_reducible(first|refine aj (CK a hf) ?_|refine bj (CK a hf) ?_|refine cY ?_|refine cN ?_|refine ar (fun _=>?_) (fun _=>?_))|refine gA F78 ?_|refine gB ?_|refine gC ?_|with_reducible rfl)
  all_goals try (simp_all[oh];done)
  all_goals
   rename_i e1 e2 e3 e4;have ZZ:a.type=6:=by simpa using e2
   have Z1:a.name=[46]:=by simpa using e3
   by_cases hz:1<=l.length
   ·simp[oh,e1,ZZ,Z1,aW,hz];try (simp at e4;omega)
    try omega
   ·first
     |(simp[oh,hz];done)
     |(exfalso;simp at e4;omega)
def mC(out:List Text)(a:Text):List Text:=if a∈out then out else out.takeWhile (fun x=>decide (bq x a<0))++a::out.dropWhile (fun x=>decide (bq x a<0))
def tG(out:List Text):Prop:=out.Pairwise fun x y=>bq x y<0
def mD(l:List Text):List Text:=l.foldl mC []
theorem Z2{p:Text->Bool}{out:List Text}{k:Nat}(hk:k<=out.length)(lJ:∀ m x,m<k->out[m]?=some x->p x=true)(qi:∀ x,out[k]?=some x->p x=false):out.takeWhile p=out.take k/\out.dropWhile p=out.drop k:=by
 induction out generalizing k with
 |nil=>simp
 |cons y out ih =>
  cases k with
  |zero=>have:=qi y rfl;simp[this]
  |succ k =>
   have h0:=lJ 0 y (by omega) rfl;have:=ih (k:=k) (by simpa using hk) (fun m x hm hx=>lJ (m+1) x (by omega) (by simpa using hx)) (fun x hx=>qi x (by simpa using hx));simp[h0,this]
theorem Qj{out:List Text}(h:tG out){i j:Nat}{x y:Text}(dq:i<j)(hx:out[i]?=some x)(hy:out[j]?=some y):bq x y<0:=by
 obtain⟨p1,e1⟩:=List.getElem?_eq_some_iff.1 hx;obtain⟨p2,e2⟩:=List.getElem?_eq_some_iff.1 hy;have:=List.pairwise_iff_getElem.1 h i j p1 p2 dq
 rwa [e1,e2]at this
theorem Qk{out:List Text}{a:Text}{k:Nat}(h:tG out)(hk:k<=out.length)(lJ:∀ m x,m<k->out[m]?=some x->bq x a<0)(qi:∀ x,out[k]?=some x->¬ bq x a<0)(aH:out[k]? ≠ some a):a ∉ out/\mC out a=out.take k++a::out.drop k:=by
 have dE:a ∉ out:=fun hm=>by
  obtain⟨m,hm⟩:=List.getElem?_of_mem hm;rcases Nat.lt_trichotomy m k with oq|rfl|oq
  ·have:=lJ m a oq hm;rw[jE]at this;omega
  ·exact aH hm
  ·obtain⟨x,hx⟩:=bd (l:=out) (k:=k) (by have:=aX hm;omega);exact qi x hx (Qj h oq hx hm)
 refine⟨dE,?_⟩;obtain⟨h1,h2⟩:=Z2 (p:=fun x=>decide (bq x a<0)) hk (fun m x hm hx=>by simpa using lJ m x hm hx) (fun x hx=>by simpa using qi x hx);rw[mC,if_neg dE,h1,h2]
theorem Z3{out:List Text}(a:Text)(h:tG out):tG (mC out a):=by
 unfold mC;split
 ·exact h
 ·rename_i dE;have hs:=h;unfold tG at h ⊢;rw[<- List.takeWhile_append_dropWhile (p:=fun x=>decide (bq x a<0)) (l:=out)]at h;rw[List.pairwise_append]at h;obtain⟨h1,h2,h3⟩:=h;rw[List.pairwise_append];have lJ:∀ x∈out.takeWhile (fun x=>decide (bq x a<0)),bq x a<0:=fun x hx=>by simpa using Ha _ _ x hx
  have DK:∀ x∈out.dropWhile (fun x=>decide (bq x a<0)),bq a x<0:=fun x hx=>by
   cases hd:out.dropWhile (fun x=>decide (bq x a<0))with
   |nil=>rw[hd]at hx;simp at hx
   |cons y r =>
    rw[hd]at hx h2;have hy:¬ bq y a<0:=by
     have:=List.head?_dropWhile_not (p:=fun x=>decide (bq x a<0)) out;rw[hd]at this
     simpa using this
    have Ql:bq a y<0:=by
     have e:=tg a y;rcases Int.lt_trichotomy (bq a y) 0 with q|q|q
     ·exact q
     ·have:=oa q;subst this;have im:a∈out:=by
       rw[<- List.takeWhile_append_dropWhile (p:=fun x=>decide (bq x a<0)) (l:=out),hd];simp
      exact absurd im dE
     ·omega
    rcases List.mem_cons.1 hx with rfl|hx
    ·exact Ql
    ·exact o7 Ql ((List.pairwise_cons.1 h2).1 x hx)
  refine⟨h1,List.pairwise_cons.2 ⟨DK,h2⟩,fun x hx y hy=>?_⟩;rcases List.mem_cons.1 hy with rfl|hy
  ·exact lJ x hx
  ·exact h3 x hx y hy
theorem Z4{out:List Text}{a x:Text}:x∈mC out a↔x∈out\/x=a:=by
 unfold mC;split
 ·rename_i h;constructor
  ·exact .inl
  ·rintro(h1|rfl)
   ·exact h1
   ·exact h
 ·have e:=List.takeWhile_append_dropWhile (p:=fun x=>decide (bq x a<0)) (l:=out);constructor
  ·intro hx;rw[<- e];simp only[List.mem_append,List.mem_cons]at hx ⊢;rcases hx with h|rfl|h
   ·exact .inl (.inl h)
   ·exact .inr rfl
   ·exact .inl (.inr h)
  ·intro hx;rw[<- e]at hx;simp only[List.mem_append,List.mem_cons]at hx ⊢;rcases hx with(h|h)|rfl
   ·exact .inl h
   ·exact .inr (.inr h)
   ·exact .inr (.inl rfl)
theorem IQ(l:List Text):tG (mD l)/\∀ x,x∈mD l↔x∈l:=by
 have main:∀ (l out:List Text),tG out->tG (l.foldl mC out)/\∀ x,x∈l.foldl mC out↔x∈out\/x∈l:=by
  intro l
  induction l with
  |nil=>intro out h;exact⟨h,by simp⟩
  |cons a l ih =>
   intro out h;have:=ih (mC out a) (Z3 a h);refine⟨this.1,fun x=>?_⟩;rw[List.foldl_cons,this.2,Z4];simp[or_assoc]
 have:=main l [] List.Pairwise.nil;exact⟨this.1,fun x=>by rw[mD,this.2];simp⟩
theorem Qm{A:List Text}{n:Nat}{y a:Text}(hn:n<=A.length):((A.take n++y::A.drop n).map DV.str).set ((n:Int)).toNat (.str a)=(A.take n++a::A.drop n).map DV.str:=by
 rw[Int.toNat_natCast,<- List.map_set]
 congr 1
 rw[List.set_append_right _ _ (by simp;omega)];simp[Nat.min_eq_left hn]
theorem Z5{A:List Text}{n:Nat}{y z:Text}(hz:A[n-1]?=some z)(h0:0<n):((A.take n++y::A.drop n).map DV.str).set ((n:Int)).toNat (.str z)=(A.take (n-1)++z::A.drop (n-1)).map DV.str:=by
 have hl:=aX hz;rw[Qm (by omega)]
 congr 1
 obtain⟨m,rfl⟩:∃ m,n=m+1:=⟨n-1,by omega⟩;simp only[Nat.add_sub_cancel]at hz hl ⊢;rw[dW hz];obtain⟨p,e⟩:=List.getElem?_eq_some_iff.1 hz;rw[List.drop_eq_getElem_cons p,e];simp
theorem Z6(l:List aR)(hl:l.length<=1000000):au E 80 [.sl (l.map aR.enc)] (· = .sl ((fR [] (l.map (·.aE.ad))).map .str)):=by
 refine eP F80 ?_;refine aa.jV 3 (9,1) (by decide) rfl ?_;(conv=>whnf);refine aa.loop (κ:=Nat) (rg 3 41) (fun k=>[(4,.d (.int .i64 k)),(3,.own 0 1)]) (fun k=>[(0,.arr 1 (9,1) ((fR [] ((l.map (·.aE.ad)).take k)).map .str))]) (fun k=>k<=l.length) (fun k=>l.length-k) 0 (Nat.zero_le _) ?_ ?_
 ·(conv=>whnf);repeat (first|exact trivial|(refine sI ?_;conv=>whnf))
  refine And.intro rfl ?_;exact sZ
 intro k hk IH;refine aa.head ag F80 2000 ?_;(conv=>whnf);refine ar (fun h5=>?_) (fun h5=>?_)
 ·have ai:k<l.length:=by simpa using h5
  obtain⟨c,hc⟩:=bd ai;have Z7:(l.map (·.aE.ad))[k]?=some c.aE.ad:=by simp[hc]
  have bw:=O' Z7;have Z8:=HZ (l:=(l.map (·.aE.ad)).take k) (acc:=[]);have lr:c.aE.ad∈fR [] ((l.map (·.aE.ad)).take k)↔c.aE.ad∈(l.map (·.aE.ad)).take k:=by rw[AH];simp
  rw[List.length_take,List.length_map,List.length_nil]at Z8;generalize fR [] ((l.map (·.aE.ad)).take k)=C at *;refine gO F80 ?_;refine aa.loop (κ:=Nat) ([5,6]++rg 13 20) (fun j=>[(6,.d (.int .i64 j)),(5,.d (.bool (decide (c.aE.ad∈C.take j))))]) (fun j=>[]) (fun j=>j<=C.length) (fun j=>C.length-j) 0 (Nat.zero_le _) ?_ ?_
  ·(conv=>whnf);repeat (first|exact trivial|(refine sI ?_;conv=>whnf))
   refine And.intro (by simp) ?_;exact sZ
  intro j hj JH;refine aa.head ag F80 2000 ?_;(conv=>whnf);refine ar (fun h6=>?_) (fun h6=>?_)
  ·have IS:j<C.length:=by simpa using h6
   obtain⟨t,ht⟩:=bd IS;have hb:0<=(j:Int)/\(j:Int)<((C.map DV.str).length:Int):=⟨by omega,by simp;omega⟩;have im:(c.aE.ad∈C.take (j+1))↔(c.aE.ad∈C.take j\/t=c.aE.ad):=by rw[dW ht,List.mem_append];simp[eq_comm]
   refine gO F80 ?_;refine aa.draw ag bN 15 2000 (by kernel_rfl) ?_;(conv=>whnf);by_cases hm:c.aE.ad∈C.take j
   ·refine aI (decide_eq_true hm) ?_;have e1:decide (c.aE.ad∈C.take (j+1))=true:=by simp[im,hm]
    refine gD ?_;refine gS ?_;refine gO F80 ?_;refine aa.back (JH (j+1) (by omega) (by omega)) ?_;rw[e1];exact sZ
   ·refine aO (decide_eq_false hm) ?_;have e1:decide (c.aE.ad∈C.take (j+1))=(t==c.aE.ad):=by rw[Bool.eq_iff_iff];simp[im,hm]
    refine gD ?_;refine bA hb ?_;refine gD ?_;refine aC (e := .str t) (aS ht) rfl ?_;refine gD ?_;refine aC (e:=c.enc) (aS hc) rfl ?_;refine gD ?_;refine gS ?_;refine gO F80 ?_;refine aa.back (JH (j+1) (by omega) (by omega)) ?_;rw[e1];exact sZ
  ·have aG:C.length<=j:=by simpa using h6
   rw[List.take_of_length_le aG];refine gO F80 ?_;by_cases hm:c.aE.ad∈C
   ·refine aO (by simp[hm]) ?_;refine gO F80 ?_;refine aa.back (IH (k+1) (by omega) (by omega)) ?_;rw[bw,if_pos (lr.1 hm)];exact sZ
   ·refine aI (by simp[hm]) ?_;refine gO F80 ?_;refine aC (e:=c.enc) (aS hc) rfl ?_;refine gO F80 ?_;refine bA ⟨by simp;omega,by simp[DV.cells]⟩ ?_;refine gO F80 ?_;refine aa.back (IH (k+1) (by omega) (by omega)) ?_;rw[bw,if_neg (fun e=>hm (lr.2 e))];(conv=>whnf);repeat (first|exact trivial|(refine sI ?_;conv=>whnf))
    refine And.intro (by simp) ?_;exact sZ
 ·have aG:l.length<=k:=by simpa using h5
  rw[List.take_of_length_le (by simpa using aG)];refine gO F80 ?_
  with_reducible rfl
def ku(n:Nat)(p:aR):Bool:=decide (0<=p.host)&&decide (p.host<n)&&eT p.aE
def DL(l:List aR):Nat:=(fR [] (l.map (·.aE.ad))).length
def kW(n:Nat)(l:List aR):Bool:=decide (l.length<=4000)&&l.all (ku n)&&decide ((l.map aR.spot).Nodup)&&decide (DL l<=500)
def fK(w:cP):Bool:=jk w.cI&&kW w.cI.length w.az&&oh w.anchor w.hints
theorem Qn{n:Nat}{l:List aR}:kW n l=true↔l.length<=4000/\(∀ p∈l,ku n p=true)/\(l.map aR.spot).Nodup/\DL l<=500:=by
 simp only[kW,Bool.and_eq_true,decide_eq_true_eq,List.all_eq_true,and_assoc]
theorem Qo{w:cP}:fK w=true↔jk w.cI=true/\kW w.cI.length w.az=true/\oh w.anchor w.hints=true:=by
 simp only[fK,Bool.and_eq_true,and_assoc]
def lS(x:Host):Bool := !(decide ((x.name.length:Int)>100))
def yc(a b c d:Nat):Bool:=decide (a<=20)&&decide (b<=70)&&decide (c<=20)&&decide (d<=20)
structure cP.Fits(w:cP):Prop where
 cI:∀ x∈w.cI,x.name.length<=maxLen
 anchor:w.anchor.Fits
 hints:w.hints.length<=maxLen
 az:∀ p∈w.az,p.aE.Fits
theorem ye{l:List aR}{n:Nat}(h:l.all (ku n)=false):kW n l=false:=by simp[kW,h]
theorem Z'{l:List aR}{k:Nat}{x:aR}(h:l[k]?=some x):(l.take (k+1)).map (·.aE.ad)=(l.take k).map (·.aE.ad)++[x.aE.ad]:=by rw[dW h,List.map_append];rfl
theorem aaa(l:List aR):(gb DV.str (l.map (·.aE.ad))).length=DL l:=by
 have:=Qi rS (l.map (·.aE.ad)) _ (Nat.le_refl _)
 rwa [List.take_length]at this
theorem Qq(cI:List Host)(l:List aR)(a:eD)(hints:List Int)(hz:∀ p∈l,p.aE.Fits):au E 70 [DV.agg [.sl (cI.map Host.enc),.sl (l.map aR.enc),.str a.name,.int .i64 a.type,.int .i64 a.kc,.sl (a.data.map Datum.enc),.sl (hints.map (.int .i64))]] (· = .bool (kW cI.length l)):=by
 refine eP F70 ?_;refine ar (fun h1=>?_) (fun h1=>?_)
 ·refine gO F70 ?_;have:kW cI.length l=false:=by simp[kW];simp at h1;omega
  rw[this]
 have hlen:l.length<=4000:=by simp at h1;omega
 refine gO F70 ?_;refine gO F70 ?_;refine gO F70 ?_;refine aa.loop (κ:=Nat) ([2,6,7]++rg 17 39) (fun k=>[(17,.d (.int .i64 k)),(2,.d (.bool false)),(3,.map 1),(4,.map 2)]) (fun k=>[(1,.map (gb qo.en ((l.take k).map aR.spot))),(2,.map (gb DV.str ((l.take k).map (·.aE.ad))))]) (fun k=>k<=l.length/\(l.take k).all (ku cI.length)=true/\((l.take k).map aR.spot).Nodup) (fun k=>l.length-k) 0 ⟨Nat.zero_le _,rfl,by simp⟩ ?_ ?_
 ·(conv=>whnf);repeat (first|exact trivial|(refine sI ?_;conv=>whnf))
  refine And.intro rfl ?_;(conv=>whnf);repeat (first|exact trivial|(refine sI ?_;conv=>whnf))
  refine And.intro rfl ?_;exact sZ
 rintro i ⟨hi,aW,fG⟩ IH;refine aa.head ag F70 2000 ?_;(conv=>whnf);refine ar (fun h5=>?_) (fun h5=>?_)
 ·have ai:i<l.length:=by simpa using h5
  obtain⟨x,hx⟩:=bd ai;have IU:=hz x (List.mem_of_getElem? hx);have nr:=(tC Pc ((l.take i).map aR.spot)).1;have aab:=(tC rS ((l.take i).map (·.aE.ad))).1;obtain⟨pG,A3⟩:=Dg Pc ((l.take i).map aR.spot) x.spot;refine gO F70 ?_;refine aC (e:=x.enc) (aS hx) rfl ?_;refine gO F70 ?_;refine ar (fun h6=>?_) (fun h6=>?_)
  ·repeat' (first|with_reducible(first|refine cY ?_|refine cN ?_|refine ar (fun _=>?_) (fun _=>?_))|refine gA F70 ?_|refine gB ?_|refine gC ?_|with_reducible rfl)
   rw[ye (iU hx (by simp[ku];simp at h6;omega))]
  refine gO F70 ?_;refine ar (fun h7=>?_) (fun h7=>?_)
  ·repeat' (first|with_reducible(first|refine cY ?_|refine cN ?_|refine ar (fun _=>?_) (fun _=>?_))|refine gA F70 ?_|refine gB ?_|refine gC ?_|with_reducible rfl)
   rw[ye (iU hx (by simp[ku];simp at h7;omega))]
  refine gO F70 ?_;refine mb (.bool false) (.bool false) ⟨_,rfl,rfl,⟨_,rfl,_,rfl⟩,rfl,⟨_,rfl,_,rfl⟩,trivial⟩ (Qg nr) (fun w=>by kernel_rfl) (fun _ _ => .bool _) pG A3 ?_;refine gO F70 ?_;refine ar (fun h8=>?_) (fun h8=>?_)
  ·repeat' (first|with_reducible(first|refine cY ?_|refine cN ?_|refine ar (fun _=>?_) (fun _=>?_))|refine gA F70 ?_|refine gB ?_|refine gC ?_|with_reducible rfl)
   have:=Qe hx (by simpa using h8);simp[kW,this]
  refine gO F70 ?_
  with_reducible refine aj (Hd x.aE IU) ?_
  refine gO F70 ?_;cases A4:eT x.aE
  ·repeat' (first|with_reducible(first|refine cY ?_|refine cN ?_|refine ar (fun _=>?_) (fun _=>?_))|refine gA F70 ?_|refine gB ?_|refine gC ?_|with_reducible rfl)
   rw[ye (iU hx (by simp[ku,A4]))]
  refine aY ?_;refine gO F70 ?_;have aN:ku cI.length x=true:=by simp[ku,A4];simp at h6 h7;omega
  refine bA ⟨⟨_,rfl,rfl,⟨_,rfl,_,rfl⟩,rfl,⟨_,rfl,_,rfl⟩,trivial⟩,Qg nr⟩ ?_;refine gO F70 ?_;refine bA ⟨⟨_,rfl⟩,aab⟩ ?_;refine gO F70 ?_;refine aa.back (IH (i+1) ⟨by omega,jC aW hx aN,Qf hx fG (by simpa using h8)⟩ (by omega)) ?_;rw[Qd hx,AG,Z' hx,AG];(conv=>whnf);repeat (first|exact trivial|(refine sI ?_;conv=>whnf))
  refine And.intro rfl ?_;exact sZ
 ·have aG:l.length<=i:=by simpa using h5
  rw[List.take_of_length_le aG]at aW fG ⊢;refine gO F70 ?_;refine gO F70 ?_;have:=aaa l;rw[this];simp[kW,aW,fG,hlen];omega
theorem IV(w:cP)(hf:w.Fits):au E 31 [w.enc] (· = .bool (fK w)):=by
 obtain⟨cI,az,anchor,hints⟩:=w;obtain⟨f1,f2,f3,f4⟩:=hf;simp only at f1 f2 f3 f4;show au E _ [DV.agg [.sl (cI.map Host.enc),.sl (az.map aR.enc),.str anchor.name,.int .i64 anchor.type,.int .i64 anchor.kc,.sl (anchor.data.map Datum.enc),.sl (hints.map (.int .i64))]] _;refine eP Tryz.func31 ?_;repeat' (first|with_reducible(first|refine aj (O6 cI f1) ?_|refine bj (O6 cI f1) ?_|refine aj (Qq cI az anchor hints f4) ?_|refine bj (Qq cI az anchor hints f4) ?_|refine aj (O7 anchor hints f2 f3) ?_|refine bj (O7 anchor hints f2 f3) ?_|refine cY ?_|refine cN ?_|refine ar (fun _=>?_) (fun _=>?_))|refine gA Tryz.func31 ?_|refine gB ?_|refine gC ?_|with_reducible rfl)
 all_goals simp_all[fK]
theorem Qr(w:cP)(hf:w.Fits)(hh:w.hints.length<=1000000):au E 37 [w.enc] (· = .bool (fK w)):=by
 obtain⟨cI,l,anchor,hints⟩:=w;obtain⟨f1,f2,f3,hz⟩:=hf;simp only at f1 f2 f3 hz hh;show au E _ [DV.agg [.sl (cI.map Host.enc),.sl (l.map aR.enc),.str anchor.name,.int .i64 anchor.type,.int .i64 anchor.kc,.sl (anchor.data.map Datum.enc),.sl (hints.map (.int .i64))]] _;have hw:fK ⟨cI,l,anchor,hints⟩=(jk cI&&kW cI.length l&&oh anchor hints):=rfl;rw[hw];refine eP F37 ?_
 with_reducible refine aj (ZX cI f1) ?_
 refine gO F37 ?_;cases h1:jk cI
 ·repeat' (first|with_reducible(first|refine cY ?_|refine cN ?_|refine ar (fun _=>?_) (fun _=>?_))|refine gA F37 ?_|refine gB ?_|refine gC ?_|with_reducible rfl)
  all_goals simp
 refine aY ?_;refine gO F37 ?_;refine ar (fun h2=>?_) (fun h2=>?_)
 ·repeat' (first|with_reducible(first|refine cY ?_|refine cN ?_|refine ar (fun _=>?_) (fun _=>?_))|refine gA F37 ?_|refine gB ?_|refine gC ?_|with_reducible rfl)
  have:kW cI.length l=false:=by simp[kW];simp at h2;omega
  simp[this]
 have hlen:l.length<=4000:=by simp at h2;omega
 refine gO F37 ?_
 with_reducible refine aj (ZY anchor hints f2 hh) ?_
 refine gO F37 ?_;cases h3:oh anchor hints
 ·repeat' (first|with_reducible(first|refine cY ?_|refine cN ?_|refine ar (fun _=>?_) (fun _=>?_))|refine gA F37 ?_|refine gB ?_|refine gC ?_|with_reducible rfl)
  all_goals simp
 refine aY ?_;refine gO F37 ?_;rw[Bool.true_and,Bool.and_true];refine aa.loop (κ:=Nat) (rg 2 5++rg 25 57) (fun k=>[(3,.d (.int .i64 k)),(2,.d (.bool false))]) (fun _=>[]) (fun k=>k<=l.length/\(l.take k).all (ku cI.length)=true/\((l.take k).map aR.spot).Nodup) (fun k=>l.length-k) 0 ⟨Nat.zero_le _,rfl,by simp⟩ ?_ ?_
 ·exact sZ
 rintro i ⟨hi,aW,fG⟩ IH;refine aa.head ag F37 2000 ?_;(conv=>whnf);refine ar (fun h5=>?_) (fun h5=>?_)
 ·have ai:i<l.length:=by simpa using h5
  obtain⟨x,hx⟩:=bd ai;have IU:=hz x (List.mem_of_getElem? hx);refine gO F37 ?_;refine aC (e:=x.enc) (aS hx) rfl ?_;refine gO F37 ?_
  with_reducible refine aj (Nr x.aE IU) ?_
  refine gO F37 ?_;cases A4:eT x.aE
  ·repeat' (first|with_reducible(first|refine cY ?_|refine cN ?_|refine ar (fun _=>?_) (fun _=>?_))|refine gA F37 ?_|refine gB ?_|refine gC ?_|with_reducible rfl)
   rw[ye (iU hx (by simp[ku,A4]))]
  refine aY ?_;refine gO F37 ?_;refine ar (fun h6=>?_) (fun h6=>?_)
  ·repeat' (first|with_reducible(first|refine cY ?_|refine cN ?_|refine ar (fun _=>?_) (fun _=>?_))|refine gA F37 ?_|refine gB ?_|refine gC ?_|with_reducible rfl)
   rw[ye (iU hx (by simp[ku];simp at h6;omega))]
  refine gO F37 ?_;refine ar (fun h7=>?_) (fun h7=>?_)
  ·repeat' (first|with_reducible(first|refine cY ?_|refine cN ?_|refine ar (fun _=>?_) (fun _=>?_))|refine gA F37 ?_|refine gB ?_|refine gC ?_|with_reducible rfl)
   rw[ye (iU hx (by simp[ku];simp at h7;omega))]
  have aN:ku cI.length x=true:=by simp[ku,A4];simp at h6 h7;omega
  refine gO F37 ?_;refine aa.loop (κ:=Nat) ([2,6]++rg 55 27) (fun k=>[(6,.d (.int .i64 k)),(2,.d (.bool false))]) (fun _=>[]) (fun k=>k<=i/\∀ m y,m<k->l[m]?=some y->y.spot≠x.spot) (fun k=>i-k) 0 ⟨Nat.zero_le _,fun m y h=>by omega⟩ ?_ ?_
  ·exact sZ
  rintro k ⟨hk,aH⟩ xy;refine aa.head ag F37 2000 ?_;(conv=>whnf);refine ar (fun h9=>?_) (fun h9=>?_)
  ·have ki:k<i:=by simpa using h9
   obtain⟨y,hy⟩:=bd (l:=l) (k:=k) (by omega);refine gO F37 ?_;refine aa.draw ag bN 22 2000 (by kernel_rfl) ?_;(conv=>whnf);refine aC (e:=y.enc) (aS hy) rfl ?_;refine gD ?_;refine ar (fun IW=>?_) (fun IW=>?_)
   ·have e1:y.host=x.host:=by simpa using IW
    refine gD ?_;refine aC (e:=y.enc) (aS hy) rfl ?_;refine gD ?_;refine gS ?_;refine gO F37 ?_;refine ar (fun IX=>?_) (fun IX=>?_)
    ·refine gO F37 ?_;have e2:y.aE.ad=x.aE.ad:=by simpa using IX
     have hm:x.spot∈(l.take i).map aR.spot:=List.mem_map.2 ⟨y,List.mem_of_getElem? (i:=k) (by rw[List.getElem?_take,if_pos ki];exact hy),by simp[aR.spot,e1,e2]⟩;have:=Qe hx hm;simp[kW,this]
    ·have e2:y.aE.ad≠x.aE.ad:=by simpa using IX
     refine gO F37 ?_;refine aa.back (xy (k+1) ⟨by omega,fun m z hm ix=>?_⟩ (by omega)) ?_
     ·by_cases oq:m=k
      ·subst oq;rw[hy]at ix;cases ix;exact fun e=>e2 (congrArg Prod.snd e)
      ·exact aH m z (by omega) ix
     ·exact sZ
   ·have e1:y.host≠x.host:=by simpa using IW
    refine gD ?_;refine gS ?_;refine gO F37 ?_;refine aY ?_;refine gO F37 ?_;refine aa.back (xy (k+1) ⟨by omega,fun m z hm ix=>?_⟩ (by omega)) ?_
    ·by_cases oq:m=k
     ·subst oq;rw[hy]at ix;cases ix;exact fun e=>e1 (congrArg Prod.fst e)
     ·exact aH m z (by omega) ix
    ·exact sZ
  ·have IP:i<=k:=by simpa using h9
   refine gO F37 ?_;refine aa.back (IH (i+1) ⟨by omega,jC aW hx aN,Qf hx fG (fun hm=>?_)⟩ (by omega)) ?_
   ·obtain⟨y,hy,e⟩:=List.mem_map.1 hm;obtain⟨m,hm⟩:=List.getElem?_of_mem hy;rw[List.getElem?_take]at hm;split at hm
    ·exact aH m y (by omega) hm e
    ·cases hm
   ·exact sZ
 ·have aG:l.length<=i:=by simpa using h5
  rw[List.take_of_length_le aG]at aW fG;refine gO F37 ?_
  with_reducible refine aj (Z6 l (by omega)) ?_
  refine gO F37 ?_;simp[kW,aW,fG,hlen,DL];rw[Bool.eq_iff_iff];simp;exact⟨fun h=>decide_eq_true (by omega),fun h=>by have:=of_decide_eq_true h;omega⟩
end Go.Proofs.YtcmnpelmmekdkaaGreatDoor.P
end
section
namespace Go.aA
open Go Go.RowKit
section
variable {E:Env} {ops:Array Oper} {F:List Nat} {P:List af->Prop}
def dv(E:Env)(ops:Array Oper)(F:List Nat)(P:List af->Prop)(K:List AV->List af->Prop):Nat->List Oper->List AV->List af->Prop
 |_,[],s,h=>K s h
 |j,o::l,s,h=>match bV j F with
  |true=>∃ v,(∀ h',P h'->dz E ops o s h' v)/\dv E ops F P K (j+1) l (bL s o.dst v) h
  |false=>∃ v h',dm E ops o s h v h'/\P h'/\dv E ops F P K (j+1) l (bL s o.dst v) h'
structure PP(E:Env)(ops:Array Oper)(F:List Nat)(P:List af->Prop)(i0:Nat)(s:List AV)(pl:List (Oper × AV))(hp:Nat->List af):Prop where
 mf:∀ j o v,bV (i0+j) F=true->pl[j]?=some (o,v)->(∀ h',P h'->dz E ops o (cur pl (fun k=>decide (k<j)) 0 s) h' v)/\hp (j+1)=hp j
 tr:∀ j o v,bV (i0+j) F=false->pl[j]?=some (o,v)->dm E ops o (cur pl (fun k=>decide (k<j)) 0 s) (hp j) v (hp (j+1))
 hid:∀ j,j<=pl.length->P (hp j)
theorem dv.lay{K:List AV->List af->Prop}:∀ {l:List Oper} {i0:Nat} {s:List AV} {h:List af},P h->dv E ops F P K i0 l s h ->
  ∃ (pl:List (Oper × AV)) (hp:Nat->List af),pl.map (·.1)=l/\hp 0=h/\K (cur pl (fun k=>decide (k<pl.length)) 0 s) (hp pl.length)/\PP E ops F P i0 s pl hp
 |[],i0,s,h,hX,H=>⟨[],fun _=>h,rfl,rfl,H,⟨fun j o v _ hj=>by simp at hj,fun j o v _ hj=>by simp at hj,fun j _=>hX⟩⟩
 |o::l,i0,s,h,hX,H=>by
  simp only[dv]at H;have shift:∀ (pl:List (Oper × AV)) (n:Nat) (s:List AV),cur pl (fun k=>decide (k<n+1)) (0+1) s=cur pl (fun k=>decide (k<n)) 0 s:=fun pl n s=>by
   rw[xe 1]
   congr 1
   funext k;simp
  have build:∀ (v:AV) (h':List af),P h'->dv E ops F P K (i0+1) l (bL s o.dst v) h'->(bV i0 F=true->(∀ h',P h'->dz E ops o s h' v)/\h'=h)->(bV i0 F=false->dm E ops o s h v h') ->
    ∃ (pl:List (Oper × AV)) (hp:Nat->List af),pl.map (·.1)=o::l/\hp 0=h/\K (cur pl (fun k=>decide (k<pl.length)) 0 s) (hp pl.length)/\PP E ops F P i0 s pl hp:=by
   intro v h' Aq H' f1 f2;obtain⟨pl,hp,k1,k2,k3,k4⟩:=dv.lay Aq H';refine⟨(o,v)::pl,fun n=>match n with|0=>h|n+1=>hp n,by simp[k1],rfl,?_,⟨fun j o' v' hm hj=>?_,fun j o' v' hm hj=>?_,fun j hj=>?_⟩⟩
   ·rw[cur];simp only[List.length_cons,Nat.zero_lt_succ,decide_true,if_true];rw[shift];exact k3
   ·cases j with
    |zero =>
     simp at hj;obtain⟨rfl,rfl⟩:=hj;rw[jY _ _ _ _ (fun k _=>decide_eq_false (by omega))];obtain⟨g1,g2⟩:=f1 hm;exact⟨g1,k2.trans g2⟩
    |succ j =>
     have:=k4.mf j o' v' (by rwa [show i0+1+j=i0+(j+1) by omega]) (by simpa using hj);rw[cur];simp only[Nat.zero_lt_succ,decide_true,if_true];rw[shift];exact this
   ·cases j with
    |zero =>
     simp at hj;obtain⟨rfl,rfl⟩:=hj;rw[jY _ _ _ _ (fun k _=>decide_eq_false (by omega))];simp only[k2];exact f2 hm
    |succ j =>
     have:=k4.tr j o' v' (by rwa [show i0+1+j=i0+(j+1) by omega]) (by simpa using hj);rw[cur];simp only[Nat.zero_lt_succ,decide_true,if_true];rw[shift];exact this
   ·cases j with
    |zero=>exact hX
    |succ j=>exact k4.hid j (by simpa using hj)
  split at H
  ·rename_i q;obtain⟨v,h1,h2⟩:=H;exact build v h hX h2 (fun _=>⟨h1,rfl⟩) (fun e=>by rw[q]at e;cases e)
  ·rename_i q;obtain⟨v,h',h1,h2,h3⟩:=H;exact build v h' h2 h3 (fun e=>by rw[q]at e;cases e) (fun _=>h1)
theorem aai{J0:Nat}(hc:xM ops F J0){s0:List AV}{pl:List (Oper × AV)}{hp:Nat->List af}(jq:pl.map (·.1)=ops.toList)(hx  : PP E ops F P 0 s0 pl hp)
  {Q:Exit->Act->World->Prop} {Kf:List AV->List af->Prop} {c0:Cx} (fM:Kf (cur pl (fun k=>decide (k<pl.length)) 0 s0) (hp ops.size))
  (hQ:∀ (a:Act) (c:Cx) (s:List AV) (h:List af),Kf s h->aD E.G c->c.heap=h->a.defers=[]->VS c s a.tmps->Step c0 c->Q .normal a c.w) :
  ∀ (f:Nat) (listed:Array Bool) (a:Act) (c:Cx) (J:Nat),J0<=J->J<=ops.size->aD E.G c->c.heap=hp J->a.defers=[]->VS c (cur pl (aT listed) 0 s0) a.tmps->Step c0 c->DC ops listed ->
   (∀ i,i<ops.size->i<J->bV i F=false->aT listed i=true)->(∀ i,J<=i->bV i F=false->aT listed i=false)->(∀ i,ops.size<=i->aT listed i=false)->eh (aT listed) ops.size<=f->wpAny E.P .any ops Q f listed a c.w:=by
 obtain⟨hlen,dF⟩:=rn jq;have same:∀ d J,J+d<=ops.size->(∀ i,J<=i->i<J+d->bV i F=true)->hp (J+d)=hp J:=by
  intro d
  induction d with
  |zero=>intro J _ _;rfl
  |succ d ih =>
   intro J hJ hm;have h1:=ih J (by omega) (fun i h1 h2=>hm i h1 (by omega));have ai:J+d<pl.length:=by omega
   have h2:=(hx.mf (J+d) (pl[J+d]).1 (pl[J+d]).2 (by rw[Nat.zero_add];exact hm (J+d) (by omega) (by omega)) (by simp[ai])).2;rw[show J+(d+1)=J+d+1 by omega,h2,h1]
 have pd:∀ i,bV i F=true\/bV i F=false:=fun i=>by cases bV i F<;>simp
 have done:∀ (listed:Array Bool) (a:Act) (c:Cx) (J:Nat),J<=ops.size->aD E.G c->c.heap=hp J->a.defers=[]->VS c (cur pl (aT listed) 0 s0) a.tmps->Step c0 c->(∀ i,J<=i->bV i F=false->aT listed i=false)->(∀ i,ops.size<=i->aT listed i=false)->(∀ i,i<ops.size->aT listed i=true)->Q .normal a c.w:=by
  intro listed a c J hJ h1 h2 h3 h4 h5 hn ho aW
  have hs:hp (J+(ops.size-J))=hp J:=same (ops.size-J) J (by omega) (fun i g1 g2=>by
   rcases pd i with h|h
   ·exact h
   ·have:=hn i g1 h;rw[aW i (by omega)]at this;cases this)
  rw[show J+(ops.size-J)=ops.size by omega]at hs;have e:cur pl (aT listed) 0 s0=cur pl (fun k=>decide (k<pl.length)) 0 s0:=by
   congr 1
   funext i;rcases Nat.lt_or_ge i ops.size with h|h
   ·rw[aW i h];simp[hlen,h]
   ·rw[ho i h];simp[hlen];omega
  rw[e]at h4;exact hQ a c _ _ fM h1 (h2.trans hs.symm) h3 h4 h5
 intro f
 induction f with
 |zero =>
  intro listed a c J tu hJ h1 h2 h3 h4 h5 hd gW fw ho iR;have aW:∀ i,i<ops.size->aT listed i=true:=fun i hi=>zH iR hi;refine⟨?_,done listed a c J hJ h1 h2 h3 h4 h5 fw ho aW⟩;apply List.eq_nil_iff_forall_not_mem.2;intro i hi;obtain⟨k1,k2⟩:=mX hd hi;rw[aW i k2]at k1;cases k1
 |succ f ih =>
  intro listed a c J tu hJ h1 h2 h3 h4 h5 hd gW fw ho iR;refine⟨fun hr=>?_,fun i hi=>?_⟩
  ·refine done listed a c J hJ h1 h2 h3 h4 h5 fw ho (fun i hi=>?_);cases hl:aT listed i with
   |true=>rfl
   |false =>
    obtain⟨k,-,hk⟩:=uZ hc.pO hd hi hl;rw[hr]at hk;cases hk
  obtain⟨dC,dN⟩:=mX hd hi;obtain⟨⟨o,v⟩,dj⟩:∃ p,pl[i]?=some p:=⟨pl[i]'(by omega),by rw[List.getElem?_eq_getElem]⟩;have dZ:=dF i o v dj;obtain⟨lG,kJ⟩:=xd hc.pair dF hd hi dj h4;have bS:i<listed.size:=by rw[hd.1];exact dN
  have cQ:=fun q=>sO (i:=q) bS;have mg:eh (aT (listed.setIfInBounds i true)) ops.size<=f:=by
   have:=(va (L:=aT listed) (L':=aT (listed.setIfInBounds i true)) (j:=i) (fun q hq=>by rw[cQ];simp[hq]) dC (by rw[cQ];simp) ops.size).1 dN;omega
  have mZ:∀ u:Value,(a.put o.dst u).defers=[]:=fun u=>by cases iB:o.dst<;>simp[Act.put,h3]
  have cU:∀ q,ops.size<=q->aT (listed.setIfInBounds i true) q=false:=fun q hq=>by rw[cQ,ho q hq];simp;omega
  rcases pd i with hm|hm
  ·have rl:=(hx.mf i o v (by rw[Nat.zero_add];exact hm) dj).1 (hp J) (hx.hid J (by omega));refine rl c a h1 h2 h3 kJ i dZ _ _ (fun c' u k1 k2 k3 k4=>?_);refine ih _ _ c' J tu hJ k1 k2 (mZ u) (lG c' u (fun _ _=>k3.vr) k4) (h5.trans k3) (hd.set hi) (fun q hq oS eF=>by rw[cQ,gW q hq oS eF];simp) (fun q hq eF=>?_) cU mg;rw[cQ,fw q hq eF];have:q≠i:=fun e=>by subst e;rw[hm]at eF;cases eF
   simp[this]
  ·have aG:J<=i:=by
    rcases Nat.lt_or_ge i J with h|h
    ·have:=gW i dN h hm;rw[dC]at this;cases this
    ·exact h
   have tv:∀ q,J<=q->q<i->bV q F=true:=fun q g1 g2=>by
    rcases pd q with h|h
    ·exact h
    ·have ai:q<ops.size:=by omega
     have h6:=hd.ready hi (hc.spine q i ops[q] o (by omega) g2 (by simp[ai]) dZ h hm);rw[fw q g1 h]at h6;cases h6
   have hs:hp (J+(i-J))=hp J:=same (i-J) J (by omega) (fun q g1 g2=>tv q g1 (by omega));rw[show J+(i-J)=i by omega]at hs;refine(hx.tr i o v (by rw[Nat.zero_add];exact hm) dj) c a h1 (h2.trans hs.symm) h3 kJ i dZ _ _ (fun c' u k1 k2 k3 k4=>?_);refine ih _ _ c' (i+1) (by omega) (by omega) k1 k2 (mZ u) (lG c' u (fun _ _=>k3.vr) k4) (h5.trans k3) (hd.set hi) (fun q hq oS eF=>?_) (fun q hq eF=>by rw[cQ,fw q (by omega) eF];simp;omega) cU mg;by_cases mh:q=i
   ·subst mh;rw[cQ];simp
   ·rcases Nat.lt_or_ge q J with h|h
    ·rw[cQ,gW q hq h eF];simp
    ·have:=tv q h (by omega);rw[eF]at this;cases this
end
section
variable {E:Env} {ae:FuncId} {R:bZ} {ops:Array Oper} {k:List aK} {F:List Nat} {P:List af->Prop} {lits:List Nat} {s:List AV} {h:List af}
theorem IZ:∀ {l:List Oper} {j:Nat} {s:List AV} {h:List af},dv E ops F P (fun s2 h2=>aa E ae R [] k s2 h2) j l s h->dv E ops F P (fun s2 h2=>AW E R.fx.f0 ⟨⟨ae,R.fx.cG,R.fx.aL⟩,k,s2⟩ R.fx.cls h2 R) j l s h
 |[],_,_,_,H=>aa.to H
 |o::l,j,s,h,H=>by
  unfold dv at H ⊢;split at H
  ·obtain⟨v,h1,h2⟩:=H;exact⟨v,h1,IZ h2⟩
  ·obtain⟨v,h',h1,h2,h3⟩:=H;exact⟨v,h',h1,h2,IZ h3⟩
theorem aa.QF(hE:E.OK)(hm:E.P.follows .mixedOrders=true)(F:List Nat)(P:List af->Prop){id:Nat}(ka:C' ops F=true)(h0:P h)
  (H:dv E ops F P (fun s2 h2=>aa E ae R [] k s2 h2) 0 ops.toList s h) (dJ:R.fx.cG=none:=by rfl) (dH:R.fx.aL=[]:=by rfl):aa E ae R lits (.code (.region id ops true)::k) s h:=by
 obtain⟨pl,hp,p1,p2,p3,p4⟩:=dv.lay (E:=E) (ops:=ops) (F:=F) h0 (IZ H);obtain⟨hlen,dF⟩:=rn p1;refine .of (AW.zJ hm dJ dH fun c t Q hQ h1 h2 h4=>?_);rw[hlen]at p3;refine aai (Hh ka) p1 p4 (Kf:=fun s2 h2=>AW E R.fx.f0 ⟨⟨ae,R.fx.cG,R.fx.aL⟩,k,s2⟩ R.fx.cls h2 R) (by rw[hlen];exact p3) hQ ops.size _ ⟨t,[]⟩ c 0 (Nat.le_refl _) (Nat.zero_le _) h1 (h2.trans p2.symm) rfl ?_ (Step.refl c h1.bE) ⟨by simp,fun j o e _ hl=>by rw[kL]at hl;cases hl⟩ (fun i _ hi=>by omega) (fun i _ _=>kL _ i) (fun i _=>kL _ i) (Cn _ _);rw[jY _ 0 s _ (fun i _=>kL _ _)];exact h4
theorem aQ.run(hE:E.OK){o:Op}{v:AV}{h':List af}(H:fo E.T E.G o s h (oI E o s h (gy E o s h False fun v2 h2=>v2=v/\h2=h') fun v2 h2=>v2=v/\h2=h') fun v2 h2=>v2=v/\h2=h'):aQ E o s h v h':=by
 rcases ud hE H with H|⟨v2,h2,⟨rfl,rfl⟩,ho⟩
 ·rcases yZ hE H with H|⟨v2,h2,⟨rfl,rfl⟩,ho⟩
  ·rcases uE hE H with H|⟨v2,h2,⟨rfl,rfl⟩,ho⟩
   ·exact H.elim
   ·exact ho
  ·exact ho
 ·exact ho
theorem dv.float{K:List AV->List af->Prop}{j:Nat}{o:Oper}{l:List Oper}(v:AV)(hF:bV j F=true)(hg:o.guard=none)(hf:∀ h',P h'->aQ E o.op (bY (ca ops o) 0 s) h' v h')(H:dv E ops F P K (j+1) l (bL s o.dst v) h):dv E ops F P K j (o::l) s h:=by
 unfold dv;rw[hF];exact⟨v,fun h' hp=>dz.of (eC hg) (hf h' hp),H⟩
theorem dv.op{K:List AV->List af->Prop}{j:Nat}{o:Oper}{l:List Oper}(v:AV)(h':List af)(hF:bV j F=false)(hg:o.guard=none)(hf:aQ E o.op (bY (ca ops o) 0 s) h v h')(hP:P h')(H:dv E ops F P K (j+1) l (bL s o.dst v) h'):dv E ops F P K j (o::l) s h:=by
 unfold dv;rw[hF];exact⟨v,h',dm.of (eC hg) hf,hP,H⟩
theorem dv.fin{K:List AV->List af->Prop}{j:Nat}(H:K s h):dv E ops F P K j [] s h:=H
end
section
variable {E:Env} {s:List AV} {h:List af}
theorem aaj {P : Program} {T : List bD} (hT : ∀ (t : Nat) (i : bD), T[t]? = some i -> eI P t = some i) {fl : List Field} {l m : List DV} {p : Bool} (H : lp T 0 (fl.map fun f => (f.offset, f.type)) l m False (· = p)) (hn : ∀ f ∈ fl, f.name ≠ "_")
  (bad:Nat->Prop) (w w':World) (xs ys:List Value) (d:Nat) (hx:∀ (j:Nat) (x:DV),l[j]?=some x->∃ u,xs[j]?=some u/\VD bad w x u) (hy:∀ (j:Nat) (x:DV),m[j]?=some x->∃ u,ys[j]?=some u/\VD bad w x u):(Op.eqFields (d+1) xs.toArray ys.toArray fl).run P w'=.ok p w':=by
 rcases EZ hT H hn with h|⟨q,rfl,hq⟩
 ·exact h.elim
 ·exact hq bad w w' xs ys d (by simpa using hx) (by simpa using hy)
theorem aak(hE:E.OK){op:BinOp}{t t1 t2:Nat}{t':TypeId}{x y:Operand}{i i1 i2:bD}(hi:E.T[t]?=some i)(jb:E.T[t1]?=some i1)(lH:E.T[t2]?=some i2)(hQ:px E.P t=true)(I0:px E.P t1=true){A8:List (Nat × Nat)}(hk:i.k=.struct [(0,t1),(i1.size,t2)])(dU:i1.k=.struct A8)
  {l1 m1:List DV} {l2 m2:DV} (gh:l1.length=i1.size) (pS:m1.length=i1.size) (hx:bh E.G s x (.d (.agg (l1++[l2])))) (hy:bh E.G s y (.d (.agg (m1++[m2])))) {p q:Bool} (H1:lp E.T 0 A8 l1 m1 False (· = p)) (H2:pF i2.k l2 m2 False (· = q)) (bX:op=.eql) :
  aQ E (.binOp op t x y t') s h (.d (.bool (p&&q))) h:=by
 obtain⟨ti,d,g1,g2,g3,-⟩:=cO (hE.types t i hi);obtain⟨fl,rfl,gq⟩:=oy (hk.symm.trans g3);obtain⟨Kb,d1,k1,k2,k3,-⟩:=cO (hE.types t1 i1 jb);obtain⟨fl1,rfl,rfl⟩:=oy (dU.symm.trans k3);have hq:=hQ;simp only[px,g2,Bool.and_eq_true,Bool.not_eq_true',List.all_eq_true,bne_iff_ne,ne_eq]at hq;obtain⟨⟨q1,q2⟩,q3⟩:=hq;have C9:=I0;simp only[px,k2,Bool.and_eq_true,Bool.not_eq_true',List.all_eq_true,bne_iff_ne,ne_eq]at C9;obtain⟨⟨p1,p2⟩,p3⟩:=C9;have gU:E.P.fieldsOf t=fl:=by simp[Program.fieldsOf,g2]
 have QG:E.P.fieldsOf t1=fl1:=by simp[Program.fieldsOf,k2]
 rcases Kn (hE.types t2 i2 lH) H2 with H|⟨q',rfl,fp,hp2⟩
 ·exact H.elim
 obtain⟨f1,f2,sB⟩:∃ f1 f2,fl.toList=[f1,f2]:=by
  have hlen:=congrArg List.length gq;rw[List.length_map]at hlen;generalize fl.toList=L at hlen
  match L,hlen with
  |[a,b],_=>exact⟨a,b,rfl⟩
 rw[sB]at gq;simp only[List.map_cons,List.map_nil,List.cons.injEq,Prod.mk.injEq,and_true]at gq;obtain⟨⟨o1,o2⟩,o3,o4⟩:=gq;have val:∀ (c:Cx) (ac:Act),aD E.G c->VS c s ac.tmps->∃ xs ys:List Value,ac.eval x=.agg xs.toArray/\ac.eval y=.agg ys.toArray/\(Op.equalIn 10000 t (.agg xs.toArray) (.agg ys.toArray)).run E.P c.w=.ok (p&&q') c.w:=by
  intro c ac h3 h4;have eK:=hx c ac h3 h4;have gv:=hy c ac h3 h4;generalize ac.eval x=u at eK;generalize ac.eval y=v at gv;cases eK with
  |d _ _ eK=>cases eK with
   |agg _ xs x1 x2=>cases gv with
    |d _ _ gv=>cases gv with
     |agg _ ys y1 y2 =>
      refine⟨xs.toList,ys.toList,by simp,by simp,?_⟩;have ax:∀ (j:Nat) (z:DV),(l1++[l2])[j]?=some z->∃ u,xs.toList[j]?=some u/\VD c.bad c.w z u:=fun j z hz=>by
       have hj:=aX hz;rw[x1]at hj;exact⟨xs[j],by simp[hj],x2 j z _ hz (by simp[hj])⟩
      have ay:∀ (j:Nat) (z:DV),(m1++[m2])[j]?=some z->∃ u,ys.toList[j]?=some u/\VD c.bad c.w z u:=fun j z hz=>by
       have hj:=aX hz;rw[y1]at hj;exact⟨ys[j],by simp[hj],y2 j z _ hz (by simp[hj])⟩
      obtain⟨u2,u2a,u2b⟩:=ax i1.size l2 (by rw[<- gh];simp);obtain⟨v2,v2a,v2b⟩:=ay i1.size m2 (by rw[<- pS];simp);have QH:i1.k.agg=true:=by rw[dU];rfl
      have aar : f1.name ≠ "_" := q3 f1 (by rw [sB]; simp);have Iv : f2.name ≠ "_" := q3 f2 (by rw [sB]; simp)
      have e1:=aaj hE.types H1 p3 c.bad c.w c.w ((xs.toList.drop 0).take i1.size) ((ys.toList.drop 0).take i1.size) 9997 (fun j z hz=>by
       have hj:=aX hz;obtain⟨u,ua,ub⟩:=ax j z (by rw[List.getElem?_append_left hj];exact hz);exact⟨u,by rw[List.getElem?_take,if_pos (by omega),List.drop_zero];exact ua,ub⟩) (fun j z hz=>by
       have hj:=aX hz;obtain⟨u,ua,ub⟩:=ay j z (by rw[List.getElem?_append_left hj];exact hz)
       exact⟨u,by rw[List.getElem?_take,if_pos (by omega),List.drop_zero];exact ua,ub⟩)
      have e2:(Op.equalIn 9999 t1 (.agg ((xs.toList.drop 0).take i1.size).toArray) (.agg ((ys.toList.drop 0).take i1.size).toArray)).run E.P c.w=.ok p c.w:=by
       rw[run_equalIn_struct c.w 9998 t1 _ _ (by rw[QG];exact k2) p1,QG];exact e1
      rw[run_equalIn_struct c.w 9999 t _ _ (by rw[gU];exact g2) q1,gU,sB];simp only[Op.eqFields,ne_eq,aar,Iv,not_false_eq_true,if_true,Sem.run_bind];rw[<- o1,<- o2,<- o3,<- o4,Ev (hE.types t1 i1 jb) c.w xs.toList 0 QH,Result.andThen_ok,Ev (hE.types t1 i1 jb) c.w ys.toList 0 QH,Result.andThen_ok,e2,Result.andThen_ok];cases p with
      |false=>simp
      |true =>
       simp only[Bool.not_true,Bool.false_eq_true,if_false,Bool.true_and,Sem.run_bind];rw[wq (hE.types t2 i2 lH) c.w xs.toList i1.size u2 u2a fp,Result.andThen_ok,wq (hE.types t2 i2 lH) c.w ys.toList i1.size v2 v2a fp,Result.andThen_ok,hp2 c.bad c.w c.w u2 v2 9998 u2b v2b,Result.andThen_ok];cases q'<;>simp
 have guard:∀ (op:BinOp) (xs ys:Array Value) (w:World),(eqGuard op t x y (.agg xs) (.agg ys)).run E.P w=.ok () w:=fun op xs ys w=>run_eqGuard_agg w op t x y xs ys q2;subst bX;refine .quiet fun o c ac h1 _ h3 h4=>⟨.bool (p&&q'),?_,.d _ _ (.bool _)⟩;obtain⟨xs,ys,e1,e2,e3⟩:=val c ac h3 h4;simp only[execOp,h1,e1,e2,Sem.run_bind,guard,Result.andThen_ok,run_eql_struct,e3,Sem.run_pure]
variable {ae:FuncId} {R:bZ} {ops:Array Oper} {o:Oper} {l:List Oper} {k:List aK} {lits:List Nat}
theorem cJ.op{v:AV}{h':List af}(hg:o.guard=none)(ho:aQ E o.op (bY (ca ops o) 0 s) h v h')(hn:∀ t,o.op ≠ .alloc t)(H:bK s o.dst v fun s'=>cJ E ae R ops k lits l s' h'):cJ E ae R ops k lits (o::l) s h:=by
 rw[df]at H;have H:=H.to;unfold cJ;exact⟨v,h',dm.of (eC hg) ho,fun t e=>absurd e (hn t),H⟩
theorem cJ.aas(hE:E.OK){t t1 t2 n:Nat}{t':TypeId}{x y:Operand}{i i1 i2:bD}{A8:List (Nat × Nat)}{l1 m1:List DV}{l2 m2:DV}{p q:Bool}(hg:o.guard=none)(bX:o.op=.binOp .eql t x y t')(hi:E.T[t]?=some i)(hk:i.k=.struct [(0,t1),(n,t2)])(jb:E.T[t1]?=some i1)(hn:i1.size=n)(lH:E.T[t2]?=some i2)(dU:i1.k=.struct A8)(hQ:px E.P t=true)(I0:px E.P t1=true)
  (hx:bh E.G (bY (ca ops o) 0 s) x (.d (.agg (l1++[l2])))) (hy:bh E.G (bY (ca ops o) 0 s) y (.d (.agg (m1++[m2])))) (gh:l1.length=n) (pS:m1.length=n) (H1:lp E.T 0 A8 l1 m1 False (· = p)) (H2:pF i2.k l2 m2 False (· = q)) (H:bK s o.dst (.d (.bool (p&&q))) fun s'=>cJ E ae R ops k lits l s' h):cJ E ae R ops k lits (o::l) s h :=
 by subst hn;exact cJ.op hg (bX ▸ aak hE hi jb lH hQ I0 hk dU gh pS hx hy H1 H2 rfl) (fun t e=>by rw[bX]at e;cases e) H
end
section
variable {E:Env} {s:List AV} {h:List af}
theorem aa.aaC(hE:E.OK){ae:FuncId}{R:bZ}{ops:Array Oper}{td:List aK}{lits:List Nat}{o:Oper}{r:List Oper}{args:Array Operand}{kC:Array TypeId}{x y:Operand}{t0 t1 e e1 b g:Nat}{i0 i1 ei:bD}{ts:Nat × Nat}{l:List DV}(hg:o.guard=none)
  (bX:o.op=.call { callee := .builtin .append,args:=args,argTypes:=kC }) (hx:args.toList=[x,y]) (pE:kC.toList=[t0,t1]) (fU:E.T[t0]?=some i0) (jb:E.T[t1]?=some i1) (dh:i0.k=.slice e) (dU:i1.k=.slice e1) (cd:E.T[e]?=some ei)
  (hz:ei.zero.length=ei.size) (cB:Nat.blt 0 ei.size=true) (ja:Nat.ble ei.bytes 65536=true) (vS:ts.1=e) (oG:ts.2=ei.size) (ha:bh E.G s x (.own b g)) (hy:bh E.G s y (.d .a7)) (hb:h[b]?=some (.arr g ts l)) (lh:l.length<=2147483648)
  (H:fL h b (.arr (g+1) ts l) fun h'=>bK s o.dst (.own b (g+1)) fun s'=>aa E ae R lits (.bF ops r::td) s' h'):aa E ae R lits (.bF ops (o::r)::td) s h:=by
 rw[gL,df]at H;have A7:=iz cB;have gv:bh E.G s y (.d (.sl [])):=fun c ac h3 h4=>by
  have hv:=hy c ac h3 h4;generalize ac.eval y=u at hv ⊢;cases hv with
  |d _ _ hv=>cases hv with
   |a7=>exact .d _ _ .slnil
 have ho:=EO (h:=h) (s:=s) hE hx pE fU jb dh (fun k e=>by rw[dU]at e;cases e) cd hz A7 (Nat.le_of_ble_eq_true ja) gv (m:=[]) (by simp) (fun c v hv=>by cases hv with|d _ _ hv=>exact BE A7 (by simp) hv) ha (r := .own b (g+1)) (h':=h.set b (.arr (g+1) ts (l++[]))) (.inl ⟨b,g,ts,l,rfl,hb,vS,oG,by simpa using lh,rfl,rfl⟩);rw[List.append_nil]at ho;exact .of (.op (eC hg) (bX ▸ ho) H.to)
end
end Go.aA
end
section
namespace Go.Proofs
open Go.Shelf
def Tryz.aby:Go.Shelf.Ren:=⟨fun|5=>82|8=>115|7=>126|19=>180|20=>181|10=>194|11=>195|12=>196|13=>197|14=>198|15=>199|16=>200|17=>201|18=>202|30=>229|31=>221|32=>222|33=>230|34=>231|35=>204|40=>248|n=>n,fun|23=>27|25=>3|3=>3|32=>181|22=>27|0=>0|44=>238|46=>208|4=>4|36=>232|35=>231|41=>161|5=>5|9=>9|53=>258|57=>262|63=>281|64=>282|n=>n,fun|n=>n⟩
theorem Tryz.sortInt:Go.Proofs.SlLaysM.n5 Tryz.prog Tryz.aby:={
 mixed:=by kernel_rfl
 f5:=⟨Tryz.f82.name,by decide,Tryz.func82.trans (congrArg some (by kernel_rfl))⟩
 f7:=⟨Tryz.f126.name,by decide,Tryz.func126.trans (congrArg some (by kernel_rfl))⟩
 f8:=Tryz.func115.trans (congrArg some (by kernel_rfl))
 f10:=⟨Tryz.f194.name,by decide,Tryz.func194.trans (congrArg some (by kernel_rfl))⟩
 f11:=⟨Tryz.f195.name,by decide,Tryz.func195.trans (congrArg some (by kernel_rfl))⟩
 f12:=⟨Tryz.f196.name,by decide,Tryz.func196.trans (congrArg some (by kernel_rfl))⟩
 f13:=⟨Tryz.f197.name,by decide,Tryz.func197.trans (congrArg some (by kernel_rfl))⟩
 f14:=⟨Tryz.f198.name,by decide,Tryz.func198.trans (congrArg some (by kernel_rfl))⟩
 f15:=⟨Tryz.f199.name,by decide,Tryz.func199.trans (congrArg some (by kernel_rfl))⟩
 f16:=⟨Tryz.f200.name,by decide,Tryz.func200.trans (congrArg some (by kernel_rfl))⟩
 f17:=⟨Tryz.f201.name,by decide,Tryz.func201.trans (congrArg some (by kernel_rfl))⟩
 f18:=⟨Tryz.f202.name,by decide,Tryz.func202.trans (congrArg some (by kernel_rfl))⟩
 f19:=Tryz.func180.trans (congrArg some (by kernel_rfl))
 f20:=Tryz.func181.trans (congrArg some (by kernel_rfl))
 f30:=⟨Tryz.f229.name,by decide,Tryz.func229.trans (congrArg some (by kernel_rfl))⟩
 f31:=Tryz.func221.trans (congrArg some (by kernel_rfl))
 f32:=Tryz.func222.trans (congrArg some (by kernel_rfl))
 f33:=⟨Tryz.f230.name,by decide,Tryz.func230.trans (congrArg some (by kernel_rfl))⟩
 f34:=⟨Tryz.f231.name,by decide,Tryz.func231.trans (congrArg some (by kernel_rfl))⟩
 f35:=⟨Tryz.f204.name,by decide,Tryz.func204.trans (congrArg some (by kernel_rfl))⟩
 f40:=⟨Tryz.f248.name,by decide,Tryz.func248.trans (congrArg some (by kernel_rfl))⟩
 t0:=Tryz.underlying0
 a0:=Tryz.isAgg0
 z0:=Tryz.sizeOf0
 v0:=Tryz.zeroValue0
 t3:=Tryz.underlying3
 a3:=Tryz.isAgg3
 z3:=Tryz.sizeOf3
 v3:=Tryz.zeroValue3
 t4:=Tryz.underlying4
 a4:=Tryz.isAgg4
 z4:=Tryz.sizeOf4
 v4:=Tryz.zeroValue4
 t5:=Tryz.underlying5
 a5:=Tryz.isAgg5
 z5:=Tryz.sizeOf5
 v5:=Tryz.zeroValue5
 t9:=Tryz.underlying9
 a9:=Tryz.isAgg9
 z9:=Tryz.sizeOf9
 v9:=Tryz.zeroValue9
 t22:=Tryz.underlying27
 a22:=Tryz.isAgg27
 z22:=Tryz.sizeOf27
 v22:=Tryz.zeroValue27
 t23:=Tryz.underlying27
 a23:=Tryz.isAgg27
 z23:=Tryz.sizeOf27
 v23:=Tryz.zeroValue27
 t25:=Tryz.underlying3
 a25:=Tryz.isAgg3
 z25:=Tryz.sizeOf3
 v25:=Tryz.zeroValue3
 t32:=Tryz.underlying181
 a32:=Tryz.isAgg181
 z32:=Tryz.sizeOf181
 v32:=Tryz.zeroValue181
 t35:=Tryz.underlying231
 a35:=Tryz.isAgg231
 z35:=Tryz.sizeOf231
 v35:=Tryz.zeroValue231
 t36:=Tryz.underlying232
 a36:=Tryz.isAgg232
 z36:=Tryz.sizeOf232
 v36:=Tryz.zeroValue232
 t41:=Tryz.underlying161
 a41:=Tryz.isAgg161
 z41:=Tryz.sizeOf161
 v41:=Tryz.zeroValue161
 t44:=Tryz.underlying238
 a44:=Tryz.isAgg238
 z44:=Tryz.sizeOf238
 v44:=Tryz.zeroValue238
 t46:=Tryz.underlying208
 a46:=Tryz.isAgg208
 z46:=Tryz.sizeOf208
 v46:=Tryz.zeroValue208
 t53:=Tryz.underlying258
 a53:=Tryz.isAgg258
 z53:=Tryz.sizeOf258
 v53:=Tryz.zeroValue258
 t57:=Tryz.underlying262
 a57:=Tryz.isAgg262
 z57:=Tryz.sizeOf262
 v57:=Tryz.zeroValue262
 t63:=Tryz.underlying281
 a63:=Tryz.isAgg281
 z63:=Tryz.sizeOf281
 v63:=Tryz.zeroValue281
 t64:=Tryz.underlying282
 a64:=Tryz.isAgg282
 z64:=Tryz.sizeOf282
 v64:=Tryz.zeroValue282 }
def Tryz.abz:Go.Shelf.Ren:=⟨fun|6=>129|15=>115|14=>203|28=>180|29=>181|20=>232|21=>233|22=>234|23=>235|24=>236|25=>237|26=>238|27=>239|46=>249|47=>221|48=>222|49=>250|50=>251|57=>254|n=>n,fun|22=>142|24=>189|25=>196|3=>3|39=>181|0=>0|53=>238|55=>208|4=>4|46=>232|45=>231|50=>161|5=>5|9=>9|66=>258|70=>262|76=>281|77=>282|n=>n,fun|n=>n⟩
theorem Tryz.Rz:Go.Proofs.SlLaysF0.n6 Tryz.prog Tryz.abz:={
 mixed:=by kernel_rfl
 f6:=⟨Tryz.f129.name,by decide,Tryz.func129.trans (congrArg some (by kernel_rfl))⟩
 f14:=⟨Tryz.f203.name,by decide,Tryz.func203.trans (congrArg some (by kernel_rfl))⟩
 f15:=Tryz.func115.trans (congrArg some (by kernel_rfl))
 f20:=⟨Tryz.f232.name,by decide,Tryz.func232.trans (congrArg some (by kernel_rfl))⟩
 f21:=⟨Tryz.f233.name,by decide,Tryz.func233.trans (congrArg some (by kernel_rfl))⟩
 f22:=⟨Tryz.f234.name,by decide,Tryz.func234.trans (congrArg some (by kernel_rfl))⟩
 f23:=⟨Tryz.f235.name,by decide,Tryz.func235.trans (congrArg some (by kernel_rfl))⟩
 f24:=⟨Tryz.f236.name,by decide,Tryz.func236.trans (congrArg some (by kernel_rfl))⟩
 f25:=⟨Tryz.f237.name,by decide,Tryz.func237.trans (congrArg some (by kernel_rfl))⟩
 f26:=⟨Tryz.f238.name,by decide,Tryz.func238.trans (congrArg some (by kernel_rfl))⟩
 f27:=⟨Tryz.f239.name,by decide,Tryz.func239.trans (congrArg some (by kernel_rfl))⟩
 f28:=Tryz.func180.trans (congrArg some (by kernel_rfl))
 f29:=Tryz.func181.trans (congrArg some (by kernel_rfl))
 f46:=⟨Tryz.f249.name,by decide,Tryz.func249.trans (congrArg some (by kernel_rfl))⟩
 f47:=Tryz.func221.trans (congrArg some (by kernel_rfl))
 f48:=Tryz.func222.trans (congrArg some (by kernel_rfl))
 f49:=⟨Tryz.f250.name,by decide,Tryz.func250.trans (congrArg some (by kernel_rfl))⟩
 f50:=⟨Tryz.f251.name,by decide,Tryz.func251.trans (congrArg some (by kernel_rfl))⟩
 f57:=⟨Tryz.f254.name,by decide,Tryz.func254.trans (congrArg some (by kernel_rfl))⟩
 t0:=Tryz.underlying0
 a0:=Tryz.isAgg0
 z0:=Tryz.sizeOf0
 v0:=Tryz.zeroValue0
 t3:=Tryz.underlying3
 a3:=Tryz.isAgg3
 z3:=Tryz.sizeOf3
 v3:=Tryz.zeroValue3
 t4:=Tryz.underlying4
 a4:=Tryz.isAgg4
 z4:=Tryz.sizeOf4
 v4:=Tryz.zeroValue4
 t5:=Tryz.underlying5
 a5:=Tryz.isAgg5
 z5:=Tryz.sizeOf5
 v5:=Tryz.zeroValue5
 t9:=Tryz.underlying9
 a9:=Tryz.isAgg9
 z9:=Tryz.sizeOf9
 v9:=Tryz.zeroValue9
 t22:=Tryz.underlying142
 a22:=Tryz.isAgg142
 z22:=Tryz.sizeOf142
 v22:=Tryz.zeroValue142
 t25:=Tryz.underlying196
 a25:=Tryz.isAgg196
 z25:=Tryz.sizeOf196
 v25:=Tryz.zeroValue196
 t39:=Tryz.underlying181
 a39:=Tryz.isAgg181
 z39:=Tryz.sizeOf181
 v39:=Tryz.zeroValue181
 t45:=Tryz.underlying231
 a45:=Tryz.isAgg231
 z45:=Tryz.sizeOf231
 v45:=Tryz.zeroValue231
 t46:=Tryz.underlying232
 a46:=Tryz.isAgg232
 z46:=Tryz.sizeOf232
 v46:=Tryz.zeroValue232
 t50:=Tryz.underlying161
 a50:=Tryz.isAgg161
 z50:=Tryz.sizeOf161
 v50:=Tryz.zeroValue161
 t53:=Tryz.underlying238
 a53:=Tryz.isAgg238
 z53:=Tryz.sizeOf238
 v53:=Tryz.zeroValue238
 t55:=Tryz.underlying208
 a55:=Tryz.isAgg208
 z55:=Tryz.sizeOf208
 v55:=Tryz.zeroValue208
 t66:=Tryz.underlying258
 a66:=Tryz.isAgg258
 z66:=Tryz.sizeOf258
 v66:=Tryz.zeroValue258
 t70:=Tryz.underlying262
 a70:=Tryz.isAgg262
 z70:=Tryz.sizeOf262
 v70:=Tryz.zeroValue262
 t76:=Tryz.underlying281
 a76:=Tryz.isAgg281
 z76:=Tryz.sizeOf281
 v76:=Tryz.zeroValue281
 t77:=Tryz.underlying282
 a77:=Tryz.isAgg282
 z77:=Tryz.sizeOf282
 v77:=Tryz.zeroValue282 }
def Tryz.abA:Go.Shelf.Ren:=⟨fun|6=>74|15=>115|14=>114|28=>180|29=>181|20=>172|21=>173|22=>174|23=>175|24=>176|25=>177|26=>178|27=>179|46=>220|47=>221|48=>222|49=>223|50=>224|57=>247|n=>n,fun|22=>32|24=>9|25=>45|3=>3|39=>181|0=>0|53=>238|55=>208|4=>4|46=>232|45=>231|50=>161|5=>5|9=>9|66=>258|70=>262|76=>281|77=>282|n=>n,fun|n=>n⟩
theorem Tryz.abB:Go.Proofs.SlLaysF.n6 Tryz.prog Tryz.abA:={
 mixed:=by kernel_rfl
 f6:=⟨Tryz.f74.name,by decide,Tryz.func74.trans (congrArg some (by kernel_rfl))⟩
 f14:=⟨Tryz.f114.name,by decide,Tryz.func114.trans (congrArg some (by kernel_rfl))⟩
 f15:=Tryz.func115.trans (congrArg some (by kernel_rfl))
 f20:=⟨Tryz.f172.name,by decide,Tryz.func172.trans (congrArg some (by kernel_rfl))⟩
 f21:=⟨Tryz.f173.name,by decide,Tryz.func173.trans (congrArg some (by kernel_rfl))⟩
 f22:=⟨Tryz.f174.name,by decide,Tryz.func174.trans (congrArg some (by kernel_rfl))⟩
 f23:=⟨Tryz.f175.name,by decide,Tryz.func175.trans (congrArg some (by kernel_rfl))⟩
 f24:=⟨Tryz.f176.name,by decide,Tryz.func176.trans (congrArg some (by kernel_rfl))⟩
 f25:=⟨Tryz.f177.name,by decide,Tryz.func177.trans (congrArg some (by kernel_rfl))⟩
 f26:=⟨Tryz.f178.name,by decide,Tryz.func178.trans (congrArg some (by kernel_rfl))⟩
 f27:=⟨Tryz.f179.name,by decide,Tryz.func179.trans (congrArg some (by kernel_rfl))⟩
 f28:=Tryz.func180.trans (congrArg some (by kernel_rfl))
 f29:=Tryz.func181.trans (congrArg some (by kernel_rfl))
 f46:=⟨Tryz.f220.name,by decide,Tryz.func220.trans (congrArg some (by kernel_rfl))⟩
 f47:=Tryz.func221.trans (congrArg some (by kernel_rfl))
 f48:=Tryz.func222.trans (congrArg some (by kernel_rfl))
 f49:=⟨Tryz.f223.name,by decide,Tryz.func223.trans (congrArg some (by kernel_rfl))⟩
 f50:=⟨Tryz.f224.name,by decide,Tryz.func224.trans (congrArg some (by kernel_rfl))⟩
 f57:=⟨Tryz.f247.name,by decide,Tryz.func247.trans (congrArg some (by kernel_rfl))⟩
 t0:=Tryz.underlying0
 a0:=Tryz.isAgg0
 z0:=Tryz.sizeOf0
 v0:=Tryz.zeroValue0
 t3:=Tryz.underlying3
 a3:=Tryz.isAgg3
 z3:=Tryz.sizeOf3
 v3:=Tryz.zeroValue3
 t4:=Tryz.underlying4
 a4:=Tryz.isAgg4
 z4:=Tryz.sizeOf4
 v4:=Tryz.zeroValue4
 t5:=Tryz.underlying5
 a5:=Tryz.isAgg5
 z5:=Tryz.sizeOf5
 v5:=Tryz.zeroValue5
 t9:=Tryz.underlying9
 a9:=Tryz.isAgg9
 z9:=Tryz.sizeOf9
 v9:=Tryz.zeroValue9
 t22:=Tryz.underlying32
 a22:=Tryz.isAgg32
 z22:=Tryz.sizeOf32
 v22:=Tryz.zeroValue32
 a24:=Tryz.isAgg9
 z24:=Tryz.sizeOf9
 t25:=Tryz.underlying45
 a25:=Tryz.isAgg45
 z25:=Tryz.sizeOf45
 v25:=Tryz.zeroValue45
 t39:=Tryz.underlying181
 a39:=Tryz.isAgg181
 z39:=Tryz.sizeOf181
 v39:=Tryz.zeroValue181
 t45:=Tryz.underlying231
 a45:=Tryz.isAgg231
 z45:=Tryz.sizeOf231
 v45:=Tryz.zeroValue231
 t46:=Tryz.underlying232
 a46:=Tryz.isAgg232
 z46:=Tryz.sizeOf232
 v46:=Tryz.zeroValue232
 t50:=Tryz.underlying161
 a50:=Tryz.isAgg161
 z50:=Tryz.sizeOf161
 v50:=Tryz.zeroValue161
 t53:=Tryz.underlying238
 a53:=Tryz.isAgg238
 z53:=Tryz.sizeOf238
 v53:=Tryz.zeroValue238
 t55:=Tryz.underlying208
 a55:=Tryz.isAgg208
 z55:=Tryz.sizeOf208
 v55:=Tryz.zeroValue208
 t66:=Tryz.underlying258
 a66:=Tryz.isAgg258
 z66:=Tryz.sizeOf258
 v66:=Tryz.zeroValue258
 t70:=Tryz.underlying262
 a70:=Tryz.isAgg262
 z70:=Tryz.sizeOf262
 v70:=Tryz.zeroValue262
 t76:=Tryz.underlying281
 a76:=Tryz.isAgg281
 z76:=Tryz.sizeOf281
 v76:=Tryz.zeroValue281
 t77:=Tryz.underlying282
 a77:=Tryz.isAgg282
 z77:=Tryz.sizeOf282
 v77:=Tryz.zeroValue282 }
end Go.Proofs
end
section
namespace Go.Proofs.YtcmnpelmmekdkaaGreatDoor.P
open Go Go.aA
set_option maxRecDepth 100000
set_option maxHeartbeats 4000000
def pw(c:aR):Bool:=xw c.aE && !(decide ((c.aE.ad.length:Int)>100))
def Bj(w:cP):Bool:=(w.az.take 21).all pw&&(w.cI.take 71).all lS&&yc w.az.length w.cI.length w.hints.length w.anchor.data.length
theorem acq(w:cP):au E 10 [w.enc] (· = .bool (Bj w)):=by
 obtain⟨cI,az,anchor,hints⟩:=w;unfold Bj;simp only;show au E _ [DV.agg [.sl (cI.map Host.enc),.sl (az.map aR.enc),.str anchor.name,.int .i64 anchor.type,.int .i64 anchor.kc,.sl (anchor.data.map Datum.enc),.sl (hints.map (.int .i64))]] _;refine eP F10 ?_;refine aa.loop (κ:=Nat) ([2,3,4]++rg 6 31) (fun k=>[(3,.d (.int .i64 k))]) (fun _=>[]) (fun k=>k<=az.length/\k<=21/\(az.take k).all pw=true) (fun k=>az.length-k) 0 ⟨Nat.zero_le _,by omega,rfl⟩ ?_ ?_
 ·exact sZ
 intro k hk IH;refine aa.head ag F10 2000 ?_;(conv=>whnf);have pV:=hk.2.1;refine ar (fun h5=>?_) (fun h5=>?_)
 ·have ai:k<az.length:=by simpa using h5
  refine gO F10 ?_;refine ar (fun h6=>?_) (fun h6=>?_)
  ·have Nn:k<=20:=by have:=of_decide_eq_true h6;omega
   obtain⟨x,hx⟩:=bd ai;refine gO F10 ?_;refine aC (e:=x.enc) (aS hx) rfl ?_;refine gO F10 ?_
   with_reducible refine aj (Wh x.aE) ?_
   refine gO F10 ?_;cases hz:xw x.aE
   ·have ix:pw x=false:=by rw[pw,hz];rfl
    refine bp ?_;refine gO F10 ?_;refine bp ?_;refine gO F10 ?_;rw[iU (k:=k) (by rw[List.getElem?_take,if_pos (by omega)];exact hx) ix,Bool.false_and,Bool.false_and]
   ·refine aY ?_;refine gO F10 ?_;refine aC (e:=x.enc) (aS hx) rfl ?_;refine gO F10 ?_;refine ar (fun h7=>?_) (fun h7=>?_)
    ·have ix:pw x=false:=by rw[pw,hz,h7];rfl
     refine gO F10 ?_;rw[iU (k:=k) (by rw[List.getElem?_take,if_pos (by omega)];exact hx) ix,Bool.false_and,Bool.false_and]
    ·have ix:pw x=true:=by rw[pw,hz,h7];rfl
     refine gO F10 ?_;refine aa.back (IH (k+1) ⟨by omega,by omega,jC hk.2.2 hx ix⟩ (by omega)) ?_;exact sZ
  ·have h21:k=21:=by have:=of_decide_eq_false h6;omega
   have jd:(az.take 21).all pw=true:=by rw[<- h21];exact hk.2.2
   rw[jd,Bool.true_and];refine gO F10 ?_;refine aa.loop (κ:=Nat) ([2,5]++rg 37 19) (fun k=>[(5,.d (.int .i64 k))]) (fun _=>[]) (fun k=>k<=cI.length/\k<=71/\(cI.take k).all lS=true) (fun k=>cI.length-k) 0 ⟨Nat.zero_le _,by omega,rfl⟩ ?_ ?_
   ·exact sZ
   intro j hj JH;refine aa.head ag F10 2000 ?_;(conv=>whnf);have fw:=hj.2.1;refine ar (fun g5=>?_) (fun g5=>?_)
   ·have ai:j<cI.length:=by simpa using g5
    refine gO F10 ?_;refine ar (fun g6=>?_) (fun g6=>?_)
    ·have h70:j<=70:=by have:=of_decide_eq_true g6;omega
     obtain⟨x,hx⟩:=bd ai;refine gO F10 ?_;refine aC (e:=x.enc) (aS hx) rfl ?_;refine gO F10 ?_;refine ar (fun g7=>?_) (fun g7=>?_)
     ·have hz:lS x=false:=by rw[lS,g7];rfl
      refine gO F10 ?_;rw[iU (k:=j) (by rw[List.getElem?_take,if_pos (by omega)];exact hx) hz,Bool.false_and]
     ·have hz:lS x=true:=by rw[lS,g7];rfl
      refine gO F10 ?_;refine aa.back (JH (j+1) ⟨by omega,by omega,jC hj.2.2 hx hz⟩ (by omega)) ?_;exact sZ
    ·have Jw:j=71:=by have:=of_decide_eq_false g6;omega
     have aW:(cI.take 71).all lS=true:=by rw[<- Jw];exact hj.2.2
     rw[aW];refine gO F10 ?_;clear IH JH;repeat' (first|with_reducible(first|refine cY ?_|refine cN ?_|refine ar (fun _=>?_) (fun _=>?_))|refine gA F10 ?_|refine gB ?_|refine gC ?_|with_reducible rfl)
     all_goals
      clear aW jd hk hj;simp_all[yc];try (first|omega|(rw[Bool.eq_iff_iff];simp;omega))
   ·have aG:cI.length<=j:=by simpa using g5
    have aW:(cI.take 71).all lS=true:=by
     have h1:=nX hj.2.2 aG;rw[List.all_eq_true]at h1 ⊢;exact fun y hy=>h1 y (List.mem_of_mem_take hy)
    rw[aW];refine gO F10 ?_;refine aY ?_;refine gO F10 ?_;clear IH JH;repeat' (first|with_reducible(first|refine cY ?_|refine cN ?_|refine ar (fun _=>?_) (fun _=>?_))|refine gA F10 ?_|refine gB ?_|refine gC ?_|with_reducible rfl)
    all_goals
     clear aW jd hk hj;simp_all[yc];try (first|omega|(rw[Bool.eq_iff_iff];simp;omega))
 ·have aG:az.length<=k:=by simpa using h5
  have jd:(az.take 21).all pw=true:=by
   have h1:=nX hk.2.2 aG;rw[List.all_eq_true]at h1 ⊢;exact fun y hy=>h1 y (List.mem_of_mem_take hy)
  rw[jd,Bool.true_and];refine gO F10 ?_;refine aY ?_;refine gO F10 ?_;refine aa.loop (κ:=Nat) ([2,5]++rg 37 19) (fun k=>[(5,.d (.int .i64 k))]) (fun _=>[]) (fun k=>k<=cI.length/\k<=71/\(cI.take k).all lS=true) (fun k=>cI.length-k) 0 ⟨Nat.zero_le _,by omega,rfl⟩ ?_ ?_
  ·exact sZ
  intro j hj JH;refine aa.head ag F10 2000 ?_;(conv=>whnf);have fw:=hj.2.1;refine ar (fun g5=>?_) (fun g5=>?_)
  ·have ai:j<cI.length:=by simpa using g5
   refine gO F10 ?_;refine ar (fun g6=>?_) (fun g6=>?_)
   ·have h70:j<=70:=by have:=of_decide_eq_true g6;omega
    obtain⟨x,hx⟩:=bd ai;refine gO F10 ?_;refine aC (e:=x.enc) (aS hx) rfl ?_;refine gO F10 ?_;refine ar (fun g7=>?_) (fun g7=>?_)
    ·have hz:lS x=false:=by rw[lS,g7];rfl
     refine gO F10 ?_;rw[iU (k:=j) (by rw[List.getElem?_take,if_pos (by omega)];exact hx) hz,Bool.false_and]
    ·have hz:lS x=true:=by rw[lS,g7];rfl
     refine gO F10 ?_;refine aa.back (JH (j+1) ⟨by omega,by omega,jC hj.2.2 hx hz⟩ (by omega)) ?_;exact sZ
   ·have Jw:j=71:=by have:=of_decide_eq_false g6;omega
    have aW:(cI.take 71).all lS=true:=by rw[<- Jw];exact hj.2.2
    rw[aW];refine gO F10 ?_;clear IH JH;repeat' (first|with_reducible(first|refine cY ?_|refine cN ?_|refine ar (fun _=>?_) (fun _=>?_))|refine gA F10 ?_|refine gB ?_|refine gC ?_|with_reducible rfl)
    all_goals
     clear aW jd hk hj;simp_all[yc];try (first|omega|(rw[Bool.eq_iff_iff];simp;omega))
  ·have aG:cI.length<=j:=by simpa using g5
   have aW:(cI.take 71).all lS=true:=by
    have h1:=nX hj.2.2 aG;rw[List.all_eq_true]at h1 ⊢;exact fun y hy=>h1 y (List.mem_of_mem_take hy)
   rw[aW];refine gO F10 ?_;refine aY ?_;refine gO F10 ?_;clear IH JH;repeat' (first|with_reducible(first|refine cY ?_|refine cN ?_|refine ar (fun _=>?_) (fun _=>?_))|refine gA F10 ?_|refine gB ?_|refine gC ?_|with_reducible rfl)
   all_goals
    clear aW jd hk hj;simp_all[yc];try (first|omega|(rw[Bool.eq_iff_iff];simp;omega))
end Go.Proofs.YtcmnpelmmekdkaaGreatDoor.P
end
