/- Lemmas of mine. Conditions: as stated. -/
import Derived.Test.YtcmnpelmmekdkaaGreatDoorV8
import Derived.Shelf.SlSortCmp.Whole1
import Derived.Shelf.SlicesG.Cmp
import Derived.Ground.SlgmProg
import Derived.Ground.Names2Prog
import Derived.Ground.SlsfProg
import Derived.Ground.SlgcProg
set_option linter.unusedVariables false
set_option linter.unusedSimpArgs false
section
namespace Go.Proofs.YtcmnpelmmekdkaaGreatDoor.P
open Go Go.aA
set_option maxRecDepth 100000
structure bP where
 bw:aG
 other:Text
 deriving DecidableEq
structure bu where
 name:Text
 au:List Text
 before:Int
 bw:aG
 list:List aG
def cB(met:List Text)(b:Int)(dp:List aG):List bP->List bu
 |[]=>[]
 |x::r=>if x.other∈met then cB met b dp r else⟨x.other,[],b,x.bw,dp++[x.bw]⟩::cB (met++[x.other]) b dp r
abbrev nt:=Text->List Text × List bP
def pd(J:nt):Nat->List bu->List bu->List bu
 |0,done,_=>done
 |_+1,done,[]=>done
 |n+1,done,v::w=>pd J n (done++[{ v with au:=(J v.name).1 }]) (w++cB ((done++v::w).map bu.name) done.length v.list (J v.name).2)
theorem DD{b:Int}{dp:List aG}:∀ {L:List bP} {met:List Text} {v:bu},v∈cB met b dp L->v.name ∉ met/\(∃ x∈L,x.other=v.name/\v.bw=x.bw/\v.list=dp++[x.bw])/\v.before=b/\v.au=[]
 |[],_,_,h=>by simp[cB]at h
 |x::r,met,v,h=>by
  rw[cB]at h;split at h
  ·obtain⟨h1,⟨y,h2,h3⟩,h4⟩:=DD h;exact⟨h1,⟨y,List.mem_cons_of_mem _ h2,h3⟩,h4⟩
  ·rename_i hn;rcases List.mem_cons.1 h with rfl|h
   ·exact⟨hn,⟨x,List.mem_cons_self ..,rfl,rfl,rfl⟩,rfl,rfl⟩
   ·obtain⟨h1,⟨y,h2,h3⟩,h4⟩:=DD h;exact⟨fun e=>h1 (List.mem_append_left _ e),⟨y,List.mem_cons_of_mem _ h2,h3⟩,h4⟩
theorem II{b:Int}{dp:List aG}:∀ {L:List bP} {met:List Text},met.Nodup->(met++(cB met b dp L).map bu.name).Nodup
 |[],met,h=>by simpa [cB]using h
 |x::r,met,h=>by
  rw[cB];split
  ·exact II h
  ·rename_i hn
   have:=II (L:=r) (b:=b) (dp:=dp) (met:=met++[x.other]) (by
    rw[List.nodup_append]
    exact⟨h,by simp,fun a ha c hc e=>by simp at hc;subst hc;subst e;exact hn ha⟩)
   simpa [List.append_assoc]using this
theorem IJ{b:Int}{dp:List aG}:∀ {L:List bP} {met:List Text} {x:bP},x∈L->x.other∈met++(cB met b dp L).map bu.name
 |y::r,met,x,h=>by
  rw[cB];split
  ·rename_i hm;rcases List.mem_cons.1 h with rfl|h
   ·exact List.mem_append_left _ hm
   ·exact IJ h
  ·rcases List.mem_cons.1 h with rfl|h
   ·simp
   ·have:=IJ (b:=b) (dp:=dp) (met:=met++[y.other]) h
    simpa [List.append_assoc]using this
theorem DE{b:Int}{dp:List aG}{d:bP}:∀ {L:List bP} {met:List Text},d.other∈met->cB met b dp (L.filter fun x => !decide (x=d))=cB met b dp L
 |[],_,_=>rfl
 |x::r,met,h=>by
  by_cases e:x=d
  ·subst e;rw[List.filter_cons_of_neg (by simp),DE h,cB,if_pos h]
  ·rw[List.filter_cons_of_pos (by simpa using e),cB,cB];split
   ·exact DE h
   ·rw[DE (List.mem_append_left _ h)]
theorem ya{α:Type}[DecidableEq α]:∀ {l U:List α},l.Nodup->(∀ x∈l,x∈U)->l.length<=U.length
 |[],_,_,_=>by simp
 |x::l,U,h,hs=>by
  rw[List.nodup_cons]at h;have h1:=ya (U:=U.erase x) h.2 fun y hy=>by
   have:y≠x:=fun e=>h.1 (e ▸ hy);exact(List.mem_erase_of_ne this).2 (hs y (List.mem_cons_of_mem _ hy))
  have h2:=List.length_erase_of_mem (hs x (List.mem_cons_self ..));have h3:=List.length_pos_of_mem (hs x (List.mem_cons_self ..));simp;omega
def AZ(J:nt)(U:List Text):Prop:=∀ n∈U,∀ x∈(J n).2,x.other∈U
structure fP(J:nt)(s:Text)(done wait:List bu):Prop where
 nodup:((done++wait).map bu.name).Nodup
 start:s∈(done++wait).map bu.name
 shut:∀ v∈done,v.au=(J v.name).1/\∀ x∈(J v.name).2,x.other∈(done++wait).map bu.name
 least:∀ U,s∈U->AZ J U->∀ v∈done++wait,v.name∈U
 prev:∀ (j:Nat) (v:bu),(done++wait)[j]?=some v->(v.before = -1/\v.list=[]/\v.name=s/\j=0)\/∃ (b:Nat) (u:bu) (x:bP),v.before=b/\b<j/\b<done.length/\done[b]?=some u/\x∈(J u.name).2/\x.other=v.name/\v.bw=x.bw/\v.list=u.list++[v.bw]
theorem fP.init{J:nt}{s:Text}{q:aG}:fP J s [] [⟨s,[],-1,q,[]⟩]:=by
 refine⟨by simp,by simp,fun v hv=>by simp at hv,fun U h _ v hv=>by simp at hv;subst hv;exact h,fun j v hj=>?_⟩;cases j with
 |zero=>simp at hj;subst hj;exact .inl ⟨rfl,rfl,rfl,rfl⟩
 |succ j=>simp at hj
theorem fP.next{J:nt}{s:Text}{done w:List bu}{v:bu}(H:fP J s done (v::w)):fP J s (done++[{ v with au:=(J v.name).1 }]) (w++cB ((done++v::w).map bu.name) done.length v.list (J v.name).2):=by
 have IM:((done++[{ v with au:=(J v.name).1 }])++(w++cB ((done++v::w).map bu.name) done.length v.list (J v.name).2)).map bu.name=(done++v::w).map bu.name++(cB ((done++v::w).map bu.name) done.length v.list (J v.name).2).map bu.name:=by simp
 refine⟨?_,?_,?_,?_,?_⟩
 ·rw[IM];exact II H.nodup
 ·rw[IM];exact List.mem_append_left _ H.start
 ·intro u hu;rw[IM];rcases List.mem_append.1 hu with hu|hu
  ·exact⟨(H.shut u hu).1,fun x hx=>List.mem_append_left _ ((H.shut u hu).2 x hx)⟩
  ·simp at hu;subst hu;exact⟨rfl,fun x hx=>IJ hx⟩
 ·intro U hs hU u hu;have hv:v.name∈U:=H.least U hs hU v (by simp);rcases List.mem_append.1 hu with hu|hu
  ·rcases List.mem_append.1 hu with hu|hu
   ·exact H.least U hs hU u (List.mem_append_left _ hu)
   ·simp at hu;subst hu;exact hv
  ·rcases List.mem_append.1 hu with hu|hu
   ·exact H.least U hs hU u (by simp[hu])
   ·obtain⟨_,⟨x,h1,h2,_⟩,_⟩:=DD hu;rw[<- h2];exact hU _ hv x h1
 ·intro j u hj;have key:∀ {b:Nat} {z:bu},done[b]?=some z->(done++[{ v with au:=(J v.name).1 }])[b]?=some z:=fun{b z} h=>by
   rw[List.getElem?_append_left (List.getElem?_eq_some_iff.1 h).1];exact h
  have old:∀ (j:Nat) (u u':bu),(done++v::w)[j]?=some u->u'.before=u.before->u'.list=u.list->u'.name=u.name->u'.bw=u.bw->(u'.before = -1/\u'.list=[]/\u'.name=s/\j=0)\/∃ (b:Nat) (z:bu) (x:bP),u'.before=b/\b<j/\b<(done++[{ v with au:=(J v.name).1 }]).length/\(done++[{ v with au:=(J v.name).1 }])[b]?=some z/\x∈(J z.name).2/\x.other=u'.name/\u'.bw=x.bw/\u'.list=z.list++[u'.bw]:=by
   intro j u u' hj e1 e2 e3 e4;rw[e1,e2,e3,e4];rcases H.prev j u hj with h|⟨b,z,x,h1,h2,h3,h4,h5⟩
   ·exact .inl h
   ·exact .inr ⟨b,z,x,h1,h2,by simp;omega,key h4,h5⟩
  by_cases gU:j<done.length+1+w.length
  ·rcases Nat.lt_trichotomy j done.length with h|h|h
   ·rw[List.append_assoc,List.getElem?_append_left h]at hj;exact old j u u (by rw[List.getElem?_append_left h];exact hj) rfl rfl rfl rfl
   ·subst h;rw[List.append_assoc,List.getElem?_append_right (Nat.le_refl _),Nat.sub_self]at hj;simp at hj;subst hj;exact old done.length v _ (by simp) rfl rfl rfl rfl
   ·rw[List.getElem?_append_right (by simp;omega),List.getElem?_append_left (by simp;omega)]at hj;refine old j u u ?_ rfl rfl rfl rfl;rw[List.getElem?_append_right (by omega),show j-done.length=(j-(done.length+1))+1 by omega,List.getElem?_cons_succ]
    simpa using hj
  ·rw[List.getElem?_append_right (by simp;omega),List.getElem?_append_right (by simp;omega)]at hj;have hm:=List.mem_of_getElem? hj;obtain⟨h1,⟨x,h2,h3,h4,h5⟩,h6,h7⟩:=DD hm;refine .inr ⟨done.length,{ v with au:=(J v.name).1 },x,h6,by omega,by simp,by simp,h2,h3,h4,?_⟩;rw[h5,h4]
theorem PR{J:nt}{s:Text}{U:List Text}(hs:s∈U)(hU:AZ J U):∀ (n:Nat) (done wait:List bu),fP J s done wait->U.length<done.length+n->fP J s (pd J n done wait) []
 |0,done,wait,H,h=>by
  have:=ya H.nodup (U:=U) fun x hx=>by
   obtain⟨v,hv,rfl⟩:=List.mem_map.1 hx;exact H.least U hs hU v hv
  simp at this;omega
 |n+1,done,[],H,h=>by simpa [pd]using H
 |n+1,done,v::w,H,h=>by
  rw[pd];exact PR hs hU n _ _ H.next (by simp;omega)
theorem IN{J:nt}{s:Text}{U:List Text}(hs:s∈U)(hU:AZ J U){done wait:List bu}(H:fP J s done wait):done.length+wait.length<=U.length:=by
 have:=ya H.nodup (U:=U) fun x hx=>by
  obtain⟨v,hv,rfl⟩:=List.mem_map.1 hx;exact H.least U hs hU v hv
 simpa using this
theorem PS{lt:bP->bP->Prop}(tG:∀ a,¬ lt a a)(pf:∀ a b c,lt a b->lt b c->lt a c){b:Int}{dp:List aG}:∀ {D L:List bP} {met:List Text},D.Pairwise lt->L.Pairwise (fun a b=>lt a b\/a=b)->(∀ x,x∈L↔x∈D)->cB met b dp L=cB met b dp D
 |[],L,met,_,_,h=>by
  cases L with
  |nil=>rfl
  |cons x L=>have:=(h x).1 (List.mem_cons_self ..);simp at this
 |d::D,L,met,hD,hL,h=>by
  obtain⟨p1,p2⟩:=List.pairwise_cons.1 hD;cases L with
  |nil=>have:=(h d).2 (List.mem_cons_self ..);simp at this
  |cons x L =>
   obtain⟨q1,q2⟩:=List.pairwise_cons.1 hL;have xz:x=d:=by
    rcases List.mem_cons.1 ((h x).1 (List.mem_cons_self ..))with e|e
    ·exact e
    ·have h1:=p1 x e;rcases List.mem_cons.1 ((h d).2 (List.mem_cons_self ..))with e2|e2
     ·exact e2.symm
     ·rcases q1 d e2 with h2|h2
      ·exact absurd (pf _ _ _ h1 h2) (tG _)
      ·exact h2
   subst xz;have step:∀ DF,x.other∈DF->cB DF b dp L=cB DF b dp D:=fun DF hm=>by
    rw[<- DE hm];refine PS tG pf p2 (q2.sublist List.filter_sublist) fun y=>?_;rw[List.mem_filter];constructor
    ·rintro⟨h1,h2⟩;rcases List.mem_cons.1 ((h y).1 (List.mem_cons_of_mem _ h1))with e|e
     ·simp[e]at h2
     ·exact e
    ·intro hy;have aM:y≠x:=fun e=>tG x (e ▸ p1 y hy);rcases List.mem_cons.1 ((h y).2 (List.mem_cons_of_mem _ hy))with e|e
     ·exact absurd e aM
     ·exact⟨e,by simpa using aM⟩
   rw[cB,cB];split
   ·rename_i hm;exact step met hm
   ·rw[step (met++[x.other]) (by simp)]
section
variable {α:Type} [DecidableEq α] (lt:α->α->Bool)
def iB:List α->α->List α
 |[],x=>[x]
 |y::r,x=>if y=x then y::r else if lt x y then x::y::r else y::iB r x
variable {lt}
theorem A0{x y:α}:∀ {l:List α},y∈iB lt l x↔y∈l\/y=x
 |[]=>by simp[iB]
 |z::r=>by
  rw[iB];split
  ·rename_i h;subst h;simp only[List.mem_cons];constructor
   ·exact fun h => .inl h
   ·rintro(h|h)
    ·exact h
    ·exact .inl h
  ·split
   ·simp only[List.mem_cons];constructor
    ·rintro(h|h|h)
     ·exact .inr h
     ·exact .inl (.inl h)
     ·exact .inl (.inr h)
    ·rintro((h|h)|h)
     ·exact .inr (.inl h)
     ·exact .inr (.inr h)
     ·exact .inl h
   ·rw[List.mem_cons,A0,List.mem_cons];constructor
    ·rintro(h|h|h)
     ·exact .inl (.inl h)
     ·exact .inl (.inr h)
     ·exact .inr h
    ·rintro((h|h)|h)
     ·exact .inl h
     ·exact .inr (.inl h)
     ·exact .inr (.inr h)
theorem IP(pf:∀ a b c,lt a b=true->lt b c=true->lt a c=true)(kV:∀ a b,a≠b->lt a b=false->lt b a=true){x:α}:∀ {l:List α},l.Pairwise (fun a b=>lt a b=true)->(iB lt l x).Pairwise fun a b=>lt a b=true
 |[],_=>by simp[iB]
 |y::r,h=>by
  obtain⟨h1,h2⟩:=List.pairwise_cons.1 h;rw[iB];split
  ·exact h
  ·rename_i aM;cases e:lt x y
   ·simp only[Bool.false_eq_true,if_false];refine List.pairwise_cons.2 ⟨fun z hz=>?_,IP pf kV h2⟩;rcases A0.1 hz with hz|hz
    ·exact h1 z hz
    ·subst hz;exact kV _ _ (fun q=>aM q.symm) e
   ·simp only[if_true];refine List.pairwise_cons.2 ⟨fun z hz=>?_,h⟩;rcases List.mem_cons.1 hz with rfl|hz
    ·exact e
    ·exact pf _ _ _ e (h1 z hz)
def fH(l:List α)(xs:List α):List α:=xs.foldl (iB lt) l
theorem DG{y:α}:∀ {xs l:List α},y∈fH (lt:=lt) l xs↔y∈l\/y∈xs
 |[],l=>by simp[fH]
 |x::xs,l=>by
  have:=DG (y:=y) (xs:=xs) (l:=iB lt l x);rw[fH,List.foldl_cons];rw[fH]at this;rw[this,A0,List.mem_cons];constructor
  ·rintro((h|h)|h)
   ·exact .inl h
   ·exact .inr (.inl h)
   ·exact .inr (.inr h)
  ·rintro(h|h|h)
   ·exact .inl (.inl h)
   ·exact .inl (.inr h)
   ·exact .inr h
theorem DH(pf:∀ a b c,lt a b=true->lt b c=true->lt a c=true)(kV:∀ a b,a≠b->lt a b=false->lt b a=true):∀ {xs l:List α},l.Pairwise (fun a b=>lt a b=true)->(fH (lt:=lt) l xs).Pairwise fun a b=>lt a b=true
 |[],_,h=>h
 |_::xs,_,h=>DH pf kV (xs:=xs) (IP pf kV h)
omit [DecidableEq α] in
theorem DI(tG:∀ a,lt a a=false)(pf:∀ a b c,lt a b=true->lt b c=true->lt a c=true):∀ {a b:List α},a.Pairwise (fun x y=>lt x y=true)->b.Pairwise (fun x y=>lt x y=true)->(∀ x,x∈a↔x∈b)->a=b
 |[],[],_,_,_=>rfl
 |[],y::b,_,_,h=>by have:=(h y).2 (List.mem_cons_self ..);simp at this
 |x::a,[],_,_,h=>by have:=(h x).1 (List.mem_cons_self ..);simp at this
 |x::a,y::b,ha,hb,h=>by
  obtain⟨a1,a2⟩:=List.pairwise_cons.1 ha;obtain⟨b1,b2⟩:=List.pairwise_cons.1 hb;have no:∀ u v,lt u v=true->lt v u=true->False:=fun u v h1 h2=>by have:=pf _ _ _ h1 h2;rw[tG]at this;cases this
  have e:x=y:=by
   rcases List.mem_cons.1 ((h x).1 (List.mem_cons_self ..))with e|e
   ·exact e
   ·rcases List.mem_cons.1 ((h y).2 (List.mem_cons_self ..))with e2|e2
    ·exact e2.symm
    ·exact(no _ _ (b1 x e) (a1 y e2)).elim
  subst e
  congr 1
  refine DI tG pf a2 b2 fun z=>?_;constructor
  ·intro hz;rcases List.mem_cons.1 ((h z).1 (List.mem_cons_of_mem _ hz))with e|e
   ·subst e;have:=a1 _ hz;rw[tG]at this;cases this
   ·exact e
  ·intro hz;rcases List.mem_cons.1 ((h z).2 (List.mem_cons_of_mem _ hz))with e|e
   ·subst e;have:=b1 _ hz;rw[tG]at this;cases this
   ·exact e
end
theorem A2{b:Int}{dp:List aG}{x:bP}:∀ {L:List bP} {met:List Text},cB met b dp (L++[x])=cB met b dp L++if x.other∈met++(cB met b dp L).map bu.name then[]else[⟨x.other,[],b,x.bw,dp++[x.bw]⟩]
 |[],met=>by simp[cB]
 |y::r,met=>by
  rw[List.cons_append,cB,cB];split
  ·exact A2
  ·rw[A2,List.cons_append];simp only[List.map_cons,List.append_assoc,List.singleton_append]
theorem fP.closed{J:nt}{s:Text}{R:List bu}(H:fP J s R []):AZ J (R.map bu.name):=fun n hn x hx=>by
 obtain⟨v,hv,rfl⟩:=List.mem_map.1 hn
 simpa using(H.shut v hv).2 x hx
theorem fP.sub{J:nt}{s t:Text}{R Q:List bu}(H:fP J s R [])(K:fP J t Q [])(h:t∈R.map bu.name):∀ v∈Q,v.name∈R.map bu.name:=fun v hv =>
 K.least _ h H.closed v (by simpa using hv)
def gY(R:List bu):List Text:=R.flatMap (·.au)
theorem fP.DJ{J:nt}{s:Text}{R:List bu}(H:fP J s R []){z:Text}:z∈gY R↔∃ n∈R.map bu.name,z∈(J n).1:=by
 rw[gY,List.mem_flatMap];constructor
 ·rintro⟨v,hv,hz⟩;exact⟨v.name,List.mem_map.2 ⟨v,hv,rfl⟩,(H.shut v hv).1 ▸ hz⟩
 ·rintro⟨n,hn,hz⟩;obtain⟨v,hv,rfl⟩:=List.mem_map.1 hn;exact⟨v,hv,(H.shut v hv).1 ▸ hz⟩
theorem fP.back{J:nt}{s:Text}{R:List bu}(H:fP J s R []){i:Nat}{v:bu}(h:R[i]?=some v):(v.before = -1/\v.list=[])\/∃ (b:Nat) (u:bu),v.before=b/\b<i/\R[b]?=some u/\v.list=u.list++[v.bw]:=by
 rcases H.prev i v (by simpa using h)with⟨h1,h2,_⟩|⟨b,u,x,h1,h2,_,h4,_,_,_,h8⟩
 ·exact .inl ⟨h1,h2⟩
 ·exact .inr ⟨b,u,h1,h2,h4,h8⟩
def ep(p q:aH):Bool:=decide (iW q.aC<iW p.aC)||(decide (iW p.aC=iW q.aC)&&decide (p.host<q.host))
theorem PT(p:aH):ep p p=false:=by simp[ep]
theorem Zq{p q r:aH}(h:ep p q=true)(k:ep q r=true):ep p r=true:=by
 simp only[ep,Bool.or_eq_true,Bool.and_eq_true,decide_eq_true_eq]at *;omega
def yb(l:List aH)(ad:Text)(b:Int)(i:Nat):Int:=match l[i]? with
 |none=>b
 |some p=>if p.aC.ad=ad then(if b<0 then(i:Int)else match l[b.toNat]? with
  |some q=>if ep p q then(i:Int)else b
  |none=>b)else b
def dT(l:List aH)(ad:Text):Nat->Int
 |0 => -1
 |n+1=>yb l ad (dT l ad n) n
def ky(l:List aH)(ad:Text):Int:=dT l ad l.length
structure PU(l:List aH)(ad:Text)(n:Nat)(k:Nat)(q:aH):Prop where
 lt:k<n
 at_:l[k]?=some q
 home:q.aC.ad=ad
 DK:∀ j p,j<n->l[j]?=some p->p.aC.ad=ad->ep p q=false
theorem vU{l:List aH}{ad:Text}:∀ (n:Nat),(dT l ad n = -1/\∀ j p,j<n->l[j]?=some p->p.aC.ad≠ad)\/∃ k q,dT l ad n=(k:Nat)/\PU l ad n k q
 |0 => .inl ⟨rfl,fun j p h=>by omega⟩
 |n+1=>by
  have ih:=vU (l:=l) (ad:=ad) n;rw[dT];unfold yb;cases hn:l[n]? with
  |none =>
   simp only;rcases ih with⟨h1,h2⟩|⟨k,q,h1,h2⟩
   ·refine .inl ⟨h1,fun j p hj hp=>?_⟩;rcases Nat.lt_or_ge j n with h|h
    ·exact h2 j p h hp
    ·obtain rfl:j=n:=by omega
     rw[hn]at hp;cases hp
   ·refine .inr ⟨k,q,h1,⟨by have:=h2.lt;omega,h2.at_,h2.home,fun j p hj hp ha=>?_⟩⟩;rcases Nat.lt_or_ge j n with h|h
    ·exact h2.DK j p h hp ha
    ·obtain rfl:j=n:=by omega
     rw[hn]at hp;cases hp
  |some x =>
   simp only;by_cases hx:x.aC.ad=ad
   case neg =>
    rw[if_neg hx];rcases ih with⟨h1,h2⟩|⟨k,q,h1,h2⟩
    ·refine .inl ⟨h1,fun j p hj hp=>?_⟩;rcases Nat.lt_or_ge j n with h|h
     ·exact h2 j p h hp
     ·obtain rfl:j=n:=by omega
      rw[hn]at hp;cases hp;exact hx
    ·refine .inr ⟨k,q,h1,⟨by have:=h2.lt;omega,h2.at_,h2.home,fun j p hj hp ha=>?_⟩⟩;rcases Nat.lt_or_ge j n with h|h
     ·exact h2.DK j p h hp ha
     ·obtain rfl:j=n:=by omega
      rw[hn]at hp;cases hp;exact absurd ha hx
   rw[if_pos hx];rcases ih with⟨h1,h2⟩|⟨k,q,h1,h2⟩
   ·rw[h1,if_pos (by omega)];refine .inr ⟨n,x,rfl,⟨by omega,hn,hx,fun j p hj hp ha=>?_⟩⟩;rcases Nat.lt_or_ge j n with h|h
    ·exact absurd ha (h2 j p h hp)
    ·obtain rfl:j=n:=by omega
     rw[hn]at hp;cases hp;exact PT _
   ·rw[h1,if_neg (by omega),Int.toNat_natCast,h2.at_];simp only;cases e:ep x q
    ·rw[if_neg (by decide)];refine .inr ⟨k,q,rfl,⟨by have:=h2.lt;omega,h2.at_,h2.home,fun j p hj hp ha=>?_⟩⟩;rcases Nat.lt_or_ge j n with h|h
     ·exact h2.DK j p h hp ha
     ·obtain rfl:j=n:=by omega
      rw[hn]at hp;cases hp;exact e
    ·rw[if_pos rfl];refine .inr ⟨n,x,rfl,⟨by omega,hn,hx,fun j p hj hp ha=>?_⟩⟩;rcases Nat.lt_or_ge j n with h|h
     ·cases e2:ep p x
      ·rfl
      ·have:=h2.DK j p h hp ha;rw[Zq e2 e]at this;cases this
     ·obtain rfl:j=n:=by omega
      rw[hn]at hp;cases hp;exact PT _
def eB(l:List aH)(ad:Text):Option aQ:=match l[(ky l ad).toNat]? with
 |some p=>if 0<=ky l ad then some p.aC else none
 |none=>none
theorem PV{l:List aH}{ad:Text}:eB l ad=none↔∀ p∈l,p.aC.ad≠ad:=by
 rcases vU (l:=l) (ad:=ad) l.length with⟨h1,h2⟩|⟨k,q,h1,h2⟩
 ·constructor
  ·intro _ p hp;obtain⟨j,hj⟩:=List.getElem?_of_mem hp;exact h2 j p (List.getElem?_eq_some_iff.1 hj).1 hj
  ·intro _;unfold eB ky;rw[h1];split
   ·rw[if_neg (by omega)]
   ·rfl
 ·constructor
  ·intro h;unfold eB ky at h;rw[h1,Int.toNat_natCast,h2.at_]at h;simp at h
  ·intro h;exact absurd h2.home (h q (List.mem_of_getElem? h2.at_))
theorem PW{l:List aH}{ad:Text}{z:aQ}:eB l ad=some z->∃ k q,ky l ad=(k:Nat)/\PU l ad l.length k q/\q.aC=z:=by
 rcases vU (l:=l) (ad:=ad) l.length with⟨h1,h2⟩|⟨k,q,h1,h2⟩
 ·intro h;have:eB l ad=none:=PV.2 fun p hp=>by
   obtain⟨j,hj⟩:=List.getElem?_of_mem hp;exact h2 j p (List.getElem?_eq_some_iff.1 hj).1 hj
  rw[this]at h;cases h
 ·intro h;refine⟨k,q,h1,h2,?_⟩;unfold eB ky at h;rw[h1,Int.toNat_natCast,h2.at_]at h;simp at h;exact h
def dC(a b:bP):Bool:=decide (bC a.bw.name b.bw.name<0)||(decide (a.bw.name=b.bw.name)&&(decide (a.bw.type<b.bw.type)||(decide (a.bw.type=b.bw.type)&&decide (bC a.other b.other<0))))
theorem IQ(a:bP):dC a a=false:=by simp[dC,kp]
theorem yc(a b c:bP)(h:dC a b=true)(k:dC b c=true):dC a c=true:=by
 obtain⟨⟨an,at_⟩,ao⟩:=a;obtain⟨⟨bn,bt⟩,bo⟩:=b;obtain⟨⟨cn,ct⟩,co⟩:=c;simp only[dC,Bool.or_eq_true,Bool.and_eq_true,decide_eq_true_eq]at *;rcases h with h|⟨rfl,h⟩
 ·rcases k with k|⟨rfl,k⟩
  ·exact .inl (qb h k)
  ·exact .inl h
 ·rcases k with k|⟨rfl,k⟩
  ·exact .inl k
  ·refine .inr ⟨rfl,?_⟩;rcases h with h|⟨rfl,h⟩
   ·rcases k with k|⟨rfl,k⟩
    ·exact .inl (by omega)
    ·exact .inl h
   ·rcases k with k|⟨rfl,k⟩
    ·exact .inl k
    ·exact .inr ⟨rfl,qb h k⟩
theorem A3{a b:Text}(h:a≠b):bC a b<0\/bC b a<0:=by
 have h1:=xK a b;have h2:bC a b≠0:=fun e=>h (oZ e);omega
theorem DL(a b:bP)(aM:a≠b)(h:dC a b=false):dC b a=true:=by
 obtain⟨⟨an,at_⟩,ao⟩:=a;obtain⟨⟨bn,bt⟩,bo⟩:=b;simp only[dC,Bool.or_eq_true,Bool.and_eq_true,decide_eq_true_eq,Bool.or_eq_false_iff,Bool.and_eq_false_iff,decide_eq_false_iff_not]at *;by_cases e1:an=bn
 ·subst e1;refine .inr ⟨rfl,?_⟩;by_cases e2:at_=bt
  ·subst e2;refine .inr ⟨rfl,?_⟩;have IS:ao≠bo:=fun e=>aM (by rw[e]);rcases A3 IS with h2|h2
   ·exact absurd h2 (by
     rcases h.2 with h3|h3
     ·exact absurd rfl h3
     ·rcases h3.2 with h4|h4
      ·exact absurd rfl h4
      ·exact h4)
   ·exact h2
  ·rcases h.2 with h3|h3
   ·exact absurd rfl h3
   ·exact .inl (by omega)
 ·rcases A3 e1 with h2|h2
  ·exact absurd h2 h.1
  ·exact .inl h2
def er(ad:Text)(l:List Signed):List bP:=l.flatMap fun x=>if x.set.name=ad/\x.set.type=2 then x.set.data.map fun d=>⟨⟨ad,2⟩,d.text⟩else[]
def yd(a:iI):Text:=match a.ab with
 |s::_=>match s.set.data with
  |d::_=>d.text
  |[]=>[]
 |[]=>[]
def pg(s:Text)(a:iI):List bP:=if a.kind=3 then[⟨⟨s,3⟩,yd a⟩]else[]
def dz(l:List aH)(s:Text):Nat->Text->List Text × List bP
 |0,ad=>([ad],[])
 |n+1,ad=>match eB l ad with
  |none=>([ad],[])
  |some z =>
   if (bK z ⟨s,1⟩).kind=4 then
    (ad::(dz l s n (bK z ⟨s,1⟩).cut).1,er ad z.ab++(er (bK z ⟨s,1⟩).cut (bK z ⟨s,1⟩).ab++(dz l s n (bK z ⟨s,1⟩).cut).2))
   else([ad],er ad z.ab++pg s (bK z ⟨s,1⟩))
def lS(l:List aH)(s:Text):List bP:=(dz l s 64 [46]).2
def gI(l:List aH):nt:=fun s=>((dz l s 64 [46]).1,fH (lt:=dC) [] (lS l s))
theorem A4{l:List aH}{s:Text}{x:bP}:x∈(gI l s).2↔x∈lS l s:=by
 show x∈fH (lt:=dC) [] (lS l s)↔_;rw[DG];simp
theorem Zr{l:List aH}{s:Text}:(gI l s).2.Pairwise fun a b=>dC a b=true:=DH yc DL List.Pairwise.nil
theorem DM{ad:Text}{l:List Signed}{x:bP}:x∈er ad l↔x.bw=⟨ad,2⟩/\∃ s∈l,s.set.name=ad/\s.set.type=2/\∃ d∈s.set.data,d.text=x.other:=by
 rw[er,List.mem_flatMap];constructor
 ·rintro⟨s,hs,h⟩;split at h
  ·rename_i e;obtain⟨d,hd,rfl⟩:=List.mem_map.1 h;exact⟨rfl,s,hs,e.1,e.2,d,hd,rfl⟩
  ·simp at h
 ·rintro⟨h1,s,hs,e1,e2,d,hd,e3⟩;refine⟨s,hs,?_⟩;rw[if_pos ⟨e1,e2⟩];refine List.mem_map.2 ⟨d,hd,?_⟩;obtain⟨bw,other⟩:=x;simp only at h1 e3;rw[h1,e3]
end Go.Proofs.YtcmnpelmmekdkaaGreatDoor.P
end
section
namespace Go.Proofs.YtcmnpelmmekdkaaGreatDoor.P
open Go Go.aA
set_option maxRecDepth 100000
set_option maxHeartbeats 4000000
theorem Qk{α:Type}{l:List α}(hn:l.Nodup){i j:Nat}{a:α}(hi:l[i]?=some a)(hj:l[j]?=some a):i=j:=by
 obtain⟨p1,e1⟩:=List.getElem?_eq_some_iff.1 hi;obtain⟨p2,e2⟩:=List.getElem?_eq_some_iff.1 hj;have h:=List.pairwise_iff_getElem.1 (List.nodup_iff_pairwise_ne.1 hn);rcases Nat.lt_trichotomy i j with dA|dA|dA
 ·exact absurd (e1.trans e2.symm) (h i j p1 p2 dA)
 ·exact dA
 ·exact absurd (e2.trans e1.symm) (h j i p2 p1 dA)
theorem ZX(p:qm):eh E.T (TK.struct [(0,3),(1,9)]) (qm.en p):=⟨_,rfl,rfl,⟨_,rfl,_,rfl⟩,rfl,⟨_,rfl,_,rfl⟩,trivial⟩
def aH.spot(p:aH):qm:=(p.host,p.aC.ad)
theorem Ql{l:List aH}{k:Nat}{x:aH}(h:l[k]?=some x):(l.take (k+1)).map aH.spot=(l.take k).map aH.spot++[x.spot]:=by
 rw[ey h,List.map_append];rfl
theorem Qm{l:List aH}{i:Nat}{x:aH}(hx:l[i]?=some x)(h:x.spot∈(l.take i).map aH.spot):¬ (l.map aH.spot).Nodup:=fun hn=>by
 obtain⟨y,hy,e⟩:=List.mem_map.1 h;obtain⟨m,hm⟩:=List.getElem?_of_mem hy;rw[List.getElem?_take]at hm;split at hm
 ·rename_i zh;have h1:(l.map aH.spot)[i]?=some x.spot:=by simp[hx]
  have h2:(l.map aH.spot)[m]?=some x.spot:=by simp[hm,e]
  have:=Qk hn h1 h2;omega
 ·cases hm
theorem Qn{l:List aH}{i:Nat}{x:aH}(hx:l[i]?=some x)(h:((l.take i).map aH.spot).Nodup)(hn:x.spot ∉ (l.take i).map aH.spot):((l.take (i+1)).map aH.spot).Nodup:=by
 rw[Ql hx,List.nodup_append];exact⟨h,by simp,fun a ha b hb e=>by simp at hb;subst hb;subst e;exact hn ha⟩
theorem Qo{es:List (DV × DV)}(h:lQ qm.en es):∀ p∈es,eh E.T (TK.struct [(0,3),(1,9)]) p.1:=fun p hp=>by
 obtain⟨a,e⟩:=h p hp;rw[e];exact ZX a
theorem Qp{α:Type}[DecidableEq α]{en:α->DV}(hk:∀ a b,fc (en a) (en b)=decide (a=b)){b:α}{v:DV}:∀ {es:List (DV × DV)},lQ en es->(cx (en b) v es).length=es.length+(if (findD (en b) es).isSome then 0 else 1)
 |[],_=>by simp[cx,findD]
 |q::es,h=>by
  obtain⟨s,hs⟩:=h q (List.mem_cons_self ..);obtain⟨q1,q2⟩:=q;simp only at hs;subst hs;unfold cx;simp only[hk];by_cases e:b=s
  ·subst e;simp[findD,hk]
  ·have ih:=Qp hk (b:=b) (v:=v) (es:=es) (fun r hr=>h r (List.mem_cons_of_mem _ hr));simp only[e,decide_false,Bool.false_eq_true,if_false,findD,hk,List.length_cons,ih];omega
theorem Qq{α:Type}[DecidableEq α]{en:α->DV}(hk:∀ a b,fc (en a) (en b)=decide (a=b))(l:List α):∀ k,k<=l.length->(fZ en (l.take k)).length=(fO [] (l.take k)).length
 |0,_=>rfl
 |k+1,h=>by
  obtain⟨x,hx⟩:=bd (l:=l) (k:=k) (by omega);have ih:=Qq hk l k (by omega);rw[Pf hx,Ph hx,Qp hk (tD hk _).1,(Dv hk _ x).2,ih];by_cases hm:x∈l.take k
  ·simp[hm]
  ·simp[hm]
theorem ZY{l:List Host}{i k:Nat}{x y:Host}(hx:l[i]?=some x)(hy:l[k]?=some y)(hk:k<i)(e:y.addr=x.addr):jn l=false:=by
 have:¬ (l.map (·.addr)).Nodup:=fun hn=>by
  have h1:(l.map (·.addr))[i]?=some x.addr:=by simp[hx]
  have h2:(l.map (·.addr))[k]?=some x.addr:=by simp[hy,e]
  have:=Qk hn h1 h2;omega
 simp[jn,this]
theorem ZZ{l:List Int}{i:Nat}{x:Int}(h:(l.take i).Nodup)(hx:l[i]?=some x)(hn:∀ m y,m<i->l[m]?=some y->y≠x):(l.take (i+1)).Nodup:=by
 rw[ey hx,List.nodup_append];refine⟨h,by simp,fun a ha b hb e=>?_⟩;simp at hb;subst hb;subst e;obtain⟨m,hm⟩:=List.getElem?_of_mem ha;rw[List.getElem?_take]at hm;split at hm
 ·rename_i zh;exact hn m _ zh hm rfl
 ·cases hm
theorem Z1(l:List Host)(hn:∀ x∈l,x.name.length<=maxLen):az E 77 [.sl (l.map Host.enc)] (· = .bool (jn l)):=by
 refine eP F77 ?_;refine ar (fun h1=>?_) (fun h1=>?_)
 ·refine gO F77 ?_;have:jn l=false:=by simp[jn];simp at h1;omega
  rw[this]
 ·have hlen:l.length<=64:=by simp at h1;omega
  refine gO F77 ?_;refine aa.loop (κ:=Nat) (rg 2 5++rg 10 53) (fun k=>[(3,.d (.int .i64 k)),(2,.d (.bool false))]) (fun _=>[]) (fun k=>k<=l.length/\(l.take k).all mv=true/\((l.map (·.addr)).take k).Nodup) (fun k=>l.length-k) 0 ⟨Nat.zero_le _,rfl,by simp⟩ ?_ ?_
  ·exact sZ
  rintro i ⟨hi,aX,fE⟩ IH;refine aa.head ag F77 2000 ?_;(conv=>whnf);refine ar (fun h5=>?_) (fun h5=>?_)
  ·have ai:i<l.length:=by simpa using h5
   obtain⟨x,hx⟩:=bd ai;have bj:=hn x (List.mem_of_getElem? hx);refine gO F77 ?_;refine aD (e:=x.enc) (aU hx) rfl ?_;refine gO F77 ?_
   with_reducible refine aj (fU x.name bj) ?_
   refine gO F77 ?_;cases hv:Nm.valid x.name
   ·repeat' (first|with_reducible(first|refine cY ?_|refine cN ?_|refine ar (fun _=>?_) (fun _=>?_))|refine gA F77 ?_|refine gB ?_|refine gC ?_|with_reducible rfl)
    all_goals (rw[Ik hx (by simp[mv,hv])])
   ·have gd:x.name.length<=1000:=by have:=dF hv;omega
    repeat' (first|with_reducible(first|refine aj (Hc x.name gd) ?_|refine bl (Hc x.name gd) ?_|refine cY ?_|refine cN ?_|refine ar (fun _=>?_) (fun _=>?_))|refine gA F77 ?_|refine gB ?_|refine gC ?_|with_reducible rfl)
    all_goals try (rw[Ik hx (by(simp_all[mv,vO,ku]<;>omega))];done)
    have hb:mv x=true:=by(simp_all[mv,vO,ku]<;>omega)
    refine gO F77 ?_;refine aa.loop (κ:=Nat) ([2,6]++rg 50 13) (fun k=>[(6,.d (.int .i64 k)),(2,.d (.bool false))]) (fun _=>[]) (fun k=>k<=i/\∀ m y,m<k->l[m]?=some y->y.addr≠x.addr) (fun k=>i-k) 0 ⟨Nat.zero_le _,fun m y h=>by omega⟩ ?_ ?_
    ·exact sZ
    rintro k ⟨hk,aM⟩ xE;refine aa.head ag F77 2000 ?_;(conv=>whnf);refine ar (fun h6=>?_) (fun h6=>?_)
    ·have jK:k<i:=by simpa using h6
     obtain⟨y,hy⟩:=bd (l:=l) (k:=k) (by omega);refine gO F77 ?_;refine aa.draw ag bU 8 2000 (by kernel_rfl) ?_;(conv=>whnf);refine aD (e:=y.enc) (aU hy) rfl ?_;refine gD ?_;refine gS ?_;refine gO F77 ?_;refine ar (fun h7=>?_) (fun h7=>?_)
     ·refine gO F77 ?_;rw[ZY hx hy jK (by simpa using h7)]
     ·refine gO F77 ?_;refine aa.back (xE (k+1) ⟨by omega,fun m z hm hz=>?_⟩ (by omega)) ?_
      ·by_cases tE:m=k
       ·subst tE;rw[hy]at hz;cases hz;simpa using h7
       ·exact aM m z (by omega) hz
      ·exact sZ
    ·have Bb:i<=k:=by simpa using h6
     refine gO F77 ?_;refine aa.back (IH (i+1) ⟨by omega,jI aX hx hb,ZZ (x:=x.addr) fE (by simp[hx]) (fun m z hm hz=>?_)⟩ (by omega)) ?_
     ·simp only[List.getElem?_map,Option.map_eq_some_iff]at hz;obtain⟨y,hy,rfl⟩:=hz;exact aM m y (by omega) hy
     ·exact sZ
  ·have aL:l.length<=i:=by simpa using h5
   rw[List.take_of_length_le aL]at aX;rw[List.take_of_length_le (by simpa using aL)]at fE;refine gO F77 ?_;simp[jn,aX,fE,hlen]
theorem Z2(a:eM)(l:List Int)(hf:a.Fits)(hl:l.length<=1000000):az E 78 [a.enc,.sl (l.map (.int .i64))] (· = .bool (oe a l)):=by
 refine eP F78 ?_;refine aa.loop (κ:=Nat) ([4,5]++rg 7 18) (fun k=>[(5,.d (.int .i64 k)),(4,.d (.bool false))]) (fun _=>[]) (fun k=>k<=l.length/\(l.take k).all ku=true) (fun k=>l.length-k) 0 ⟨Nat.zero_le _,rfl⟩ ?_ ?_
 ·exact sZ
 rintro i ⟨hi,aX⟩ IH;refine aa.head ag F78 2000 ?_;(conv=>whnf);refine ar (fun h5=>?_) (fun h5=>?_)
 ·have ai:i<l.length:=by simpa using h5
  obtain⟨x,hx⟩:=bd ai;refine gO F78 ?_;repeat' (first|with_reducible(first|refine aD (aU hx) rfl ?_|refine cY ?_|refine cN ?_|refine ar (fun _=>?_) (fun _=>?_))|refine gA F78 ?_|refine gB ?_|refine gC ?_|with_reducible rfl)
  all_goals try (have dR:l.all ku=false:=iV hx (by(simp_all[ku]<;>omega));simp[oe,dR];done)
  refine gO F78 ?_;refine aa.back (IH (i+1) ⟨by omega,jI aX hx (by(simp_all[ku]<;>omega))⟩ (by omega)) ?_;exact sZ
 ·have aL:l.length<=i:=by simpa using h5
  rw[List.take_of_length_le aL]at aX;refine gO F78 ?_;repeat' (first|with_reducible(first|refine aj (CZ a hf) ?_|refine bl (CZ a hf) ?_|refine cY ?_|refine cN ?_|refine ar (fun _=>?_) (fun _=>?_))|refine gA F78 ?_|refine gB ?_|refine gC ?_|with_reducible rfl)
  all_goals try (simp_all[oe];done)
  all_goals
   rename_i e1 e2 e3 e4;have Z3:a.type=6:=by simpa using e2
   have Z4:a.name=[46]:=by simpa using e3
   by_cases hz:1<=l.length
   ·simp[oe,e1,Z3,Z4,aX,hz];try (simp at e4;omega)
    try omega
   ·first
     |(simp[oe,hz];done)
     |(exfalso;simp at e4;omega)
def tJ(out:List Text)(a:Text):List Text:=if a∈out then out else out.takeWhile (fun x=>decide (bC x a<0))++a::out.dropWhile (fun x=>decide (bC x a<0))
def yi(out:List Text):Prop:=out.Pairwise fun x y=>bC x y<0
def Bc(l:List Text):List Text:=l.foldl tJ []
theorem Z5{out:List Text}(a:Text)(h:yi out):yi (tJ out a):=by
 unfold tJ;split
 ·exact h
 ·rename_i dR;have hs:=h;unfold yi at h ⊢;rw[<- List.takeWhile_append_dropWhile (p:=fun x=>decide (bC x a<0)) (l:=out)]at h;rw[List.pairwise_append]at h;obtain⟨h1,h2,h3⟩:=h;rw[List.pairwise_append];have vH:∀ x∈out.takeWhile (fun x=>decide (bC x a<0)),bC x a<0:=fun x hx=>by simpa using Hs _ _ x hx
  have Z6:∀ x∈out.dropWhile (fun x=>decide (bC x a<0)),bC a x<0:=fun x hx=>by
   cases hd:out.dropWhile (fun x=>decide (bC x a<0))with
   |nil=>rw[hd]at hx;simp at hx
   |cons y r =>
    rw[hd]at hx h2;have hy:¬ bC y a<0:=by
     have:=List.head?_dropWhile_not (p:=fun x=>decide (bC x a<0)) out;rw[hd]at this
     simpa using this
    have Qr:bC a y<0:=by
     have e:=xK a y;rcases Int.lt_trichotomy (bC a y) 0 with q|q|q
     ·exact q
     ·have:=oZ q;subst this;have ie:a∈out:=by
       rw[<- List.takeWhile_append_dropWhile (p:=fun x=>decide (bC x a<0)) (l:=out),hd];simp
      exact absurd ie dR
     ·omega
    rcases List.mem_cons.1 hx with rfl|hx
    ·exact Qr
    ·exact qb Qr ((List.pairwise_cons.1 h2).1 x hx)
  refine⟨h1,List.pairwise_cons.2 ⟨Z6,h2⟩,fun x hx y hy=>?_⟩;rcases List.mem_cons.1 hy with rfl|hy
  ·exact vH x hx
  ·exact h3 x hx y hy
theorem Z7{out:List Text}{a x:Text}:x∈tJ out a↔x∈out\/x=a:=by
 unfold tJ;split
 ·rename_i h;constructor
  ·exact .inl
  ·rintro(h1|rfl)
   ·exact h1
   ·exact h
 ·have e:=List.takeWhile_append_dropWhile (p:=fun x=>decide (bC x a<0)) (l:=out);constructor
  ·intro hx;rw[<- e];simp only[List.mem_append,List.mem_cons]at hx ⊢;rcases hx with h|rfl|h
   ·exact .inl (.inl h)
   ·exact .inr rfl
   ·exact .inl (.inr h)
  ·intro hx;rw[<- e]at hx;simp only[List.mem_append,List.mem_cons]at hx ⊢;rcases hx with(h|h)|rfl
   ·exact .inl h
   ·exact .inr (.inr h)
   ·exact .inr (.inl rfl)
theorem Qs(l:List Text):yi (Bc l)/\∀ x,x∈Bc l↔x∈l:=by
 have main:∀ (l out:List Text),yi out->yi (l.foldl tJ out)/\∀ x,x∈l.foldl tJ out↔x∈out\/x∈l:=by
  intro l
  induction l with
  |nil=>intro out h;exact⟨h,by simp⟩
  |cons a l ih =>
   intro out h;have:=ih (tJ out a) (Z5 a h);refine⟨this.1,fun x=>?_⟩;rw[List.foldl_cons,this.2,Z7];simp[or_assoc]
 have:=main l [] List.Pairwise.nil;exact⟨this.1,fun x=>by rw[Bc,this.2];simp⟩
theorem Z8(l:List aH)(hl:l.length<=1000000):az E 80 [.sl (l.map aH.enc)] (· = .sl ((fO [] (l.map (·.aC.ad))).map .str)):=by
 refine eP F80 ?_;refine aa.l9 3 (9,1) (by decide) rfl ?_;(conv=>whnf);refine aa.loop (κ:=Nat) (rg 3 41) (fun k=>[(4,.d (.int .i64 k)),(3,.own 0 1)]) (fun k=>[(0,.arr 1 (9,1) ((fO [] ((l.map (·.aC.ad)).take k)).map .str))]) (fun k=>k<=l.length) (fun k=>l.length-k) 0 (Nat.zero_le _) ?_ ?_
 ·(conv=>whnf);repeat (first|exact trivial|(refine sI ?_;conv=>whnf))
  refine And.intro rfl ?_;exact sZ
 intro k hk IH;refine aa.head ag F80 2000 ?_;(conv=>whnf);refine ar (fun h5=>?_) (fun h5=>?_)
 ·have ai:k<l.length:=by simpa using h5
  obtain⟨c,hc⟩:=bd ai;have Z9:(l.map (·.aC.ad))[k]?=some c.aC.ad:=by simp[hc]
  have bj:=Ph Z9;have Z':=Im (l:=(l.map (·.aC.ad)).take k) (acc:=[]);have lB:c.aC.ad∈fO [] ((l.map (·.aC.ad)).take k)↔c.aC.ad∈(l.map (·.aC.ad)).take k:=by rw[AP];simp
  rw[List.length_take,List.length_map,List.length_nil]at Z';generalize fO [] ((l.map (·.aC.ad)).take k)=C at *;refine gO F80 ?_;refine aa.loop (κ:=Nat) ([5,6]++rg 13 20) (fun j=>[(6,.d (.int .i64 j)),(5,.d (.bool (decide (c.aC.ad∈C.take j))))]) (fun j=>[]) (fun j=>j<=C.length) (fun j=>C.length-j) 0 (Nat.zero_le _) ?_ ?_
  ·(conv=>whnf);repeat (first|exact trivial|(refine sI ?_;conv=>whnf))
   refine And.intro (by simp) ?_;exact sZ
  intro j hj JH;refine aa.head ag F80 2000 ?_;(conv=>whnf);refine ar (fun h6=>?_) (fun h6=>?_)
  ·have I5:j<C.length:=by simpa using h6
   obtain⟨t,ht⟩:=bd I5;have hb:0<=(j:Int)/\(j:Int)<((C.map DV.str).length:Int):=⟨by omega,by simp;omega⟩;have ie:(c.aC.ad∈C.take (j+1))↔(c.aC.ad∈C.take j\/t=c.aC.ad):=by rw[ey ht,List.mem_append];simp[eq_comm]
   refine gO F80 ?_;refine aa.draw ag bU 15 2000 (by kernel_rfl) ?_;(conv=>whnf);by_cases hm:c.aC.ad∈C.take j
   ·refine aJ (decide_eq_true hm) ?_;have e1:decide (c.aC.ad∈C.take (j+1))=true:=by simp[ie,hm]
    refine gD ?_;refine gS ?_;refine gO F80 ?_;refine aa.back (JH (j+1) (by omega) (by omega)) ?_;rw[e1];exact sZ
   ·refine aP (decide_eq_false hm) ?_;have e1:decide (c.aC.ad∈C.take (j+1))=(t==c.aC.ad):=by rw[Bool.eq_iff_iff];simp[ie,hm]
    refine gD ?_;refine bB hb ?_;refine gD ?_;refine aD (e := .str t) (aU ht) rfl ?_;refine gD ?_;refine aD (e:=c.enc) (aU hc) rfl ?_;refine gD ?_;refine gS ?_;refine gO F80 ?_;refine aa.back (JH (j+1) (by omega) (by omega)) ?_;rw[e1];exact sZ
  ·have aL:C.length<=j:=by simpa using h6
   rw[List.take_of_length_le aL];refine gO F80 ?_;by_cases hm:c.aC.ad∈C
   ·refine aP (by simp[hm]) ?_;refine gO F80 ?_;refine aa.back (IH (k+1) (by omega) (by omega)) ?_;rw[bj,if_pos (lB.1 hm)];exact sZ
   ·refine aJ (by simp[hm]) ?_;refine gO F80 ?_;refine aD (e:=c.enc) (aU hc) rfl ?_;refine gO F80 ?_;refine bB ⟨by simp;omega,by simp[DV.cells]⟩ ?_;refine gO F80 ?_;refine aa.back (IH (k+1) (by omega) (by omega)) ?_;rw[bj,if_neg (fun e=>hm (lB.2 e))];(conv=>whnf);repeat (first|exact trivial|(refine sI ?_;conv=>whnf))
    refine And.intro (by simp) ?_;exact sZ
 ·have aL:l.length<=k:=by simpa using h5
  rw[List.take_of_length_le (by simpa using aL)];refine gO F80 ?_
  with_reducible rfl
def kz(n:Nat)(p:aH):Bool:=decide (0<=p.host)&&decide (p.host<n)&&eF p.aC
def D0(l:List aH):Nat:=(fO [] (l.map (·.aC.ad))).length
def kZ(n:Nat)(l:List aH):Bool:=decide (l.length<=4000)&&l.all (kz n)&&decide ((l.map aH.spot).Nodup)&&decide (D0 l<=500)
def eI(w:cR):Bool:=jn w.cC&&kZ w.cC.length w.au&&oe w.anchor w.hints
theorem Qt{n:Nat}{l:List aH}:kZ n l=true↔l.length<=4000/\(∀ p∈l,kz n p=true)/\(l.map aH.spot).Nodup/\D0 l<=500:=by
 simp only[kZ,Bool.and_eq_true,decide_eq_true_eq,List.all_eq_true,and_assoc]
theorem Qu{w:cR}:eI w=true↔jn w.cC=true/\kZ w.cC.length w.au=true/\oe w.anchor w.hints=true:=by
 simp only[eI,Bool.and_eq_true,and_assoc]
def lU(x:Host):Bool := !(decide ((x.name.length:Int)>100))
def yj(a b c d:Nat):Bool:=decide (a<=20)&&decide (b<=70)&&decide (c<=20)&&decide (d<=20)
structure cR.Fits(w:cR):Prop where
 cC:∀ x∈w.cC,x.name.length<=maxLen
 anchor:w.anchor.Fits
 hints:w.hints.length<=maxLen
 au:∀ p∈w.au,p.aC.Fits
theorem yk{l:List aH}{n:Nat}(h:l.all (kz n)=false):kZ n l=false:=by simp[kZ,h]
theorem aad{l:List aH}{k:Nat}{x:aH}(h:l[k]?=some x):(l.take (k+1)).map (·.aC.ad)=(l.take k).map (·.aC.ad)++[x.aC.ad]:=by rw[ey h,List.map_append];rfl
theorem aae(l:List aH):(fZ DV.str (l.map (·.aC.ad))).length=D0 l:=by
 have:=Qq rV (l.map (·.aC.ad)) _ (Nat.le_refl _)
 rwa [List.take_length]at this
theorem Qw(cC:List Host)(l:List aH)(a:eM)(hints:List Int)(hz:∀ p∈l,p.aC.Fits):az E 70 [DV.agg [.sl (cC.map Host.enc),.sl (l.map aH.enc),.str a.name,.int .i64 a.type,.int .i64 a.jD,.sl (a.data.map Datum.enc),.sl (hints.map (.int .i64))]] (· = .bool (kZ cC.length l)):=by
 refine eP F70 ?_;refine ar (fun h1=>?_) (fun h1=>?_)
 ·refine gO F70 ?_;have:kZ cC.length l=false:=by simp[kZ];simp at h1;omega
  rw[this]
 have hlen:l.length<=4000:=by simp at h1;omega
 refine gO F70 ?_;refine gO F70 ?_;refine gO F70 ?_;refine aa.loop (κ:=Nat) ([2,6,7]++rg 17 39) (fun k=>[(17,.d (.int .i64 k)),(2,.d (.bool false)),(3,.map 1),(4,.map 2)]) (fun k=>[(1,.map (fZ qm.en ((l.take k).map aH.spot))),(2,.map (fZ DV.str ((l.take k).map (·.aC.ad))))]) (fun k=>k<=l.length/\(l.take k).all (kz cC.length)=true/\((l.take k).map aH.spot).Nodup) (fun k=>l.length-k) 0 ⟨Nat.zero_le _,rfl,by simp⟩ ?_ ?_
 ·(conv=>whnf);repeat (first|exact trivial|(refine sI ?_;conv=>whnf))
  refine And.intro rfl ?_;(conv=>whnf);repeat (first|exact trivial|(refine sI ?_;conv=>whnf))
  refine And.intro rfl ?_;exact sZ
 rintro i ⟨hi,aX,fE⟩ IH;refine aa.head ag F70 2000 ?_;(conv=>whnf);refine ar (fun h5=>?_) (fun h5=>?_)
 ·have ai:i<l.length:=by simpa using h5
  obtain⟨x,hx⟩:=bd ai;have r9:=hz x (List.mem_of_getElem? hx);have nk:=(tD Pk ((l.take i).map aH.spot)).1;have aaf:=(tD rV ((l.take i).map (·.aC.ad))).1;obtain⟨pF,Bd⟩:=Dv Pk ((l.take i).map aH.spot) x.spot;refine gO F70 ?_;refine aD (e:=x.enc) (aU hx) rfl ?_;refine gO F70 ?_;refine ar (fun h6=>?_) (fun h6=>?_)
  ·repeat' (first|with_reducible(first|refine cY ?_|refine cN ?_|refine ar (fun _=>?_) (fun _=>?_))|refine gA F70 ?_|refine gB ?_|refine gC ?_|with_reducible rfl)
   rw[yk (iV hx (by simp[kz];simp at h6;omega))]
  refine gO F70 ?_;refine ar (fun h7=>?_) (fun h7=>?_)
  ·repeat' (first|with_reducible(first|refine cY ?_|refine cN ?_|refine ar (fun _=>?_) (fun _=>?_))|refine gA F70 ?_|refine gB ?_|refine gC ?_|with_reducible rfl)
   rw[yk (iV hx (by simp[kz];simp at h7;omega))]
  refine gO F70 ?_;refine jx (.bool false) (.bool false) ⟨_,rfl,rfl,⟨_,rfl,_,rfl⟩,rfl,⟨_,rfl,_,rfl⟩,trivial⟩ (Qo nk) (fun w=>by kernel_rfl) (fun _ _ => .bool _) pF Bd ?_;refine gO F70 ?_;refine ar (fun h8=>?_) (fun h8=>?_)
  ·repeat' (first|with_reducible(first|refine cY ?_|refine cN ?_|refine ar (fun _=>?_) (fun _=>?_))|refine gA F70 ?_|refine gB ?_|refine gC ?_|with_reducible rfl)
   have:=Qm hx (by simpa using h8);simp[kZ,this]
  refine gO F70 ?_
  with_reducible refine aj (Hv x.aC r9) ?_
  refine gO F70 ?_;cases Be:eF x.aC
  ·repeat' (first|with_reducible(first|refine cY ?_|refine cN ?_|refine ar (fun _=>?_) (fun _=>?_))|refine gA F70 ?_|refine gB ?_|refine gC ?_|with_reducible rfl)
   rw[yk (iV hx (by simp[kz,Be]))]
  refine aV ?_;refine gO F70 ?_;have aO:kz cC.length x=true:=by simp[kz,Be];simp at h6 h7;omega
  refine bB ⟨⟨_,rfl,rfl,⟨_,rfl,_,rfl⟩,rfl,⟨_,rfl,_,rfl⟩,trivial⟩,Qo nk⟩ ?_;refine gO F70 ?_;refine bB ⟨⟨_,rfl⟩,aaf⟩ ?_;refine gO F70 ?_;refine aa.back (IH (i+1) ⟨by omega,jI aX hx aO,Qn hx fE (by simpa using h8)⟩ (by omega)) ?_;rw[Ql hx,AO,aad hx,AO];(conv=>whnf);repeat (first|exact trivial|(refine sI ?_;conv=>whnf))
  refine And.intro rfl ?_;exact sZ
 ·have aL:l.length<=i:=by simpa using h5
  rw[List.take_of_length_le aL]at aX fE ⊢;refine gO F70 ?_;refine gO F70 ?_;have:=aae l;rw[this];simp[kZ,aX,fE,hlen];omega
theorem D2(w:cR)(hf:w.Fits):az E 31 [w.enc] (· = .bool (eI w)):=by
 obtain⟨cC,au,anchor,hints⟩:=w;obtain⟨f1,f2,f3,f4⟩:=hf;simp only at f1 f2 f3 f4;show az E _ [DV.agg [.sl (cC.map Host.enc),.sl (au.map aH.enc),.str anchor.name,.int .i64 anchor.type,.int .i64 anchor.jD,.sl (anchor.data.map Datum.enc),.sl (hints.map (.int .i64))]] _;refine eP Tryz.func31 ?_;repeat' (first|with_reducible(first|refine aj (Pd cC f1) ?_|refine bl (Pd cC f1) ?_|refine aj (Qw cC au anchor hints f4) ?_|refine bl (Qw cC au anchor hints f4) ?_|refine aj (Pe anchor hints f2 f3) ?_|refine bl (Pe anchor hints f2 f3) ?_|refine cY ?_|refine cN ?_|refine ar (fun _=>?_) (fun _=>?_))|refine gA Tryz.func31 ?_|refine gB ?_|refine gC ?_|with_reducible rfl)
 all_goals simp_all[eI]
theorem aag(w:cR)(hf:w.Fits)(hh:w.hints.length<=1000000):az E 37 [w.enc] (· = .bool (eI w)):=by
 obtain⟨cC,l,anchor,hints⟩:=w;obtain⟨f1,f2,f3,hz⟩:=hf;simp only at f1 f2 f3 hz hh;show az E _ [DV.agg [.sl (cC.map Host.enc),.sl (l.map aH.enc),.str anchor.name,.int .i64 anchor.type,.int .i64 anchor.jD,.sl (anchor.data.map Datum.enc),.sl (hints.map (.int .i64))]] _;have hw:eI ⟨cC,l,anchor,hints⟩=(jn cC&&kZ cC.length l&&oe anchor hints):=rfl;rw[hw];refine eP F37 ?_
 with_reducible refine aj (Z1 cC f1) ?_
 refine gO F37 ?_;cases h1:jn cC
 ·repeat' (first|with_reducible(first|refine cY ?_|refine cN ?_|refine ar (fun _=>?_) (fun _=>?_))|refine gA F37 ?_|refine gB ?_|refine gC ?_|with_reducible rfl)
  all_goals simp
 refine aV ?_;refine gO F37 ?_;refine ar (fun h2=>?_) (fun h2=>?_)
 ·repeat' (first|with_reducible(first|refine cY ?_|refine cN ?_|refine ar (fun _=>?_) (fun _=>?_))|refine gA F37 ?_|refine gB ?_|refine gC ?_|with_reducible rfl)
  have:kZ cC.length l=false:=by simp[kZ];simp at h2;omega
  simp[this]
 have hlen:l.length<=4000:=by simp at h2;omega
 refine gO F37 ?_
 with_reducible refine aj (Z2 anchor hints f2 hh) ?_
 refine gO F37 ?_;cases h3:oe anchor hints
 ·repeat' (first|with_reducible(first|refine cY ?_|refine cN ?_|refine ar (fun _=>?_) (fun _=>?_))|refine gA F37 ?_|refine gB ?_|refine gC ?_|with_reducible rfl)
  all_goals simp
 refine aV ?_;refine gO F37 ?_;rw[Bool.true_and,Bool.and_true];refine aa.loop (κ:=Nat) (rg 2 5++rg 25 57) (fun k=>[(3,.d (.int .i64 k)),(2,.d (.bool false))]) (fun _=>[]) (fun k=>k<=l.length/\(l.take k).all (kz cC.length)=true/\((l.take k).map aH.spot).Nodup) (fun k=>l.length-k) 0 ⟨Nat.zero_le _,rfl,by simp⟩ ?_ ?_
 ·exact sZ
 rintro i ⟨hi,aX,fE⟩ IH;refine aa.head ag F37 2000 ?_;(conv=>whnf);refine ar (fun h5=>?_) (fun h5=>?_)
 ·have ai:i<l.length:=by simpa using h5
  obtain⟨x,hx⟩:=bd ai;have r9:=hz x (List.mem_of_getElem? hx);refine gO F37 ?_;refine aD (e:=x.enc) (aU hx) rfl ?_;refine gO F37 ?_
  with_reducible refine aj (Nx x.aC r9) ?_
  refine gO F37 ?_;cases Be:eF x.aC
  ·repeat' (first|with_reducible(first|refine cY ?_|refine cN ?_|refine ar (fun _=>?_) (fun _=>?_))|refine gA F37 ?_|refine gB ?_|refine gC ?_|with_reducible rfl)
   rw[yk (iV hx (by simp[kz,Be]))]
  refine aV ?_;refine gO F37 ?_;refine ar (fun h6=>?_) (fun h6=>?_)
  ·repeat' (first|with_reducible(first|refine cY ?_|refine cN ?_|refine ar (fun _=>?_) (fun _=>?_))|refine gA F37 ?_|refine gB ?_|refine gC ?_|with_reducible rfl)
   rw[yk (iV hx (by simp[kz];simp at h6;omega))]
  refine gO F37 ?_;refine ar (fun h7=>?_) (fun h7=>?_)
  ·repeat' (first|with_reducible(first|refine cY ?_|refine cN ?_|refine ar (fun _=>?_) (fun _=>?_))|refine gA F37 ?_|refine gB ?_|refine gC ?_|with_reducible rfl)
   rw[yk (iV hx (by simp[kz];simp at h7;omega))]
  have aO:kz cC.length x=true:=by simp[kz,Be];simp at h6 h7;omega
  refine gO F37 ?_;refine aa.loop (κ:=Nat) ([2,6]++rg 55 27) (fun k=>[(6,.d (.int .i64 k)),(2,.d (.bool false))]) (fun _=>[]) (fun k=>k<=i/\∀ m y,m<k->l[m]?=some y->y.spot≠x.spot) (fun k=>i-k) 0 ⟨Nat.zero_le _,fun m y h=>by omega⟩ ?_ ?_
  ·exact sZ
  rintro k ⟨hk,aM⟩ xE;refine aa.head ag F37 2000 ?_;(conv=>whnf);refine ar (fun h9=>?_) (fun h9=>?_)
  ·have jK:k<i:=by simpa using h9
   obtain⟨y,hy⟩:=bd (l:=l) (k:=k) (by omega);refine gO F37 ?_;refine aa.draw ag bU 22 2000 (by kernel_rfl) ?_;(conv=>whnf);refine aD (e:=y.enc) (aU hy) rfl ?_;refine gD ?_;refine ar (fun I6=>?_) (fun I6=>?_)
   ·have e1:y.host=x.host:=by simpa using I6
    refine gD ?_;refine aD (e:=y.enc) (aU hy) rfl ?_;refine gD ?_;refine gS ?_;refine gO F37 ?_;refine ar (fun I7=>?_) (fun I7=>?_)
    ·refine gO F37 ?_;have e2:y.aC.ad=x.aC.ad:=by simpa using I7
     have hm:x.spot∈(l.take i).map aH.spot:=List.mem_map.2 ⟨y,List.mem_of_getElem? (i:=k) (by rw[List.getElem?_take,if_pos jK];exact hy),by simp[aH.spot,e1,e2]⟩;have:=Qm hx hm;simp[kZ,this]
    ·have e2:y.aC.ad≠x.aC.ad:=by simpa using I7
     refine gO F37 ?_;refine aa.back (xE (k+1) ⟨by omega,fun m z hm iv=>?_⟩ (by omega)) ?_
     ·by_cases tE:m=k
      ·subst tE;rw[hy]at iv;cases iv;exact fun e=>e2 (congrArg Prod.snd e)
      ·exact aM m z (by omega) iv
     ·exact sZ
   ·have e1:y.host≠x.host:=by simpa using I6
    refine gD ?_;refine gS ?_;refine gO F37 ?_;refine aV ?_;refine gO F37 ?_;refine aa.back (xE (k+1) ⟨by omega,fun m z hm iv=>?_⟩ (by omega)) ?_
    ·by_cases tE:m=k
     ·subst tE;rw[hy]at iv;cases iv;exact fun e=>e1 (congrArg Prod.fst e)
     ·exact aM m z (by omega) iv
    ·exact sZ
  ·have Bb:i<=k:=by simpa using h9
   refine gO F37 ?_;refine aa.back (IH (i+1) ⟨by omega,jI aX hx aO,Qn hx fE (fun hm=>?_)⟩ (by omega)) ?_
   ·obtain⟨y,hy,e⟩:=List.mem_map.1 hm;obtain⟨m,hm⟩:=List.getElem?_of_mem hy;rw[List.getElem?_take]at hm;split at hm
    ·exact aM m y (by omega) hm e
    ·cases hm
   ·exact sZ
 ·have aL:l.length<=i:=by simpa using h5
  rw[List.take_of_length_le aL]at aX fE;refine gO F37 ?_
  with_reducible refine aj (Z8 l (by omega)) ?_
  refine gO F37 ?_;simp[kZ,aX,fE,hlen,D0];rw[Bool.eq_iff_iff];simp;exact⟨fun h=>decide_eq_true (by omega),fun h=>by have:=of_decide_eq_true h;omega⟩
end Go.Proofs.YtcmnpelmmekdkaaGreatDoor.P
end
section
namespace Go.aA
open Go Go.RowKit
section
variable {E:Env} {ops:Array Oper} {F:List Nat} {P:List af->Prop}
def dv(E:Env)(ops:Array Oper)(F:List Nat)(P:List af->Prop)(K:List AV->List af->Prop):Nat->List Oper->List AV->List af->Prop
 |_,[],s,h=>K s h
 |j,o::l,s,h=>match bW j F with
  |true=>∃ v,(∀ h',P h'->dB E ops o s h' v)/\dv E ops F P K (j+1) l (bM s o.dst v) h
  |false=>∃ v h',dm E ops o s h v h'/\P h'/\dv E ops F P K (j+1) l (bM s o.dst v) h'
structure PP(E:Env)(ops:Array Oper)(F:List Nat)(P:List af->Prop)(i0:Nat)(s:List AV)(pl:List (Oper × AV))(hp:Nat->List af):Prop where
 mf:∀ j o v,bW (i0+j) F=true->pl[j]?=some (o,v)->(∀ h',P h'->dB E ops o (cur pl (fun k=>decide (k<j)) 0 s) h' v)/\hp (j+1)=hp j
 tu:∀ j o v,bW (i0+j) F=false->pl[j]?=some (o,v)->dm E ops o (cur pl (fun k=>decide (k<j)) 0 s) (hp j) v (hp (j+1))
 hid:∀ j,j<=pl.length->P (hp j)
theorem dv.lay{K:List AV->List af->Prop}:∀ {l:List Oper} {i0:Nat} {s:List AV} {h:List af},P h->dv E ops F P K i0 l s h ->
  ∃ (pl:List (Oper × AV)) (hp:Nat->List af),pl.map (·.1)=l/\hp 0=h/\K (cur pl (fun k=>decide (k<pl.length)) 0 s) (hp pl.length)/\PP E ops F P i0 s pl hp
 |[],i0,s,h,hX,H=>⟨[],fun _=>h,rfl,rfl,H,⟨fun j o v _ hj=>by simp at hj,fun j o v _ hj=>by simp at hj,fun j _=>hX⟩⟩
 |o::l,i0,s,h,hX,H=>by
  simp only[dv]at H;have shift:∀ (pl:List (Oper × AV)) (n:Nat) (s:List AV),cur pl (fun k=>decide (k<n+1)) (0+1) s=cur pl (fun k=>decide (k<n)) 0 s:=fun pl n s=>by
   rw[xl 1]
   congr 1
   funext k;simp
  have build:∀ (v:AV) (h':List af),P h'->dv E ops F P K (i0+1) l (bM s o.dst v) h'->(bW i0 F=true->(∀ h',P h'->dB E ops o s h' v)/\h'=h)->(bW i0 F=false->dm E ops o s h v h') ->
    ∃ (pl:List (Oper × AV)) (hp:Nat->List af),pl.map (·.1)=o::l/\hp 0=h/\K (cur pl (fun k=>decide (k<pl.length)) 0 s) (hp pl.length)/\PP E ops F P i0 s pl hp:=by
   intro v h' AA H' f1 f2;obtain⟨pl,hp,k1,k2,k3,k4⟩:=dv.lay AA H';refine⟨(o,v)::pl,fun n=>match n with|0=>h|n+1=>hp n,by simp[k1],rfl,?_,⟨fun j o' v' hm hj=>?_,fun j o' v' hm hj=>?_,fun j hj=>?_⟩⟩
   ·rw[cur];simp only[List.length_cons,Nat.zero_lt_succ,decide_true,if_true];rw[shift];exact k3
   ·cases j with
    |zero =>
     simp at hj;obtain⟨rfl,rfl⟩:=hj;rw[kc _ _ _ _ (fun k _=>decide_eq_false (by omega))];obtain⟨g1,g2⟩:=f1 hm;exact⟨g1,k2.trans g2⟩
    |succ j =>
     have:=k4.mf j o' v' (by rwa [show i0+1+j=i0+(j+1) by omega]) (by simpa using hj);rw[cur];simp only[Nat.zero_lt_succ,decide_true,if_true];rw[shift];exact this
   ·cases j with
    |zero =>
     simp at hj;obtain⟨rfl,rfl⟩:=hj;rw[kc _ _ _ _ (fun k _=>decide_eq_false (by omega))];simp only[k2];exact f2 hm
    |succ j =>
     have:=k4.tu j o' v' (by rwa [show i0+1+j=i0+(j+1) by omega]) (by simpa using hj);rw[cur];simp only[Nat.zero_lt_succ,decide_true,if_true];rw[shift];exact this
   ·cases j with
    |zero=>exact hX
    |succ j=>exact k4.hid j (by simpa using hj)
  split at H
  ·rename_i q;obtain⟨v,h1,h2⟩:=H;exact build v h hX h2 (fun _=>⟨h1,rfl⟩) (fun e=>by rw[q]at e;cases e)
  ·rename_i q;obtain⟨v,h',h1,h2,h3⟩:=H;exact build v h' h2 h3 (fun e=>by rw[q]at e;cases e) (fun _=>h1)
theorem aat{J0:Nat}(hc:xS ops F J0){s0:List AV}{pl:List (Oper × AV)}{hp:Nat->List af}(ju:pl.map (·.1)=ops.toList)(hx  : PP E ops F P 0 s0 pl hp)
  {Q:Exit->Act->World->Prop} {Kf:List AV->List af->Prop} {c0:Cx} (fJ:Kf (cur pl (fun k=>decide (k<pl.length)) 0 s0) (hp ops.size))
  (hQ:∀ (a:Act) (c:Cx) (s:List AV) (h:List af),Kf s h->aE E.G c->c.heap=h->a.defers=[]->VS c s a.tmps->Step c0 c->Q .normal a c.w) :
  ∀ (f:Nat) (listed:Array Bool) (a:Act) (c:Cx) (J:Nat),J0<=J->J<=ops.size->aE E.G c->c.heap=hp J->a.defers=[]->VS c (cur pl (aR listed) 0 s0) a.tmps->Step c0 c->DC ops listed ->
   (∀ i,i<ops.size->i<J->bW i F=false->aR listed i=true)->(∀ i,J<=i->bW i F=false->aR listed i=false)->(∀ i,ops.size<=i->aR listed i=false)->ew (aR listed) ops.size<=f->wpAny E.P .any ops Q f listed a c.w:=by
 obtain⟨hlen,dH⟩:=rp ju;have same:∀ d J,J+d<=ops.size->(∀ i,J<=i->i<J+d->bW i F=true)->hp (J+d)=hp J:=by
  intro d
  induction d with
  |zero=>intro J _ _;rfl
  |succ d ih =>
   intro J hJ hm;have h1:=ih J (by omega) (fun i h1 h2=>hm i h1 (by omega));have ai:J+d<pl.length:=by omega
   have h2:=(hx.mf (J+d) (pl[J+d]).1 (pl[J+d]).2 (by rw[Nat.zero_add];exact hm (J+d) (by omega) (by omega)) (by simp[ai])).2;rw[show J+(d+1)=J+d+1 by omega,h2,h1]
 have pa:∀ i,bW i F=true\/bW i F=false:=fun i=>by cases bW i F<;>simp
 have done:∀ (listed:Array Bool) (a:Act) (c:Cx) (J:Nat),J<=ops.size->aE E.G c->c.heap=hp J->a.defers=[]->VS c (cur pl (aR listed) 0 s0) a.tmps->Step c0 c->(∀ i,J<=i->bW i F=false->aR listed i=false)->(∀ i,ops.size<=i->aR listed i=false)->(∀ i,i<ops.size->aR listed i=true)->Q .normal a c.w:=by
  intro listed a c J hJ h1 h2 h3 h4 h5 hn ho aX
  have hs:hp (J+(ops.size-J))=hp J:=same (ops.size-J) J (by omega) (fun i g1 g2=>by
   rcases pa i with h|h
   ·exact h
   ·have:=hn i g1 h;rw[aX i (by omega)]at this;cases this)
  rw[show J+(ops.size-J)=ops.size by omega]at hs;have e:cur pl (aR listed) 0 s0=cur pl (fun k=>decide (k<pl.length)) 0 s0:=by
   congr 1
   funext i;rcases Nat.lt_or_ge i ops.size with h|h
   ·rw[aX i h];simp[hlen,h]
   ·rw[ho i h];simp[hlen];omega
  rw[e]at h4;exact hQ a c _ _ fJ h1 (h2.trans hs.symm) h3 h4 h5
 intro f
 induction f with
 |zero =>
  intro listed a c J tv hJ h1 h2 h3 h4 h5 hd gU fw ho iR;have aX:∀ i,i<ops.size->aR listed i=true:=fun i hi=>zO iR hi;refine⟨?_,done listed a c J hJ h1 h2 h3 h4 h5 fw ho aX⟩;apply List.eq_nil_iff_forall_not_mem.2;intro i hi;obtain⟨k1,k2⟩:=mV hd hi;rw[aX i k2]at k1;cases k1
 |succ f ih =>
  intro listed a c J tv hJ h1 h2 h3 h4 h5 hd gU fw ho iR;refine⟨fun hr=>?_,fun i hi=>?_⟩
  ·refine done listed a c J hJ h1 h2 h3 h4 h5 fw ho (fun i hi=>?_);cases hl:aR listed i with
   |true=>rfl
   |false =>
    obtain⟨k,-,hk⟩:=vc hc.pO hd hi hl;rw[hr]at hk;cases hk
  obtain⟨dE,dX⟩:=mV hd hi;obtain⟨⟨o,v⟩,dj⟩:∃ p,pl[i]?=some p:=⟨pl[i]'(by omega),by rw[List.getElem?_eq_getElem]⟩;have ef:=dH i o v dj;obtain⟨lJ,kN⟩:=xk hc.pair dH hd hi dj h4;have bT:i<listed.size:=by rw[hd.1];exact dX
  have cP:=fun q=>sS (i:=q) bT;have mg:ew (aR (listed.setIfInBounds i true)) ops.size<=f:=by
   have:=(ve (L:=aR listed) (L':=aR (listed.setIfInBounds i true)) (j:=i) (fun q hq=>by rw[cP];simp[hq]) dE (by rw[cP];simp) ops.size).1 dX;omega
  have mW:∀ u:Value,(a.put o.dst u).defers=[]:=fun u=>by cases iz:o.dst<;>simp[Act.put,h3]
  have cV:∀ q,ops.size<=q->aR (listed.setIfInBounds i true) q=false:=fun q hq=>by rw[cP,ho q hq];simp;omega
  rcases pa i with hm|hm
  ·have rm:=(hx.mf i o v (by rw[Nat.zero_add];exact hm) dj).1 (hp J) (hx.hid J (by omega));refine rm c a h1 h2 h3 kN i ef _ _ (fun c' u k1 k2 k3 k4=>?_);refine ih _ _ c' J tv hJ k1 k2 (mW u) (lJ c' u (fun _ _=>k3.vr) k4) (h5.trans k3) (hd.set hi) (fun q hq oO eO=>by rw[cP,gU q hq oO eO];simp) (fun q hq eO=>?_) cV mg;rw[cP,fw q hq eO];have:q≠i:=fun e=>by subst e;rw[hm]at eO;cases eO
   simp[this]
  ·have aL:J<=i:=by
    rcases Nat.lt_or_ge i J with h|h
    ·have:=gU i dX h hm;rw[dE]at this;cases this
    ·exact h
   have tw:∀ q,J<=q->q<i->bW q F=true:=fun q g1 g2=>by
    rcases pa q with h|h
    ·exact h
    ·have ai:q<ops.size:=by omega
     have h6:=hd.ready hi (hc.spine q i ops[q] o (by omega) g2 (by simp[ai]) ef h hm);rw[fw q g1 h]at h6;cases h6
   have hs:hp (J+(i-J))=hp J:=same (i-J) J (by omega) (fun q g1 g2=>tw q g1 (by omega));rw[show J+(i-J)=i by omega]at hs;refine(hx.tu i o v (by rw[Nat.zero_add];exact hm) dj) c a h1 (h2.trans hs.symm) h3 kN i ef _ _ (fun c' u k1 k2 k3 k4=>?_);refine ih _ _ c' (i+1) (by omega) (by omega) k1 k2 (mW u) (lJ c' u (fun _ _=>k3.vr) k4) (h5.trans k3) (hd.set hi) (fun q hq oO eO=>?_) (fun q hq eO=>by rw[cP,fw q (by omega) eO];simp;omega) cV mg;by_cases mh:q=i
   ·subst mh;rw[cP];simp
   ·rcases Nat.lt_or_ge q J with h|h
    ·rw[cP,gU q hq h eO];simp
    ·have:=tw q h (by omega);rw[eO]at this;cases this
end
section
variable {E:Env} {ae:FuncId} {R:bZ} {ops:Array Oper} {k:List aI} {F:List Nat} {P:List af->Prop} {lits:List Nat} {s:List AV} {h:List af}
theorem Ja:∀ {l:List Oper} {j:Nat} {s:List AV} {h:List af},dv E ops F P (fun s2 h2=>aa E ae R [] k s2 h2) j l s h->dv E ops F P (fun s2 h2=>AW E R.fx.f0 ⟨⟨ae,R.fx.cG,R.fx.aN⟩,k,s2⟩ R.fx.cls h2 R) j l s h
 |[],_,_,_,H=>aa.to H
 |o::l,j,s,h,H=>by
  unfold dv at H ⊢;split at H
  ·obtain⟨v,h1,h2⟩:=H;exact⟨v,h1,Ja h2⟩
  ·obtain⟨v,h',h1,h2,h3⟩:=H;exact⟨v,h',h1,h2,Ja h3⟩
theorem aa.QI(hE:E.OK)(hm:E.P.follows .mixedOrders=true)(F:List Nat)(P:List af->Prop){id:Nat}(kf:Dm ops F=true)(h0:P h)
  (H:dv E ops F P (fun s2 h2=>aa E ae R [] k s2 h2) 0 ops.toList s h) (dM:R.fx.cG=none:=by rfl) (dK:R.fx.aN=[]:=by rfl):aa E ae R lits (.code (.region id ops true)::k) s h:=by
 obtain⟨pl,hp,p1,p2,p3,p4⟩:=dv.lay (E:=E) (ops:=ops) (F:=F) h0 (Ja H);obtain⟨hlen,dH⟩:=rp p1;refine .of (AW.zR hm dM dK fun c t Q hQ h1 h2 h4=>?_);rw[hlen]at p3;refine aat (HE kf) p1 p4 (Kf:=fun s2 h2=>AW E R.fx.f0 ⟨⟨ae,R.fx.cG,R.fx.aN⟩,k,s2⟩ R.fx.cls h2 R) (by rw[hlen];exact p3) hQ ops.size _ ⟨t,[]⟩ c 0 (Nat.le_refl _) (Nat.zero_le _) h1 (h2.trans p2.symm) rfl ?_ (Step.refl c h1.bE) ⟨by simp,fun j o e _ hl=>by rw[kP]at hl;cases hl⟩ (fun i _ hi=>by omega) (fun i _ _=>kP _ i) (fun i _=>kP _ i) (CC _ _);rw[kc _ 0 s _ (fun i _=>kP _ _)];exact h4
theorem aZ.run(hE:E.OK){o:Op}{v:AV}{h':List af}(H:fo E.T E.G o s h (oE E o s h (gu E o s h False fun v2 h2=>v2=v/\h2=h') fun v2 h2=>v2=v/\h2=h') fun v2 h2=>v2=v/\h2=h'):aZ E o s h v h':=by
 rcases uh hE H with H|⟨v2,h2,⟨rfl,rfl⟩,ho⟩
 ·rcases zb hE H with H|⟨v2,h2,⟨rfl,rfl⟩,ho⟩
  ·rcases uH hE H with H|⟨v2,h2,⟨rfl,rfl⟩,ho⟩
   ·exact H.elim
   ·exact ho
  ·exact ho
 ·exact ho
theorem dv.float{K:List AV->List af->Prop}{j:Nat}{o:Oper}{l:List Oper}(v:AV)(hF:bW j F=true)(hg:o.guard=none)(hf:∀ h',P h'->aZ E o.op (bY (ca ops o) 0 s) h' v h')(H:dv E ops F P K (j+1) l (bM s o.dst v) h):dv E ops F P K j (o::l) s h:=by
 unfold dv;rw[hF];exact⟨v,fun h' hp=>dB.of (eK hg) (hf h' hp),H⟩
theorem dv.op{K:List AV->List af->Prop}{j:Nat}{o:Oper}{l:List Oper}(v:AV)(h':List af)(hF:bW j F=false)(hg:o.guard=none)(hf:aZ E o.op (bY (ca ops o) 0 s) h v h')(hP:P h')(H:dv E ops F P K (j+1) l (bM s o.dst v) h'):dv E ops F P K j (o::l) s h:=by
 unfold dv;rw[hF];exact⟨v,h',dm.of (eK hg) hf,hP,H⟩
theorem dv.fin{K:List AV->List af->Prop}{j:Nat}(H:K s h):dv E ops F P K j [] s h:=H
end
section
variable {E:Env} {s:List AV} {h:List af}
theorem aau {P : Program} {T : List bD} (hT : ∀ (t : Nat) (i : bD), T[t]? = some i -> eR P t = some i) {fl : List Field} {l m : List DV} {p : Bool} (H : lA T 0 (fl.map fun f => (f.offset, f.type)) l m False (· = p)) (hn : ∀ f ∈ fl, f.name ≠ "_")
  (bad:Nat->Prop) (w w':World) (xs ys:List Value) (d:Nat) (hx:∀ (j:Nat) (x:DV),l[j]?=some x->∃ u,xs[j]?=some u/\VD bad w x u) (hy:∀ (j:Nat) (x:DV),m[j]?=some x->∃ u,ys[j]?=some u/\VD bad w x u):(Op.eqFields (d+1) xs.toArray ys.toArray fl).run P w'=.ok p w':=by
 rcases Fi hT H hn with h|⟨q,rfl,hq⟩
 ·exact h.elim
 ·exact hq bad w w' xs ys d (by simpa using hx) (by simpa using hy)
theorem aav(hE:E.OK){op:BinOp}{t t1 t2:Nat}{t':TypeId}{x y:Operand}{i i1 i2:bD}(hi:E.T[t]?=some i)(jd:E.T[t1]?=some i1)(lK:E.T[t2]?=some i2)(hQ:pt E.P t=true)(Jb:pt E.P t1=true){Bk:List (Nat × Nat)}(hk:i.k=.struct [(0,t1),(i1.size,t2)])(ea:i1.k=.struct Bk)
  {l1 m1:List DV} {l2 m2:DV} (iL:l1.length=i1.size) (pS:m1.length=i1.size) (hx:bh E.G s x (.d (.agg (l1++[l2])))) (hy:bh E.G s y (.d (.agg (m1++[m2])))) {p q:Bool} (H1:lA E.T 0 Bk l1 m1 False (· = p)) (H2:pE i2.k l2 m2 False (· = q)) (bX:op=.eql) :
  aZ E (.binOp op t x y t') s h (.d (.bool (p&&q))) h:=by
 obtain⟨ti,d,g1,g2,g3,-⟩:=cM (hE.types t i hi);obtain⟨fl,rfl,gj⟩:=ou (hk.symm.trans g3);obtain⟨Kj,d1,k1,k2,k3,-⟩:=cM (hE.types t1 i1 jd);obtain⟨fl1,rfl,rfl⟩:=ou (ea.symm.trans k3);have hq:=hQ;simp only[pt,g2,Bool.and_eq_true,Bool.not_eq_true',List.all_eq_true,bne_iff_ne,ne_eq]at hq;obtain⟨⟨q1,q2⟩,q3⟩:=hq;have Dl:=Jb;simp only[pt,k2,Bool.and_eq_true,Bool.not_eq_true',List.all_eq_true,bne_iff_ne,ne_eq]at Dl;obtain⟨⟨p1,p2⟩,p3⟩:=Dl;have gR:E.P.fieldsOf t=fl:=by simp[Program.fieldsOf,g2]
 have QJ:E.P.fieldsOf t1=fl1:=by simp[Program.fieldsOf,k2]
 rcases Kv (hE.types t2 i2 lK) H2 with H|⟨q',rfl,fp,hp2⟩
 ·exact H.elim
 obtain⟨f1,f2,sF⟩:∃ f1 f2,fl.toList=[f1,f2]:=by
  have hlen:=congrArg List.length gj;rw[List.length_map]at hlen;generalize fl.toList=L at hlen
  match L,hlen with
  |[a,b],_=>exact⟨a,b,rfl⟩
 rw[sF]at gj;simp only[List.map_cons,List.map_nil,List.cons.injEq,Prod.mk.injEq,and_true]at gj;obtain⟨⟨o1,o2⟩,o3,o4⟩:=gj;have val:∀ (c:Cx) (ac:Act),aE E.G c->VS c s ac.tmps->∃ xs ys:List Value,ac.eval x=.agg xs.toArray/\ac.eval y=.agg ys.toArray/\(Op.equalIn 10000 t (.agg xs.toArray) (.agg ys.toArray)).run E.P c.w=.ok (p&&q') c.w:=by
  intro c ac h3 h4;have eS:=hx c ac h3 h4;have gq:=hy c ac h3 h4;generalize ac.eval x=u at eS;generalize ac.eval y=v at gq;cases eS with
  |d _ _ eS=>cases eS with
   |agg _ xs x1 x2=>cases gq with
    |d _ _ gq=>cases gq with
     |agg _ ys y1 y2 =>
      refine⟨xs.toList,ys.toList,by simp,by simp,?_⟩;have ax:∀ (j:Nat) (z:DV),(l1++[l2])[j]?=some z->∃ u,xs.toList[j]?=some u/\VD c.bad c.w z u:=fun j z hz=>by
       have hj:=a7 hz;rw[x1]at hj;exact⟨xs[j],by simp[hj],x2 j z _ hz (by simp[hj])⟩
      have ay:∀ (j:Nat) (z:DV),(m1++[m2])[j]?=some z->∃ u,ys.toList[j]?=some u/\VD c.bad c.w z u:=fun j z hz=>by
       have hj:=a7 hz;rw[y1]at hj;exact⟨ys[j],by simp[hj],y2 j z _ hz (by simp[hj])⟩
      obtain⟨u2,u2a,u2b⟩:=ax i1.size l2 (by rw[<- iL];simp);obtain⟨v2,v2a,v2b⟩:=ay i1.size m2 (by rw[<- pS];simp);have QK:i1.k.agg=true:=by rw[ea];rfl
      have aaC : f1.name ≠ "_" := q3 f1 (by rw [sF]; simp);have IS : f2.name ≠ "_" := q3 f2 (by rw [sF]; simp)
      have e1:=aau hE.types H1 p3 c.bad c.w c.w ((xs.toList.drop 0).take i1.size) ((ys.toList.drop 0).take i1.size) 9997 (fun j z hz=>by
       have hj:=a7 hz;obtain⟨u,ua,ub⟩:=ax j z (by rw[List.getElem?_append_left hj];exact hz);exact⟨u,by rw[List.getElem?_take,if_pos (by omega),List.drop_zero];exact ua,ub⟩) (fun j z hz=>by
       have hj:=a7 hz;obtain⟨u,ua,ub⟩:=ay j z (by rw[List.getElem?_append_left hj];exact hz)
       exact⟨u,by rw[List.getElem?_take,if_pos (by omega),List.drop_zero];exact ua,ub⟩)
      have e2:(Op.equalIn 9999 t1 (.agg ((xs.toList.drop 0).take i1.size).toArray) (.agg ((ys.toList.drop 0).take i1.size).toArray)).run E.P c.w=.ok p c.w:=by
       rw[run_equalIn_struct c.w 9998 t1 _ _ (by rw[QJ];exact k2) p1,QJ];exact e1
      rw[run_equalIn_struct c.w 9999 t _ _ (by rw[gR];exact g2) q1,gR,sF];simp only[Op.eqFields,ne_eq,aaC,IS,not_false_eq_true,if_true,Sem.run_bind];rw[<- o1,<- o2,<- o3,<- o4,EM (hE.types t1 i1 jd) c.w xs.toList 0 QK,Result.andThen_ok,EM (hE.types t1 i1 jd) c.w ys.toList 0 QK,Result.andThen_ok,e2,Result.andThen_ok];cases p with
      |false=>simp
      |true =>
       simp only[Bool.not_true,Bool.false_eq_true,if_false,Bool.true_and,Sem.run_bind];rw[wB (hE.types t2 i2 lK) c.w xs.toList i1.size u2 u2a fp,Result.andThen_ok,wB (hE.types t2 i2 lK) c.w ys.toList i1.size v2 v2a fp,Result.andThen_ok,hp2 c.bad c.w c.w u2 v2 9998 u2b v2b,Result.andThen_ok];cases q'<;>simp
 have guard:∀ (op:BinOp) (xs ys:Array Value) (w:World),(eqGuard op t x y (.agg xs) (.agg ys)).run E.P w=.ok () w:=fun op xs ys w=>run_eqGuard_agg w op t x y xs ys q2;subst bX;refine .quiet fun o c ac h1 _ h3 h4=>⟨.bool (p&&q'),?_,.d _ _ (.bool _)⟩;obtain⟨xs,ys,e1,e2,e3⟩:=val c ac h3 h4;simp only[execOp,h1,e1,e2,Sem.run_bind,guard,Result.andThen_ok,run_eql_struct,e3,Sem.run_pure]
variable {ae:FuncId} {R:bZ} {ops:Array Oper} {o:Oper} {l:List Oper} {k:List aI} {lits:List Nat}
theorem cI.op{v:AV}{h':List af}(hg:o.guard=none)(ho:aZ E o.op (bY (ca ops o) 0 s) h v h')(hn:∀ t,o.op ≠ .alloc t)(H:bL s o.dst v fun s'=>cI E ae R ops k lits l s' h'):cI E ae R ops k lits (o::l) s h:=by
 rw[df]at H;have H:=H.to;unfold cI;exact⟨v,h',dm.of (eK hg) ho,fun t e=>absurd e (hn t),H⟩
theorem cI.aaD(hE:E.OK){t t1 t2 n:Nat}{t':TypeId}{x y:Operand}{i i1 i2:bD}{Bk:List (Nat × Nat)}{l1 m1:List DV}{l2 m2:DV}{p q:Bool}(hg:o.guard=none)(bX:o.op=.binOp .eql t x y t')(hi:E.T[t]?=some i)(hk:i.k=.struct [(0,t1),(n,t2)])(jd:E.T[t1]?=some i1)(hn:i1.size=n)(lK:E.T[t2]?=some i2)(ea:i1.k=.struct Bk)(hQ:pt E.P t=true)(Jb:pt E.P t1=true)
  (hx:bh E.G (bY (ca ops o) 0 s) x (.d (.agg (l1++[l2])))) (hy:bh E.G (bY (ca ops o) 0 s) y (.d (.agg (m1++[m2])))) (iL:l1.length=n) (pS:m1.length=n) (H1:lA E.T 0 Bk l1 m1 False (· = p)) (H2:pE i2.k l2 m2 False (· = q)) (H:bL s o.dst (.d (.bool (p&&q))) fun s'=>cI E ae R ops k lits l s' h):cI E ae R ops k lits (o::l) s h :=
 by subst hn;exact cI.op hg (bX ▸ aav hE hi jd lK hQ Jb hk ea iL pS hx hy H1 H2 rfl) (fun t e=>by rw[bX]at e;cases e) H
end
section
variable {E:Env} {s:List AV} {h:List af}
theorem aa.aaO(hE:E.OK){ae:FuncId}{R:bZ}{ops:Array Oper}{td:List aI}{lits:List Nat}{o:Oper}{r:List Oper}{args:Array Operand}{kF:Array TypeId}{x y:Operand}{t0 t1 e e1 b g:Nat}{i0 i1 ei:bD}{ts:Nat × Nat}{l:List DV}(hg:o.guard=none)
  (bX:o.op=.call { callee := .builtin .append,args:=args,argTypes:=kF }) (hx:args.toList=[x,y]) (pD:kF.toList=[t0,t1]) (fQ:E.T[t0]?=some i0) (jd:E.T[t1]?=some i1) (dh:i0.k=.slice e) (ea:i1.k=.slice e1) (cd:E.T[e]?=some ei)
  (hz:ei.zero.length=ei.size) (cD:Nat.blt 0 ei.size=true) (jc:Nat.ble ei.bytes 65536=true) (vV:ts.1=e) (oC:ts.2=ei.size) (ha:bh E.G s x (.own b g)) (hy:bh E.G s y (.d .aW)) (hb:h[b]?=some (.arr g ts l)) (lp:l.length<=2147483648)
  (H:fI h b (.arr (g+1) ts l) fun h'=>bL s o.dst (.own b (g+1)) fun s'=>aa E ae R lits (.bF ops r::td) s' h'):aa E ae R lits (.bF ops (o::r)::td) s h:=by
 rw[gJ,df]at H;have Bj:=ix cD;have gq:bh E.G s y (.d (.sl [])):=fun c ac h3 h4=>by
  have hv:=hy c ac h3 h4;generalize ac.eval y=u at hv ⊢;cases hv with
  |d _ _ hv=>cases hv with
   |aW=>exact .d _ _ .slnil
 have ho:=E8 (h:=h) (s:=s) hE hx pD fQ jd dh (fun k e=>by rw[ea]at e;cases e) cd hz Bj (Nat.le_of_ble_eq_true jc) gq (m:=[]) (by simp) (fun c v hv=>by cases hv with|d _ _ hv=>exact BS Bj (by simp) hv) ha (r := .own b (g+1)) (h':=h.set b (.arr (g+1) ts (l++[]))) (.inl ⟨b,g,ts,l,rfl,hb,vV,oC,by simpa using lp,rfl,rfl⟩);rw[List.append_nil]at ho;exact .of (.op (eK hg) (bX ▸ ho) H.to)
end
end Go.aA
end
section
namespace Go.aA
open Go Go.RowKit
section
variable {E:Env} {ops:Array Oper} {F:List Nat} {P:List af->Prop}
def Ji(ops:Array Oper)(F:List Nat):Bool :=
 Nat.blt 0 ops.size && !bW (ops.size-1) F&&(List.range (ops.size-1)).all fun i=>((bits ops.toList []).getD (ops.size-1) 0).testBit i
theorem Jj(h:Ji ops F=true):0<ops.size/\bW (ops.size-1) F=false/\∀ i,i<ops.size-1->kL ops i (ops.size-1):=by
 simp only[Ji,Bool.and_eq_true,Bool.not_eq_true']at h;obtain⟨⟨h1,h2⟩,h3⟩:=h;exact⟨sD h1,h2,fun i hi=>zK ops ops.toList [] rfl (fun j i h=>by simp at h) _ i (List.all_eq_true.1 h3 i (List.mem_range.2 hi))⟩
def dP(E:Env)(ops:Array Oper)(F:List Nat)(P:List af->Prop)(K:List AV->List af->Prop):Nat->List Oper->List AV->List af->Prop
 |_,[],s,h=>K s h
 |j,o::l,s,h=>match bW j F with
  |true=>∃ v,(∀ h',P h'->dB E ops o s h' v)/\dP E ops F P K (j+1) l (bM s o.dst v) h
  |false=>∃ v h',dm E ops o s h v h'/\(l=[]\/P h')/\dP E ops F P K (j+1) l (bM s o.dst v) h'
structure LP(E:Env)(ops:Array Oper)(F:List Nat)(P:List af->Prop)(i0:Nat)(s:List AV)(pl:List (Oper × AV))(hp:Nat->List af):Prop where
 mf:∀ j o v,bW (i0+j) F=true->pl[j]?=some (o,v)->(∀ h',P h'->dB E ops o (cur pl (fun k=>decide (k<j)) 0 s) h' v)/\hp (j+1)=hp j
 tu:∀ j o v,bW (i0+j) F=false->pl[j]?=some (o,v)->dm E ops o (cur pl (fun k=>decide (k<j)) 0 s) (hp j) v (hp (j+1))
 hid:∀ j,j<pl.length->P (hp j)
theorem dP.lay{K:List AV->List af->Prop}:∀ {l:List Oper} {i0:Nat} {s:List AV} {h:List af},(l=[]\/P h)->dP E ops F P K i0 l s h ->
  ∃ (pl:List (Oper × AV)) (hp:Nat->List af),pl.map (·.1)=l/\hp 0=h/\K (cur pl (fun k=>decide (k<pl.length)) 0 s) (hp pl.length)/\LP E ops F P i0 s pl hp
 |[],i0,s,h,hX,H=>⟨[],fun _=>h,rfl,rfl,H,⟨fun j o v _ hj=>by simp at hj,fun j o v _ hj=>by simp at hj,fun j hj=>by simp at hj⟩⟩
 |o::l,i0,s,h,hX,H=>by
  simp only[dP]at H;have shift:∀ (pl:List (Oper × AV)) (n:Nat) (s:List AV),cur pl (fun k=>decide (k<n+1)) (0+1) s=cur pl (fun k=>decide (k<n)) 0 s:=fun pl n s=>by
   rw[xl 1]
   congr 1
   funext k;simp
  have build:∀ (v:AV) (h':List af),(l=[]\/P h')->dP E ops F P K (i0+1) l (bM s o.dst v) h'->(bW i0 F=true->(∀ h',P h'->dB E ops o s h' v)/\h'=h)->(bW i0 F=false->dm E ops o s h v h') ->
    ∃ (pl:List (Oper × AV)) (hp:Nat->List af),pl.map (·.1)=o::l/\hp 0=h/\K (cur pl (fun k=>decide (k<pl.length)) 0 s) (hp pl.length)/\LP E ops F P i0 s pl hp:=by
   intro v h' AA H' f1 f2;obtain⟨pl,hp,k1,k2,k3,k4⟩:=dP.lay AA H';refine⟨(o,v)::pl,fun n=>match n with|0=>h|n+1=>hp n,by simp[k1],rfl,?_,⟨fun j o' v' hm hj=>?_,fun j o' v' hm hj=>?_,fun j hj=>?_⟩⟩
   ·rw[cur];simp only[List.length_cons,Nat.zero_lt_succ,decide_true,if_true];rw[shift];exact k3
   ·cases j with
    |zero =>
     simp at hj;obtain⟨rfl,rfl⟩:=hj;rw[kc _ _ _ _ (fun k _=>decide_eq_false (by omega))];obtain⟨g1,g2⟩:=f1 hm;exact⟨g1,k2.trans g2⟩
    |succ j =>
     have:=k4.mf j o' v' (by rwa [show i0+1+j=i0+(j+1) by omega]) (by simpa using hj);rw[cur];simp only[Nat.zero_lt_succ,decide_true,if_true];rw[shift];exact this
   ·cases j with
    |zero =>
     simp at hj;obtain⟨rfl,rfl⟩:=hj;rw[kc _ _ _ _ (fun k _=>decide_eq_false (by omega))];simp only[k2];exact f2 hm
    |succ j =>
     have:=k4.tu j o' v' (by rwa [show i0+1+j=i0+(j+1) by omega]) (by simpa using hj);rw[cur];simp only[Nat.zero_lt_succ,decide_true,if_true];rw[shift];exact this
   ·cases j with
    |zero=>exact hX.resolve_left (by simp)
    |succ j=>exact k4.hid j (by simpa using hj)
  split at H
  ·rename_i q;obtain⟨v,h1,h2⟩:=H;exact build v h (.inr (hX.resolve_left (by simp))) h2 (fun _=>⟨h1,rfl⟩) (fun e=>by rw[q]at e;cases e)
  ·rename_i q;obtain⟨v,h',h1,h2,h3⟩:=H;exact build v h' h2 h3 (fun e=>by rw[q]at e;cases e) (fun _=>h1)
theorem aaZ{J0:Nat}(hc:xS ops F J0)(jB:0<ops.size)(Jk:bW (ops.size-1) F=false)(aa0:∀ i,i<ops.size-1->kL ops i (ops.size-1)){s0:List AV}{pl:List (Oper × AV)}{hp:Nat->List af}(ju:pl.map (·.1)=ops.toList)(hx  : LP E ops F P 0 s0 pl hp)
  {Q:Exit->Act->World->Prop} {Kf:List AV->List af->Prop} {c0:Cx} (fJ:Kf (cur pl (fun k=>decide (k<pl.length)) 0 s0) (hp ops.size))
  (hQ:∀ (a:Act) (c:Cx) (s:List AV) (h:List af),Kf s h->aE E.G c->c.heap=h->a.defers=[]->VS c s a.tmps->Step c0 c->Q .normal a c.w) :
  ∀ (f:Nat) (listed:Array Bool) (a:Act) (c:Cx) (J:Nat),J0<=J->J<=ops.size->aE E.G c->c.heap=hp J->a.defers=[]->VS c (cur pl (aR listed) 0 s0) a.tmps->Step c0 c->DC ops listed ->
   (∀ i,i<ops.size->i<J->bW i F=false->aR listed i=true)->(∀ i,J<=i->bW i F=false->aR listed i=false)->(∀ i,ops.size<=i->aR listed i=false)->ew (aR listed) ops.size<=f->wpAny E.P .any ops Q f listed a c.w:=by
 obtain⟨hlen,dH⟩:=rp ju;have same:∀ d J,J+d<=ops.size->(∀ i,J<=i->i<J+d->bW i F=true)->hp (J+d)=hp J:=by
  intro d
  induction d with
  |zero=>intro J _ _;rfl
  |succ d ih =>
   intro J hJ hm;have h1:=ih J (by omega) (fun i h1 h2=>hm i h1 (by omega));have ai:J+d<pl.length:=by omega
   have h2:=(hx.mf (J+d) (pl[J+d]).1 (pl[J+d]).2 (by rw[Nat.zero_add];exact hm (J+d) (by omega) (by omega)) (by simp[ai])).2;rw[show J+(d+1)=J+d+1 by omega,h2,h1]
 have pa:∀ i,bW i F=true\/bW i F=false:=fun i=>by cases bW i F<;>simp
 have done:∀ (listed:Array Bool) (a:Act) (c:Cx) (J:Nat),J<=ops.size->aE E.G c->c.heap=hp J->a.defers=[]->VS c (cur pl (aR listed) 0 s0) a.tmps->Step c0 c->(∀ i,J<=i->bW i F=false->aR listed i=false)->(∀ i,ops.size<=i->aR listed i=false)->(∀ i,i<ops.size->aR listed i=true)->Q .normal a c.w:=by
  intro listed a c J hJ h1 h2 h3 h4 h5 hn ho aX
  have hs:hp (J+(ops.size-J))=hp J:=same (ops.size-J) J (by omega) (fun i g1 g2=>by
   rcases pa i with h|h
   ·exact h
   ·have:=hn i g1 h;rw[aX i (by omega)]at this;cases this)
  rw[show J+(ops.size-J)=ops.size by omega]at hs;have e:cur pl (aR listed) 0 s0=cur pl (fun k=>decide (k<pl.length)) 0 s0:=by
   congr 1
   funext i;rcases Nat.lt_or_ge i ops.size with h|h
   ·rw[aX i h];simp[hlen,h]
   ·rw[ho i h];simp[hlen];omega
  rw[e]at h4;exact hQ a c _ _ fJ h1 (h2.trans hs.symm) h3 h4 h5
 intro f
 induction f with
 |zero =>
  intro listed a c J tv hJ h1 h2 h3 h4 h5 hd gU fw ho iR;have aX:∀ i,i<ops.size->aR listed i=true:=fun i hi=>zO iR hi;refine⟨?_,done listed a c J hJ h1 h2 h3 h4 h5 fw ho aX⟩;apply List.eq_nil_iff_forall_not_mem.2;intro i hi;obtain⟨k1,k2⟩:=mV hd hi;rw[aX i k2]at k1;cases k1
 |succ f ih =>
  intro listed a c J tv hJ h1 h2 h3 h4 h5 hd gU fw ho iR;refine⟨fun hr=>?_,fun i hi=>?_⟩
  ·refine done listed a c J hJ h1 h2 h3 h4 h5 fw ho (fun i hi=>?_);cases hl:aR listed i with
   |true=>rfl
   |false =>
    obtain⟨k,-,hk⟩:=vc hc.pO hd hi hl;rw[hr]at hk;cases hk
  obtain⟨dE,dX⟩:=mV hd hi;obtain⟨⟨o,v⟩,dj⟩:∃ p,pl[i]?=some p:=⟨pl[i]'(by omega),by rw[List.getElem?_eq_getElem]⟩;have ef:=dH i o v dj;obtain⟨lJ,kN⟩:=xk hc.pair dH hd hi dj h4;have bT:i<listed.size:=by rw[hd.1];exact dX
  have cP:=fun q=>sS (i:=q) bT;have mg:ew (aR (listed.setIfInBounds i true)) ops.size<=f:=by
   have:=(ve (L:=aR listed) (L':=aR (listed.setIfInBounds i true)) (j:=i) (fun q hq=>by rw[cP];simp[hq]) dE (by rw[cP];simp) ops.size).1 dX;omega
  have mW:∀ u:Value,(a.put o.dst u).defers=[]:=fun u=>by cases iz:o.dst<;>simp[Act.put,h3]
  have cV:∀ q,ops.size<=q->aR (listed.setIfInBounds i true) q=false:=fun q hq=>by rw[cP,ho q hq];simp;omega
  rcases pa i with hm|hm
  ·have adK:J<ops.size:=by
    rcases Nat.lt_or_ge J ops.size with h|h
    ·exact h
    ·have h6:=gU (ops.size-1) (by omega) (by omega) Jk;have aM:i≠ops.size-1:=fun e=>by subst e;rw[hm]at Jk;cases Jk
     have h7:=hd.dep (aa0 i (by omega)) h6;rw[dE]at h7;cases h7
   have rm:=(hx.mf i o v (by rw[Nat.zero_add];exact hm) dj).1 (hp J) (hx.hid J (by omega));refine rm c a h1 h2 h3 kN i ef _ _ (fun c' u k1 k2 k3 k4=>?_);refine ih _ _ c' J tv hJ k1 k2 (mW u) (lJ c' u (fun _ _=>k3.vr) k4) (h5.trans k3) (hd.set hi) (fun q hq oO eO=>by rw[cP,gU q hq oO eO];simp) (fun q hq eO=>?_) cV mg;rw[cP,fw q hq eO];have:q≠i:=fun e=>by subst e;rw[hm]at eO;cases eO
   simp[this]
  ·have aL:J<=i:=by
    rcases Nat.lt_or_ge i J with h|h
    ·have:=gU i dX h hm;rw[dE]at this;cases this
    ·exact h
   have tw:∀ q,J<=q->q<i->bW q F=true:=fun q g1 g2=>by
    rcases pa q with h|h
    ·exact h
    ·have ai:q<ops.size:=by omega
     have h6:=hd.ready hi (hc.spine q i ops[q] o (by omega) g2 (by simp[ai]) ef h hm);rw[fw q g1 h]at h6;cases h6
   have hs:hp (J+(i-J))=hp J:=same (i-J) J (by omega) (fun q g1 g2=>tw q g1 (by omega));rw[show J+(i-J)=i by omega]at hs;refine(hx.tu i o v (by rw[Nat.zero_add];exact hm) dj) c a h1 (h2.trans hs.symm) h3 kN i ef _ _ (fun c' u k1 k2 k3 k4=>?_);refine ih _ _ c' (i+1) (by omega) (by omega) k1 k2 (mW u) (lJ c' u (fun _ _=>k3.vr) k4) (h5.trans k3) (hd.set hi) (fun q hq oO eO=>?_) (fun q hq eO=>by rw[cP,fw q (by omega) eO];simp;omega) cV mg;by_cases mh:q=i
   ·subst mh;rw[cP];simp
   ·rcases Nat.lt_or_ge q J with h|h
    ·rw[cP,gU q hq h eO];simp
    ·have:=tw q h (by omega);rw[eO]at this;cases this
end
section
variable {E:Env} {ae:FuncId} {R:bZ} {ops:Array Oper} {k:List aI} {F:List Nat} {P:List af->Prop} {lits:List Nat} {s:List AV} {h:List af}
theorem Jl:∀ {l:List Oper} {j:Nat} {s:List AV} {h:List af},dP E ops F P (fun s2 h2=>aa E ae R [] k s2 h2) j l s h->dP E ops F P (fun s2 h2=>AW E R.fx.f0 ⟨⟨ae,R.fx.cG,R.fx.aN⟩,k,s2⟩ R.fx.cls h2 R) j l s h
 |[],_,_,_,H=>aa.to H
 |o::l,j,s,h,H=>by
  unfold dP at H ⊢;split at H
  ·obtain⟨v,h1,h2⟩:=H;exact⟨v,h1,Jl h2⟩
  ·obtain⟨v,h',h1,h2,h3⟩:=H;exact⟨v,h',h1,h2,Jl h3⟩
theorem aa.aa1(hE:E.OK)(hm:E.P.follows .mixedOrders=true)(F:List Nat)(P:List af->Prop){id:Nat}(kf:Dm ops F=true)(Jm:Ji ops F=true)(h0:P h)
  (H:dP E ops F P (fun s2 h2=>aa E ae R [] k s2 h2) 0 ops.toList s h) (dM:R.fx.cG=none:=by rfl) (dK:R.fx.aN=[]:=by rfl):aa E ae R lits (.code (.region id ops true)::k) s h:=by
 obtain⟨pl,hp,p1,p2,p3,p4⟩:=dP.lay (E:=E) (ops:=ops) (F:=F) (.inr h0) (Jl H);obtain⟨hlen,dH⟩:=rp p1;refine .of (AW.zR hm dM dK fun c t Q hQ h1 h2 h4=>?_);rw[hlen]at p3;refine aaZ (HE kf) (Jj Jm).1 (Jj Jm).2.1 (Jj Jm).2.2 p1 p4 (Kf:=fun s2 h2=>AW E R.fx.f0 ⟨⟨ae,R.fx.cG,R.fx.aN⟩,k,s2⟩ R.fx.cls h2 R) (by rw[hlen];exact p3) hQ ops.size _ ⟨t,[]⟩ c 0 (Nat.le_refl _) (Nat.zero_le _) h1 (h2.trans p2.symm) rfl ?_ (Step.refl c h1.bE) ⟨by simp,fun j o e _ hl=>by rw[kP]at hl;cases hl⟩ (fun i _ hi=>by omega) (fun i _ _=>kP _ i) (fun i _=>kP _ i) (CC _ _);rw[kc _ 0 s _ (fun i _=>kP _ _)];exact h4
theorem dP.float{K:List AV->List af->Prop}{j:Nat}{o:Oper}{l:List Oper}(v:AV)(hF:bW j F=true)(hg:o.guard=none)(hf:∀ h',P h'->aZ E o.op (bY (ca ops o) 0 s) h' v h')(H:bL s o.dst v fun s'=>dP E ops F P K (j+1) l s' h):dP E ops F P K j (o::l) s h:=by
 rw[df]at H;unfold dP;rw[hF];exact⟨v,fun h' hp=>dB.of (eK hg) (hf h' hp),H⟩
theorem dP.op{K:List AV->List af->Prop}{j:Nat}{o:Oper}{l:List Oper}(v:AV)(h':List af)(hF:bW j F=false)(hg:o.guard=none)(hf:aZ E o.op (bY (ca ops o) 0 s) h v h')(hP:l=[]\/P h')(H:bL s o.dst v fun s'=>dP E ops F P K (j+1) l s' h'):dP E ops F P K j (o::l) s h:=by
 rw[df]at H;unfold dP;rw[hF];exact⟨v,h',dm.of (eK hg) hf,hP,H⟩
theorem dP.fin{K:List AV->List af->Prop}{j:Nat}(H:K s h):dP E ops F P K j [] s h:=H
end
attribute [irreducible] dP
end Go.aA
end
section
namespace Go.Proofs.YtcmnpelmmekdkaaGreatDoor.P
open Go Go.aA Go.Sort Go.RowKit
theorem gT{α:Type}[Inhabited α]{K:Nat}(enc:α->List Value)(d:Array α)(i k:Nat)(hk:k<K)(x:α)(h:d[i]?=some x):(flatK enc K d)[i*K+k]! = (enc x)[k]! := by
 have hi:i<d.size:=by
  rcases Nat.lt_or_ge i d.size with h'|h'
  ·exact h'
  ·rw[Array.getElem?_eq_none h']at h;cases h
 have hx:d[i]! = x:=by simp[getElem!_pos d i hi];rw[Array.getElem?_eq_getElem hi]at h;exact Option.some.inj h
 have ai:i*K+k<d.size*K:=by
  have:(i+1)*K<=d.size*K:=Nat.mul_le_mul_right K hi;rw[Nat.succ_mul]at this;omega
 rw[get_flatK _ _ _ _ ai,show(i*K+k) / K=i by rw[Nat.mul_comm,Nat.mul_add_div (by omega),Nat.div_eq_of_lt hk];rfl,show(i*K+k) % K=k by rw[Nat.mul_comm,Nat.mul_add_mod,Nat.mod_eq_of_lt hk],hx]
theorem Rf{α:Type}[Inhabited α]{enc:α->List Value}{K:Nat}{w:World}{blk n:Nat}{d:Array α}{os:Array Obj}{vs:Array Value}{ty:TypeId}(hb:w.heap[blk]?=some (.cells vs ty (0,0))) :
  let w':=sortWorldK enc K w blk 0 n d os
  w'.os=w.os/\w'.tape=w.tape/\w'.output=w.output/\w.heap.size<=w'.heap.size/\(∀ b,b<w.heap.size->b≠blk->w'.heap[b]?=w.heap[b]?)/\w'.heap[blk]?=some (.cells (putCells id 0 (flatK enc K d) vs) ty (0,0)):=by
 intro w';have ai:blk<w.heap.size:=by
  rcases Nat.lt_or_ge blk w.heap.size with h|h
  ·exact h
  ·rw[Array.getElem?_eq_none h]at hb;cases hb
 have bT:(putRowK enc K (Sort.ahead w n) blk 0 d).heap.size=w.heap.size:=by simp[putRowK,putRow,mapBlock]
 refine⟨rfl,rfl,rfl,?_,fun b cU aM=>?_,?_⟩
 ·show w.heap.size<=(grow _ os).heap.size;rw[size_grow,bT];omega
 ·show(grow _ os).heap[b]?=_;rw[heap_grow_old _ _ (by rw[bT];exact cU)];simp[putRowK,putRow,mapBlock,Array.getElem?_modify,Ne.symm aM]
 ·show(grow _ os).heap[blk]?=_;rw[heap_grow_old _ _ (by rw[bT];exact ai)];simp[putRowK,putRow,mapBlock,Array.getElem?_modify,hb,onCells]
structure abd(cmp:DV->DV->Int)(l:List DV):Prop where
 irrefl:∀ x∈l,¬ cmp x x<0
 trans:∀ x∈l,∀ y∈l,∀ z∈l,cmp x y<0->cmp y z<0->cmp x z<0
 ntrans:∀ x∈l,∀ y∈l,∀ z∈l,¬ cmp x y<0->¬ cmp y z<0->¬ cmp x z<0
end Go.Proofs.YtcmnpelmmekdkaaGreatDoor.P
end
section
namespace Go.Proofs
open Go.Shelf
def Tryz.abJ:Go.Shelf.Ren:=⟨fun|5=>82|8=>115|7=>126|19=>180|20=>181|10=>194|11=>195|12=>196|13=>197|14=>198|15=>199|16=>200|17=>201|18=>202|30=>229|31=>221|32=>222|33=>230|34=>231|35=>204|40=>248|n=>n,fun|23=>27|25=>3|3=>3|32=>181|22=>27|0=>0|44=>238|46=>208|4=>4|36=>232|35=>231|41=>161|5=>5|9=>9|53=>258|57=>262|63=>281|64=>282|n=>n,fun|n=>n⟩
theorem Tryz.sortInt:Go.Proofs.SlLaysM.n5 Tryz.prog Tryz.abJ:={
 mixed:=by kernel_rfl
 f5:=⟨Tryz.f82.name,by decide,Tryz.func82.trans (congrArg some (by kernel_rfl))⟩
 f7:=⟨Tryz.f126.name,by decide,Tryz.func126.trans (congrArg some (by kernel_rfl))⟩
 f8:=Tryz.func115.trans (congrArg some (by kernel_rfl))
 f10:=⟨Tryz.f194.name,by decide,Tryz.func194.trans (congrArg some (by kernel_rfl))⟩
 f11:=⟨Tryz.f195.name,by decide,Tryz.func195.trans (congrArg some (by kernel_rfl))⟩
 f12:=⟨Tryz.f196.name,by decide,Tryz.func196.trans (congrArg some (by kernel_rfl))⟩
 f13:=⟨Tryz.f197.name,by decide,Tryz.func197.trans (congrArg some (by kernel_rfl))⟩
 f14:=⟨Tryz.f198.name,by decide,Tryz.func198.trans (congrArg some (by kernel_rfl))⟩
 f15:=⟨Tryz.f199.name,by decide,Tryz.func199.trans (congrArg some (by kernel_rfl))⟩
 f16:=⟨Tryz.f200.name,by decide,Tryz.func200.trans (congrArg some (by kernel_rfl))⟩
 f17:=⟨Tryz.f201.name,by decide,Tryz.func201.trans (congrArg some (by kernel_rfl))⟩
 f18:=⟨Tryz.f202.name,by decide,Tryz.func202.trans (congrArg some (by kernel_rfl))⟩
 f19:=Tryz.func180.trans (congrArg some (by kernel_rfl))
 f20:=Tryz.func181.trans (congrArg some (by kernel_rfl))
 f30:=⟨Tryz.f229.name,by decide,Tryz.func229.trans (congrArg some (by kernel_rfl))⟩
 f31:=Tryz.func221.trans (congrArg some (by kernel_rfl))
 f32:=Tryz.func222.trans (congrArg some (by kernel_rfl))
 f33:=⟨Tryz.f230.name,by decide,Tryz.func230.trans (congrArg some (by kernel_rfl))⟩
 f34:=⟨Tryz.f231.name,by decide,Tryz.func231.trans (congrArg some (by kernel_rfl))⟩
 f35:=⟨Tryz.f204.name,by decide,Tryz.func204.trans (congrArg some (by kernel_rfl))⟩
 f40:=⟨Tryz.f248.name,by decide,Tryz.func248.trans (congrArg some (by kernel_rfl))⟩
 t0:=Tryz.underlying0
 a0:=Tryz.isAgg0
 z0:=Tryz.sizeOf0
 v0:=Tryz.zeroValue0
 t3:=Tryz.underlying3
 a3:=Tryz.isAgg3
 z3:=Tryz.sizeOf3
 v3:=Tryz.zeroValue3
 t4:=Tryz.underlying4
 a4:=Tryz.isAgg4
 z4:=Tryz.sizeOf4
 v4:=Tryz.zeroValue4
 t5:=Tryz.underlying5
 a5:=Tryz.isAgg5
 z5:=Tryz.sizeOf5
 v5:=Tryz.zeroValue5
 t9:=Tryz.underlying9
 a9:=Tryz.isAgg9
 z9:=Tryz.sizeOf9
 v9:=Tryz.zeroValue9
 t22:=Tryz.underlying27
 a22:=Tryz.isAgg27
 z22:=Tryz.sizeOf27
 v22:=Tryz.zeroValue27
 t23:=Tryz.underlying27
 a23:=Tryz.isAgg27
 z23:=Tryz.sizeOf27
 v23:=Tryz.zeroValue27
 t25:=Tryz.underlying3
 a25:=Tryz.isAgg3
 z25:=Tryz.sizeOf3
 v25:=Tryz.zeroValue3
 t32:=Tryz.underlying181
 a32:=Tryz.isAgg181
 z32:=Tryz.sizeOf181
 v32:=Tryz.zeroValue181
 t35:=Tryz.underlying231
 a35:=Tryz.isAgg231
 z35:=Tryz.sizeOf231
 v35:=Tryz.zeroValue231
 t36:=Tryz.underlying232
 a36:=Tryz.isAgg232
 z36:=Tryz.sizeOf232
 v36:=Tryz.zeroValue232
 t41:=Tryz.underlying161
 a41:=Tryz.isAgg161
 z41:=Tryz.sizeOf161
 v41:=Tryz.zeroValue161
 t44:=Tryz.underlying238
 a44:=Tryz.isAgg238
 z44:=Tryz.sizeOf238
 v44:=Tryz.zeroValue238
 t46:=Tryz.underlying208
 a46:=Tryz.isAgg208
 z46:=Tryz.sizeOf208
 v46:=Tryz.zeroValue208
 t53:=Tryz.underlying258
 a53:=Tryz.isAgg258
 z53:=Tryz.sizeOf258
 v53:=Tryz.zeroValue258
 t57:=Tryz.underlying262
 a57:=Tryz.isAgg262
 z57:=Tryz.sizeOf262
 v57:=Tryz.zeroValue262
 t63:=Tryz.underlying281
 a63:=Tryz.isAgg281
 z63:=Tryz.sizeOf281
 v63:=Tryz.zeroValue281
 t64:=Tryz.underlying282
 a64:=Tryz.isAgg282
 z64:=Tryz.sizeOf282
 v64:=Tryz.zeroValue282 }
def Tryz.abK:Go.Shelf.Ren:=⟨fun|6=>129|15=>115|14=>203|28=>180|29=>181|20=>232|21=>233|22=>234|23=>235|24=>236|25=>237|26=>238|27=>239|46=>249|47=>221|48=>222|49=>250|50=>251|57=>254|n=>n,fun|22=>142|24=>189|25=>196|3=>3|39=>181|0=>0|53=>238|55=>208|4=>4|46=>232|45=>231|50=>161|5=>5|9=>9|66=>258|70=>262|76=>281|77=>282|n=>n,fun|n=>n⟩
theorem Tryz.Ru:Go.Proofs.SlLaysF0.n6 Tryz.prog Tryz.abK:={
 mixed:=by kernel_rfl
 f6:=⟨Tryz.f129.name,by decide,Tryz.func129.trans (congrArg some (by kernel_rfl))⟩
 f14:=⟨Tryz.f203.name,by decide,Tryz.func203.trans (congrArg some (by kernel_rfl))⟩
 f15:=Tryz.func115.trans (congrArg some (by kernel_rfl))
 f20:=⟨Tryz.f232.name,by decide,Tryz.func232.trans (congrArg some (by kernel_rfl))⟩
 f21:=⟨Tryz.f233.name,by decide,Tryz.func233.trans (congrArg some (by kernel_rfl))⟩
 f22:=⟨Tryz.f234.name,by decide,Tryz.func234.trans (congrArg some (by kernel_rfl))⟩
 f23:=⟨Tryz.f235.name,by decide,Tryz.func235.trans (congrArg some (by kernel_rfl))⟩
 f24:=⟨Tryz.f236.name,by decide,Tryz.func236.trans (congrArg some (by kernel_rfl))⟩
 f25:=⟨Tryz.f237.name,by decide,Tryz.func237.trans (congrArg some (by kernel_rfl))⟩
 f26:=⟨Tryz.f238.name,by decide,Tryz.func238.trans (congrArg some (by kernel_rfl))⟩
 f27:=⟨Tryz.f239.name,by decide,Tryz.func239.trans (congrArg some (by kernel_rfl))⟩
 f28:=Tryz.func180.trans (congrArg some (by kernel_rfl))
 f29:=Tryz.func181.trans (congrArg some (by kernel_rfl))
 f46:=⟨Tryz.f249.name,by decide,Tryz.func249.trans (congrArg some (by kernel_rfl))⟩
 f47:=Tryz.func221.trans (congrArg some (by kernel_rfl))
 f48:=Tryz.func222.trans (congrArg some (by kernel_rfl))
 f49:=⟨Tryz.f250.name,by decide,Tryz.func250.trans (congrArg some (by kernel_rfl))⟩
 f50:=⟨Tryz.f251.name,by decide,Tryz.func251.trans (congrArg some (by kernel_rfl))⟩
 f57:=⟨Tryz.f254.name,by decide,Tryz.func254.trans (congrArg some (by kernel_rfl))⟩
 t0:=Tryz.underlying0
 a0:=Tryz.isAgg0
 z0:=Tryz.sizeOf0
 v0:=Tryz.zeroValue0
 t3:=Tryz.underlying3
 a3:=Tryz.isAgg3
 z3:=Tryz.sizeOf3
 v3:=Tryz.zeroValue3
 t4:=Tryz.underlying4
 a4:=Tryz.isAgg4
 z4:=Tryz.sizeOf4
 v4:=Tryz.zeroValue4
 t5:=Tryz.underlying5
 a5:=Tryz.isAgg5
 z5:=Tryz.sizeOf5
 v5:=Tryz.zeroValue5
 t9:=Tryz.underlying9
 a9:=Tryz.isAgg9
 z9:=Tryz.sizeOf9
 v9:=Tryz.zeroValue9
 t22:=Tryz.underlying142
 a22:=Tryz.isAgg142
 z22:=Tryz.sizeOf142
 v22:=Tryz.zeroValue142
 t25:=Tryz.underlying196
 a25:=Tryz.isAgg196
 z25:=Tryz.sizeOf196
 v25:=Tryz.zeroValue196
 t39:=Tryz.underlying181
 a39:=Tryz.isAgg181
 z39:=Tryz.sizeOf181
 v39:=Tryz.zeroValue181
 t45:=Tryz.underlying231
 a45:=Tryz.isAgg231
 z45:=Tryz.sizeOf231
 v45:=Tryz.zeroValue231
 t46:=Tryz.underlying232
 a46:=Tryz.isAgg232
 z46:=Tryz.sizeOf232
 v46:=Tryz.zeroValue232
 t50:=Tryz.underlying161
 a50:=Tryz.isAgg161
 z50:=Tryz.sizeOf161
 v50:=Tryz.zeroValue161
 t53:=Tryz.underlying238
 a53:=Tryz.isAgg238
 z53:=Tryz.sizeOf238
 v53:=Tryz.zeroValue238
 t55:=Tryz.underlying208
 a55:=Tryz.isAgg208
 z55:=Tryz.sizeOf208
 v55:=Tryz.zeroValue208
 t66:=Tryz.underlying258
 a66:=Tryz.isAgg258
 z66:=Tryz.sizeOf258
 v66:=Tryz.zeroValue258
 t70:=Tryz.underlying262
 a70:=Tryz.isAgg262
 z70:=Tryz.sizeOf262
 v70:=Tryz.zeroValue262
 t76:=Tryz.underlying281
 a76:=Tryz.isAgg281
 z76:=Tryz.sizeOf281
 v76:=Tryz.zeroValue281
 t77:=Tryz.underlying282
 a77:=Tryz.isAgg282
 z77:=Tryz.sizeOf282
 v77:=Tryz.zeroValue282 }
def Tryz.abL:Go.Shelf.Ren:=⟨fun|6=>74|15=>115|14=>114|28=>180|29=>181|20=>172|21=>173|22=>174|23=>175|24=>176|25=>177|26=>178|27=>179|46=>220|47=>221|48=>222|49=>223|50=>224|57=>247|n=>n,fun|22=>32|24=>9|25=>45|3=>3|39=>181|0=>0|53=>238|55=>208|4=>4|46=>232|45=>231|50=>161|5=>5|9=>9|66=>258|70=>262|76=>281|77=>282|n=>n,fun|n=>n⟩
theorem Tryz.abM:Go.Proofs.SlLaysF.n6 Tryz.prog Tryz.abL:={
 mixed:=by kernel_rfl
 f6:=⟨Tryz.f74.name,by decide,Tryz.func74.trans (congrArg some (by kernel_rfl))⟩
 f14:=⟨Tryz.f114.name,by decide,Tryz.func114.trans (congrArg some (by kernel_rfl))⟩
 f15:=Tryz.func115.trans (congrArg some (by kernel_rfl))
 f20:=⟨Tryz.f172.name,by decide,Tryz.func172.trans (congrArg some (by kernel_rfl))⟩
 f21:=⟨Tryz.f173.name,by decide,Tryz.func173.trans (congrArg some (by kernel_rfl))⟩
 f22:=⟨Tryz.f174.name,by decide,Tryz.func174.trans (congrArg some (by kernel_rfl))⟩
 f23:=⟨Tryz.f175.name,by decide,Tryz.func175.trans (congrArg some (by kernel_rfl))⟩
 f24:=⟨Tryz.f176.name,by decide,Tryz.func176.trans (congrArg some (by kernel_rfl))⟩
 f25:=⟨Tryz.f177.name,by decide,Tryz.func177.trans (congrArg some (by kernel_rfl))⟩
 f26:=⟨Tryz.f178.name,by decide,Tryz.func178.trans (congrArg some (by kernel_rfl))⟩
 f27:=⟨Tryz.f179.name,by decide,Tryz.func179.trans (congrArg some (by kernel_rfl))⟩
 f28:=Tryz.func180.trans (congrArg some (by kernel_rfl))
 f29:=Tryz.func181.trans (congrArg some (by kernel_rfl))
 f46:=⟨Tryz.f220.name,by decide,Tryz.func220.trans (congrArg some (by kernel_rfl))⟩
 f47:=Tryz.func221.trans (congrArg some (by kernel_rfl))
 f48:=Tryz.func222.trans (congrArg some (by kernel_rfl))
 f49:=⟨Tryz.f223.name,by decide,Tryz.func223.trans (congrArg some (by kernel_rfl))⟩
 f50:=⟨Tryz.f224.name,by decide,Tryz.func224.trans (congrArg some (by kernel_rfl))⟩
 f57:=⟨Tryz.f247.name,by decide,Tryz.func247.trans (congrArg some (by kernel_rfl))⟩
 t0:=Tryz.underlying0
 a0:=Tryz.isAgg0
 z0:=Tryz.sizeOf0
 v0:=Tryz.zeroValue0
 t3:=Tryz.underlying3
 a3:=Tryz.isAgg3
 z3:=Tryz.sizeOf3
 v3:=Tryz.zeroValue3
 t4:=Tryz.underlying4
 a4:=Tryz.isAgg4
 z4:=Tryz.sizeOf4
 v4:=Tryz.zeroValue4
 t5:=Tryz.underlying5
 a5:=Tryz.isAgg5
 z5:=Tryz.sizeOf5
 v5:=Tryz.zeroValue5
 t9:=Tryz.underlying9
 a9:=Tryz.isAgg9
 z9:=Tryz.sizeOf9
 v9:=Tryz.zeroValue9
 t22:=Tryz.underlying32
 a22:=Tryz.isAgg32
 z22:=Tryz.sizeOf32
 v22:=Tryz.zeroValue32
 a24:=Tryz.isAgg9
 z24:=Tryz.sizeOf9
 t25:=Tryz.underlying45
 a25:=Tryz.isAgg45
 z25:=Tryz.sizeOf45
 v25:=Tryz.zeroValue45
 t39:=Tryz.underlying181
 a39:=Tryz.isAgg181
 z39:=Tryz.sizeOf181
 v39:=Tryz.zeroValue181
 t45:=Tryz.underlying231
 a45:=Tryz.isAgg231
 z45:=Tryz.sizeOf231
 v45:=Tryz.zeroValue231
 t46:=Tryz.underlying232
 a46:=Tryz.isAgg232
 z46:=Tryz.sizeOf232
 v46:=Tryz.zeroValue232
 t50:=Tryz.underlying161
 a50:=Tryz.isAgg161
 z50:=Tryz.sizeOf161
 v50:=Tryz.zeroValue161
 t53:=Tryz.underlying238
 a53:=Tryz.isAgg238
 z53:=Tryz.sizeOf238
 v53:=Tryz.zeroValue238
 t55:=Tryz.underlying208
 a55:=Tryz.isAgg208
 z55:=Tryz.sizeOf208
 v55:=Tryz.zeroValue208
 t66:=Tryz.underlying258
 a66:=Tryz.isAgg258
 z66:=Tryz.sizeOf258
 v66:=Tryz.zeroValue258
 t70:=Tryz.underlying262
 a70:=Tryz.isAgg262
 z70:=Tryz.sizeOf262
 v70:=Tryz.zeroValue262
 t76:=Tryz.underlying281
 a76:=Tryz.isAgg281
 z76:=Tryz.sizeOf281
 v76:=Tryz.zeroValue281
 t77:=Tryz.underlying282
 a77:=Tryz.isAgg282
 z77:=Tryz.sizeOf282
 v77:=Tryz.zeroValue282 }
end Go.Proofs
end
section
namespace Go.Proofs.YtcmnpelmmekdkaaGreatDoor.P
open Go Go.aA
set_option maxRecDepth 100000
set_option maxHeartbeats 4000000
def pr(c:aH):Bool:=xC c.aC && !(decide ((c.aC.ad.length:Int)>100))
def wh(w:cR):Bool:=(w.au.take 21).all pr&&(w.cC.take 71).all lU&&yj w.au.length w.cC.length w.hints.length w.anchor.data.length
theorem acC(w:cR):az E 10 [w.enc] (· = .bool (wh w)):=by
 obtain⟨cC,au,anchor,hints⟩:=w;unfold wh;simp only;show az E _ [DV.agg [.sl (cC.map Host.enc),.sl (au.map aH.enc),.str anchor.name,.int .i64 anchor.type,.int .i64 anchor.jD,.sl (anchor.data.map Datum.enc),.sl (hints.map (.int .i64))]] _;refine eP F10 ?_;refine aa.loop (κ:=Nat) ([2,3,4]++rg 6 31) (fun k=>[(3,.d (.int .i64 k))]) (fun _=>[]) (fun k=>k<=au.length/\k<=21/\(au.take k).all pr=true) (fun k=>au.length-k) 0 ⟨Nat.zero_le _,by omega,rfl⟩ ?_ ?_
 ·exact sZ
 intro k hk IH;refine aa.head ag F10 2000 ?_;(conv=>whnf);have nT:=hk.2.1;refine ar (fun h5=>?_) (fun h5=>?_)
 ·have ai:k<au.length:=by simpa using h5
  refine gO F10 ?_;refine ar (fun h6=>?_) (fun h6=>?_)
  ·have Nt:k<=20:=by have:=of_decide_eq_true h6;omega
   obtain⟨x,hx⟩:=bd ai;refine gO F10 ?_;refine aD (e:=x.enc) (aU hx) rfl ?_;refine gO F10 ?_
   with_reducible refine aj (Wk x.aC) ?_
   refine gO F10 ?_;cases hz:xC x.aC
   ·have iv:pr x=false:=by rw[pr,hz];rfl
    refine bq ?_;refine gO F10 ?_;refine bq ?_;refine gO F10 ?_;rw[iV (k:=k) (by rw[List.getElem?_take,if_pos (by omega)];exact hx) iv,Bool.false_and,Bool.false_and]
   ·refine aV ?_;refine gO F10 ?_;refine aD (e:=x.enc) (aU hx) rfl ?_;refine gO F10 ?_;refine ar (fun h7=>?_) (fun h7=>?_)
    ·have iv:pr x=false:=by rw[pr,hz,h7];rfl
     refine gO F10 ?_;rw[iV (k:=k) (by rw[List.getElem?_take,if_pos (by omega)];exact hx) iv,Bool.false_and,Bool.false_and]
    ·have iv:pr x=true:=by rw[pr,hz,h7];rfl
     refine gO F10 ?_;refine aa.back (IH (k+1) ⟨by omega,by omega,jI hk.2.2 hx iv⟩ (by omega)) ?_;exact sZ
  ·have h21:k=21:=by have:=of_decide_eq_false h6;omega
   have jf:(au.take 21).all pr=true:=by rw[<- h21];exact hk.2.2
   rw[jf,Bool.true_and];refine gO F10 ?_;refine aa.loop (κ:=Nat) ([2,5]++rg 37 19) (fun k=>[(5,.d (.int .i64 k))]) (fun _=>[]) (fun k=>k<=cC.length/\k<=71/\(cC.take k).all lU=true) (fun k=>cC.length-k) 0 ⟨Nat.zero_le _,by omega,rfl⟩ ?_ ?_
   ·exact sZ
   intro j hj JH;refine aa.head ag F10 2000 ?_;(conv=>whnf);have fw:=hj.2.1;refine ar (fun g5=>?_) (fun g5=>?_)
   ·have ai:j<cC.length:=by simpa using g5
    refine gO F10 ?_;refine ar (fun g6=>?_) (fun g6=>?_)
    ·have h70:j<=70:=by have:=of_decide_eq_true g6;omega
     obtain⟨x,hx⟩:=bd ai;refine gO F10 ?_;refine aD (e:=x.enc) (aU hx) rfl ?_;refine gO F10 ?_;refine ar (fun g7=>?_) (fun g7=>?_)
     ·have hz:lU x=false:=by rw[lU,g7];rfl
      refine gO F10 ?_;rw[iV (k:=j) (by rw[List.getElem?_take,if_pos (by omega)];exact hx) hz,Bool.false_and]
     ·have hz:lU x=true:=by rw[lU,g7];rfl
      refine gO F10 ?_;refine aa.back (JH (j+1) ⟨by omega,by omega,jI hj.2.2 hx hz⟩ (by omega)) ?_;exact sZ
    ·have JD:j=71:=by have:=of_decide_eq_false g6;omega
     have aX:(cC.take 71).all lU=true:=by rw[<- JD];exact hj.2.2
     rw[aX];refine gO F10 ?_;clear IH JH;repeat' (first|with_reducible(first|refine cY ?_|refine cN ?_|refine ar (fun _=>?_) (fun _=>?_))|refine gA F10 ?_|refine gB ?_|refine gC ?_|with_reducible rfl)
     all_goals
      clear aX jf hk hj;simp_all[yj];try (first|omega|(rw[Bool.eq_iff_iff];simp;omega))
   ·have aL:cC.length<=j:=by simpa using g5
    have aX:(cC.take 71).all lU=true:=by
     have h1:=nW hj.2.2 aL;rw[List.all_eq_true]at h1 ⊢;exact fun y hy=>h1 y (List.mem_of_mem_take hy)
    rw[aX];refine gO F10 ?_;refine aV ?_;refine gO F10 ?_;clear IH JH;repeat' (first|with_reducible(first|refine cY ?_|refine cN ?_|refine ar (fun _=>?_) (fun _=>?_))|refine gA F10 ?_|refine gB ?_|refine gC ?_|with_reducible rfl)
    all_goals
     clear aX jf hk hj;simp_all[yj];try (first|omega|(rw[Bool.eq_iff_iff];simp;omega))
 ·have aL:au.length<=k:=by simpa using h5
  have jf:(au.take 21).all pr=true:=by
   have h1:=nW hk.2.2 aL;rw[List.all_eq_true]at h1 ⊢;exact fun y hy=>h1 y (List.mem_of_mem_take hy)
  rw[jf,Bool.true_and];refine gO F10 ?_;refine aV ?_;refine gO F10 ?_;refine aa.loop (κ:=Nat) ([2,5]++rg 37 19) (fun k=>[(5,.d (.int .i64 k))]) (fun _=>[]) (fun k=>k<=cC.length/\k<=71/\(cC.take k).all lU=true) (fun k=>cC.length-k) 0 ⟨Nat.zero_le _,by omega,rfl⟩ ?_ ?_
  ·exact sZ
  intro j hj JH;refine aa.head ag F10 2000 ?_;(conv=>whnf);have fw:=hj.2.1;refine ar (fun g5=>?_) (fun g5=>?_)
  ·have ai:j<cC.length:=by simpa using g5
   refine gO F10 ?_;refine ar (fun g6=>?_) (fun g6=>?_)
   ·have h70:j<=70:=by have:=of_decide_eq_true g6;omega
    obtain⟨x,hx⟩:=bd ai;refine gO F10 ?_;refine aD (e:=x.enc) (aU hx) rfl ?_;refine gO F10 ?_;refine ar (fun g7=>?_) (fun g7=>?_)
    ·have hz:lU x=false:=by rw[lU,g7];rfl
     refine gO F10 ?_;rw[iV (k:=j) (by rw[List.getElem?_take,if_pos (by omega)];exact hx) hz,Bool.false_and]
    ·have hz:lU x=true:=by rw[lU,g7];rfl
     refine gO F10 ?_;refine aa.back (JH (j+1) ⟨by omega,by omega,jI hj.2.2 hx hz⟩ (by omega)) ?_;exact sZ
   ·have JD:j=71:=by have:=of_decide_eq_false g6;omega
    have aX:(cC.take 71).all lU=true:=by rw[<- JD];exact hj.2.2
    rw[aX];refine gO F10 ?_;clear IH JH;repeat' (first|with_reducible(first|refine cY ?_|refine cN ?_|refine ar (fun _=>?_) (fun _=>?_))|refine gA F10 ?_|refine gB ?_|refine gC ?_|with_reducible rfl)
    all_goals
     clear aX jf hk hj;simp_all[yj];try (first|omega|(rw[Bool.eq_iff_iff];simp;omega))
  ·have aL:cC.length<=j:=by simpa using g5
   have aX:(cC.take 71).all lU=true:=by
    have h1:=nW hj.2.2 aL;rw[List.all_eq_true]at h1 ⊢;exact fun y hy=>h1 y (List.mem_of_mem_take hy)
   rw[aX];refine gO F10 ?_;refine aV ?_;refine gO F10 ?_;clear IH JH;repeat' (first|with_reducible(first|refine cY ?_|refine cN ?_|refine ar (fun _=>?_) (fun _=>?_))|refine gA F10 ?_|refine gB ?_|refine gC ?_|with_reducible rfl)
   all_goals
    clear aX jf hk hj;simp_all[yj];try (first|omega|(rw[Bool.eq_iff_iff];simp;omega))
end Go.Proofs.YtcmnpelmmekdkaaGreatDoor.P
end
