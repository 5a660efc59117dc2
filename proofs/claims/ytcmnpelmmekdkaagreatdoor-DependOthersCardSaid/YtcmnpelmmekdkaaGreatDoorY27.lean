/- Several texts of mine, one behind the other. Conditions: as each says. -/
import Derived.Test.YtcmnpelmmekdkaaGreatDoorY19
set_option linter.unusedVariables false
set_option linter.unusedSimpArgs false
namespace Go.Proofs.YtcmnpelmmekdkaaGreatDoor.P
open Go Go.ax
set_option maxRecDepth 100000
structure cu where
 bH:aS
 other:Text
 deriving DecidableEq
structure bK where
 name:Text
 aq:List Text
 before:Int
 bH:aS
 list:List aS
def dm (met:List Text) (b:Int) (dw:List aS):List cu→List bK
 | []=>[]
 |x::r=>if x.other∈met then dm met b dw r else ⟨x.other,[],b,x.bH,dw++[x.bH]⟩::dm (met++[x.other]) b dw r
abbrev ka:=Text→List Text × List cu
def kH (J:ka):Nat→List bK→List bK→List bK
 | 0,done,_=>done
 |_+1,done,[]=>done
 |n+1,done,v::w=>kH J n (done++[{ v with aq:=(J v.name).1 }]) (w++dm ((done++v::w).map bK.name) done.length v.list (J v.name).2)
theorem Dl {b:Int} {dw:List aS}:∀ {L:List cu} {met:List Text} {v:bK},v∈dm met b dw L→v.name ∉ met∧(∃ x∈L,x.other=v.name∧v.bH=x.bH∧v.list=dw++[x.bH])∧v.before=b∧v.aq=[]
 | [],_,_,h=>by simp [dm] at h
 |x::r,met,v,h=>by
  rw [dm] at h;split at h
  ·obtain ⟨h1,⟨y,h2,h3⟩,h4⟩:=Dl h;exact ⟨h1,⟨y,List.mem_cons_of_mem _ h2,h3⟩,h4⟩
  ·rename_i hn;rcases List.mem_cons.1 h with rfl | h
   ·exact ⟨hn,⟨x,List.mem_cons_self ..,rfl,rfl,rfl⟩,rfl,rfl⟩
   ·obtain ⟨h1,⟨y,h2,h3⟩,h4⟩:=Dl h;exact ⟨fun e=>h1 (List.mem_append_left _ e),⟨y,List.mem_cons_of_mem _ h2,h3⟩,h4⟩
theorem Ia {b:Int} {dw:List aS}:∀ {L:List cu} {met:List Text},met.Nodup→(met++(dm met b dw L).map bK.name).Nodup
 | [],met,h=>by simpa [dm] using h
 |x::r,met,h=>by
  rw [dm];split
  ·exact Ia h
  ·rename_i hn
   have:=Ia (L:=r) (b:=b) (dw:=dw) (met:=met++[x.other]) (by
    rw [List.nodup_append]
    exact ⟨h,by simp,fun a ha c hc e=>by simp at hc; subst hc; subst e; exact hn ha⟩)
   simpa [List.append_assoc] using this
theorem Ib {b:Int} {dw:List aS}:∀ {L:List cu} {met:List Text} {x:cu},x∈L→x.other∈met++(dm met b dw L).map bK.name
 |y::r,met,x,h=>by
  rw [dm];split
  ·rename_i hm;rcases List.mem_cons.1 h with rfl | h
   ·exact List.mem_append_left _ hm
   ·exact Ib h
  ·rcases List.mem_cons.1 h with rfl | h
   ·simp
   ·have:=Ib (b:=b) (dw:=dw) (met:=met++[y.other]) h
    simpa [List.append_assoc] using this
theorem Dm {b:Int} {dw:List aS} {d:cu}:∀ {L:List cu} {met:List Text},d.other∈met→dm met b dw (L.filter fun x => !decide (x=d))=dm met b dw L
 | [],_,_=>rfl
 |x::r,met,h=>by
  by_cases e:x=d
  ·subst e;rw [List.filter_cons_of_neg (by simp),Dm h,dm,if_pos h]
  ·rw [List.filter_cons_of_pos (by simpa using e),dm,dm];split
   ·exact Dm h
   ·rw [Dm (List.mem_append_left _ h)]
theorem s4 {α:Type} [DecidableEq α]:∀ {l U:List α},l.Nodup→(∀ x∈l,x∈U)→l.length≤U.length
 | [],_,_,_=>by simp
 |x::l,U,h,hs=>by
  rw [List.nodup_cons] at h;have h1:=s4 (U:=U.erase x) h.2 fun y hy=>by
   have:y≠x:=fun e=>h.1 (e ▸ hy);exact (List.mem_erase_of_ne this).2 (hs y (List.mem_cons_of_mem _ hy))
  have h2:=List.length_erase_of_mem (hs x (List.mem_cons_self ..));have h3:=List.length_pos_of_mem (hs x (List.mem_cons_self ..));simp;omega
def rF (J:ka) (U:List Text):Prop:=∀ n∈U,∀ x∈(J n).2,x.other∈U
structure ev (J:ka) (s:Text) (done wait:List bK):Prop where
 nodup:((done++wait).map bK.name).Nodup
 start:s∈(done++wait).map bK.name
 shut:∀ v∈done,v.aq=(J v.name).1∧∀ x∈(J v.name).2,x.other∈(done++wait).map bK.name
 least:∀ U,s∈U→rF J U→∀ v∈done++wait,v.name∈U
 prev:∀ (j:Nat) (v:bK),(done++wait)[j]? = some v→(v.before = -1∧v.list=[]∧v.name=s∧j=0)∨∃ (b:Nat) (u:bK) (x:cu),v.before=b∧b<j∧b<done.length∧done[b]? = some u∧x∈(J u.name).2∧x.other=v.name∧v.bH=x.bH∧v.list=u.list++[v.bH]
theorem ev.init {J:ka} {s:Text} {q:aS}:ev J s [] [⟨s,[],-1,q,[]⟩]:=by
 refine ⟨by simp,by simp,fun v hv=>by simp at hv,fun U h _ v hv=>by simp at hv; subst hv; exact h,fun j v hj=>?_⟩;cases j with
 |zero=>simp at hj; subst hj; exact .inl ⟨rfl,rfl,rfl,rfl⟩
 |succ j=>simp at hj
theorem ev.next {J:ka} {s:Text} {done w:List bK} {v:bK} (H:ev J s done (v::w)):ev J s (done++[{ v with aq:=(J v.name).1 }]) (w++dm ((done++v::w).map bK.name) done.length v.list (J v.name).2):=by
 have Ic:((done++[{ v with aq:=(J v.name).1 }])++(w++dm ((done++v::w).map bK.name) done.length v.list (J v.name).2)).map bK.name=(done++v::w).map bK.name++(dm ((done++v::w).map bK.name) done.length v.list (J v.name).2).map bK.name:=by simp
 refine ⟨?_,?_,?_,?_,?_⟩
 ·rw [Ic]; exact Ia H.nodup
 ·rw [Ic]; exact List.mem_append_left _ H.start
 ·intro u hu;rw [Ic];rcases List.mem_append.1 hu with hu | hu
  ·exact ⟨(H.shut u hu).1,fun x hx=>List.mem_append_left _ ((H.shut u hu).2 x hx)⟩
  ·simp at hu;subst hu;exact ⟨rfl,fun x hx=>Ib hx⟩
 ·intro U hs hU u hu;have hv:v.name∈U:=H.least U hs hU v (by simp);rcases List.mem_append.1 hu with hu | hu
  ·rcases List.mem_append.1 hu with hu | hu
   ·exact H.least U hs hU u (List.mem_append_left _ hu)
   ·simp at hu; subst hu; exact hv
  ·rcases List.mem_append.1 hu with hu | hu
   ·exact H.least U hs hU u (by simp [hu])
   ·obtain ⟨_,⟨x,h1,h2,_⟩,_⟩:=Dl hu;rw [← h2];exact hU _ hv x h1
 ·intro j u hj;have key:∀ {b:Nat} {z:bK},done[b]? = some z→(done++[{ v with aq:=(J v.name).1 }])[b]? = some z:=fun {b z} h=>by
   rw [List.getElem?_append_left (List.getElem?_eq_some_iff.1 h).1]; exact h
  have old:∀ (j:Nat) (u u':bK),(done++v::w)[j]? = some u→u'.before=u.before→u'.list=u.list→u'.name=u.name→u'.bH=u.bH→(u'.before = -1∧u'.list=[]∧u'.name=s∧j=0)∨∃ (b:Nat) (z:bK) (x:cu),u'.before=b∧b<j∧b<(done++[{ v with aq:=(J v.name).1 }]).length∧(done++[{ v with aq:=(J v.name).1 }])[b]? = some z∧x∈(J z.name).2∧x.other=u'.name∧u'.bH=x.bH∧u'.list=z.list++[u'.bH]:=by
   intro j u u' hj e1 e2 e3 e4;rw [e1,e2,e3,e4];rcases H.prev j u hj with h | ⟨b,z,x,h1,h2,h3,h4,h5⟩
   ·exact .inl h
   ·exact .inr ⟨b,z,x,h1,h2,by simp; omega,key h4,h5⟩
  by_cases gw:j<done.length+1+w.length
  ·rcases Nat.lt_trichotomy j done.length with h | h | h
   ·rw [List.append_assoc,List.getElem?_append_left h] at hj;exact old j u u (by rw [List.getElem?_append_left h]; exact hj) rfl rfl rfl rfl
   ·subst h;rw [List.append_assoc,List.getElem?_append_right (Nat.le_refl _),Nat.sub_self] at hj;simp at hj;subst hj;exact old done.length v _ (by simp) rfl rfl rfl rfl
   ·rw [List.getElem?_append_right (by simp; omega),List.getElem?_append_left (by simp; omega)] at hj;refine old j u u ?_ rfl rfl rfl rfl;rw [List.getElem?_append_right (by omega),show j - done.length=(j - (done.length+1))+1 by omega,List.getElem?_cons_succ]
    simpa using hj
  ·rw [List.getElem?_append_right (by simp; omega),List.getElem?_append_right (by simp; omega)] at hj;have hm:=List.mem_of_getElem? hj;obtain ⟨h1,⟨x,h2,h3,h4,h5⟩,h6,h7⟩:=Dl hm;refine .inr ⟨done.length,{ v with aq:=(J v.name).1 },x,h6,by omega,by simp,by simp,h2,h3,h4,?_⟩;rw [h5,h4]
theorem Pe {J:ka} {s:Text} {U:List Text} (hs:s∈U) (hU:rF J U):∀ (n:Nat) (done wait:List bK),ev J s done wait→U.length<done.length+n→ev J s (kH J n done wait) []
 | 0,done,wait,H,h=>by
  have:=s4 H.nodup (U:=U) fun x hx=>by
   obtain ⟨v,hv,rfl⟩:=List.mem_map.1 hx;exact H.least U hs hU v hv
  simp at this;omega
 |n+1,done,[],H,h=>by simpa [kH] using H
 |n+1,done,v::w,H,h=>by
  rw [kH];exact Pe hs hU n _ _ H.next (by simp; omega)
theorem Dn {J:ka} {s:Text} {U:List Text} (hs:s∈U) (hU:rF J U) {done wait:List bK} (H:ev J s done wait):done.length+wait.length≤U.length:=by
 have:=s4 H.nodup (U:=U) fun x hx=>by
  obtain ⟨v,hv,rfl⟩:=List.mem_map.1 hx;exact H.least U hs hU v hv
 simpa using this
theorem Pf {J:ka} {s:Text} {U:List Text} (hs:s∈U) (hU:rF J U):∀ (n m:Nat) (done wait:List bK),ev J s done wait→U.length<done.length+n→U.length<done.length+m→kH J n done wait=kH J m done wait
 | 0,m,done,wait,H,h,_=>by have:=Dn hs hU H; omega
 |n+1,0,done,wait,H,_,h=>by have:=Dn hs hU H; omega
 |n+1,m+1,done,[],H,_,_=>rfl
 |n+1,m+1,done,v::w,H,h1,h2=>by
  rw [kH,kH];exact Pf hs hU n m _ _ H.next (by simp; omega) (by simp; omega)
theorem Pg {lt:cu→cu→Prop} (s5:∀ a,¬ lt a a) (oW:∀ a b c,lt a b→lt b c→lt a c) {b:Int} {dw:List aS}:∀ {D L:List cu} {met:List Text},D.Pairwise lt→L.Pairwise (fun a b=>lt a b∨a=b)→(∀ x,x∈L↔x∈D)→dm met b dw L=dm met b dw D
 | [],L,met,_,_,h=>by
  cases L with
  |nil=>rfl
  |cons x L=>have:=(h x).1 (List.mem_cons_self ..); simp at this
 |d::D,L,met,hD,hL,h=>by
  obtain ⟨p1,p2⟩:=List.pairwise_cons.1 hD;cases L with
  |nil=>have:=(h d).2 (List.mem_cons_self ..); simp at this
  |cons x L =>
   obtain ⟨q1,q2⟩:=List.pairwise_cons.1 hL;have w7:x=d:=by
    rcases List.mem_cons.1 ((h x).1 (List.mem_cons_self ..)) with e | e
    ·exact e
    ·have h1:=p1 x e;rcases List.mem_cons.1 ((h d).2 (List.mem_cons_self ..)) with e2 | e2
     ·exact e2.symm
     ·rcases q1 d e2 with h2 | h2
      ·exact absurd (oW _ _ _ h1 h2) (s5 _)
      ·exact h2
   subst w7;have step:∀ Dp,x.other∈Dp→dm Dp b dw L=dm Dp b dw D:=fun Dp hm=>by
    rw [← Dm hm];refine Pg s5 oW p2 (q2.sublist List.filter_sublist) fun y=>?_;rw [List.mem_filter];constructor
    ·rintro ⟨h1,h2⟩;rcases List.mem_cons.1 ((h y).1 (List.mem_cons_of_mem _ h1)) with e | e
     ·simp [e] at h2
     ·exact e
    ·intro hy;have aJ:y≠x:=fun e=>s5 x (e ▸ p1 y hy);rcases List.mem_cons.1 ((h y).2 (List.mem_cons_of_mem _ hy)) with e | e
     ·exact absurd e aJ
     ·exact ⟨e,by simpa using aJ⟩
   rw [dm,dm];split
   ·rename_i hm; exact step met hm
   ·rw [step (met++[x.other]) (by simp)]
section
variable {α:Type} [DecidableEq α] (lt:α→α→Bool)
def pW:List α→α→List α
 | [],x=>[x]
 |y::r,x=>if y=x then y::r else if lt x y then x::y::r else y::pW r x
variable {lt}
theorem Dq {x y:α}:∀ {l:List α},y∈pW lt l x↔y∈l∨y=x
 | []=>by simp [pW]
 |z::r=>by
  rw [pW];split
  ·rename_i h; subst h; simp only [List.mem_cons]; constructor
   ·exact fun h => .inl h
   ·rintro (h | h)
    ·exact h
    ·exact .inl h
  ·split
   ·simp only [List.mem_cons]; constructor
    ·rintro (h | h | h)
     ·exact .inr h
     ·exact .inl (.inl h)
     ·exact .inl (.inr h)
    ·rintro ((h | h) | h)
     ·exact .inr (.inl h)
     ·exact .inr (.inr h)
     ·exact .inl h
   ·rw [List.mem_cons,Dq,List.mem_cons];constructor
    ·rintro (h | h | h)
     ·exact .inl (.inl h)
     ·exact .inl (.inr h)
     ·exact .inr h
    ·rintro ((h | h) | h)
     ·exact .inl h
     ·exact .inr (.inl h)
     ·exact .inr (.inr h)
theorem Ie (oW:∀ a b c,lt a b=true→lt b c=true→lt a c=true) (kE:∀ a b,a≠b→lt a b=false→lt b a=true) {x:α}:∀ {l:List α},l.Pairwise (fun a b=>lt a b=true)→(pW lt l x).Pairwise fun a b=>lt a b=true
 | [],_=>by simp [pW]
 |y::r,h=>by
  obtain ⟨h1,h2⟩:=List.pairwise_cons.1 h;rw [pW];split
  ·exact h
  ·rename_i aJ;cases e:lt x y
   ·simp only [Bool.false_eq_true,if_false];refine List.pairwise_cons.2 ⟨fun z hz=>?_,Ie oW kE h2⟩;rcases Dq.1 hz with hz | hz
    ·exact h1 z hz
    ·subst hz; exact kE _ _ (fun q=>aJ q.symm) e
   ·simp only [if_true];refine List.pairwise_cons.2 ⟨fun z hz=>?_,h⟩;rcases List.mem_cons.1 hz with rfl | hz
    ·exact e
    ·exact oW _ _ _ e (h1 z hz)
def nV (l:List α) (xs:List α):List α:=xs.foldl (pW lt) l
theorem Dr {y:α}:∀ {xs l:List α},y∈nV (lt:=lt) l xs↔y∈l∨y∈xs
 | [],l=>by simp [nV]
 |x::xs,l=>by
  have:=Dr (y:=y) (xs:=xs) (l:=pW lt l x);rw [nV,List.foldl_cons];rw [nV] at this;rw [this,Dq,List.mem_cons];constructor
  ·rintro ((h | h) | h)
   ·exact .inl h
   ·exact .inr (.inl h)
   ·exact .inr (.inr h)
  ·rintro (h | h | h)
   ·exact .inl (.inl h)
   ·exact .inl (.inr h)
   ·exact .inr h
theorem Ds (oW:∀ a b c,lt a b=true→lt b c=true→lt a c=true) (kE:∀ a b,a≠b→lt a b=false→lt b a=true):∀ {xs l:List α},l.Pairwise (fun a b=>lt a b=true)→(nV (lt:=lt) l xs).Pairwise fun a b=>lt a b=true
 | [],_,h=>h
 |_::xs,_,h=>Ds oW kE (xs:=xs) (Ie oW kE h)
omit [DecidableEq α] in
theorem Dt (s5:∀ a,lt a a=false) (oW:∀ a b c,lt a b=true→lt b c=true→lt a c=true):∀ {a b:List α},a.Pairwise (fun x y=>lt x y=true)→b.Pairwise (fun x y=>lt x y=true)→(∀ x,x∈a↔x∈b)→a=b
 | [],[],_,_,_=>rfl
 | [],y::b,_,_,h=>by have:=(h y).2 (List.mem_cons_self ..); simp at this
 |x::a,[],_,_,h=>by have:=(h x).1 (List.mem_cons_self ..); simp at this
 |x::a,y::b,ha,hb,h=>by
  obtain ⟨a1,a2⟩:=List.pairwise_cons.1 ha;obtain ⟨b1,b2⟩:=List.pairwise_cons.1 hb;have no:∀ u v,lt u v=true→lt v u=true→False:=fun u v h1 h2=>by have:=oW _ _ _ h1 h2; rw [s5] at this; cases this
  have e:x=y:=by
   rcases List.mem_cons.1 ((h x).1 (List.mem_cons_self ..)) with e | e
   ·exact e
   ·rcases List.mem_cons.1 ((h y).2 (List.mem_cons_self ..)) with e2 | e2
    ·exact e2.symm
    ·exact (no _ _ (b1 x e) (a1 y e2)).elim
  subst e
  congr 1
  refine Dt s5 oW a2 b2 fun z=>?_;constructor
  ·intro hz;rcases List.mem_cons.1 ((h z).1 (List.mem_cons_of_mem _ hz)) with e | e
   ·subst e; have:=a1 _ hz; rw [s5] at this; cases this
   ·exact e
  ·intro hz;rcases List.mem_cons.1 ((h z).2 (List.mem_cons_of_mem _ hz)) with e | e
   ·subst e; have:=b1 _ hz; rw [s5] at this; cases this
   ·exact e
end
theorem Du {b:Int} {dw:List aS} {x:cu}:∀ {L:List cu} {met:List Text},dm met b dw (L++[x])=dm met b dw L++if x.other∈met++(dm met b dw L).map bK.name then [] else [⟨x.other,[],b,x.bH,dw++[x.bH]⟩]
 | [],met=>by simp [dm]
 |y::r,met=>by
  rw [List.cons_append,dm,dm];split
  ·exact Du
  ·rw [Du,List.cons_append];simp only [List.map_cons,List.append_assoc,List.singleton_append]
theorem ev.closed {J:ka} {s:Text} {R:List bK} (H:ev J s R []):rF J (R.map bK.name):=fun n hn x hx=>by
 obtain ⟨v,hv,rfl⟩:=List.mem_map.1 hn
 simpa using (H.shut v hv).2 x hx
theorem ev.sub {J:ka} {s t:Text} {R Q:List bK} (H:ev J s R []) (K:ev J t Q []) (h:t∈R.map bK.name):∀ v∈Q,v.name∈R.map bK.name:=fun v hv =>
 K.least _ h H.closed v (by simpa using hv)
def fL (R:List bK):List Text:=R.flatMap (·.aq)
theorem ev.s6 {J:ka} {s:Text} {R:List bK} (H:ev J s R []) {z:Text}:z∈fL R↔∃ n∈R.map bK.name,z∈(J n).1:=by
 rw [fL,List.mem_flatMap];constructor
 ·rintro ⟨v,hv,hz⟩;exact ⟨v.name,List.mem_map.2 ⟨v,hv,rfl⟩,(H.shut v hv).1 ▸ hz⟩
 ·rintro ⟨n,hn,hz⟩;obtain ⟨v,hv,rfl⟩:=List.mem_map.1 hn;exact ⟨v,hv,(H.shut v hv).1 ▸ hz⟩
theorem ev.YE {J:ka} {s t:Text} {R Q:List bK} (H:ev J s R []) (K:ev J t Q []) (h:t∈R.map bK.name):∀ z∈fL Q,z∈fL R:=fun z hz=>by
 obtain ⟨n,hn,h2⟩:=K.s6.1 hz;obtain ⟨v,hv,rfl⟩:=List.mem_map.1 hn;exact H.s6.2 ⟨_,H.sub K h v hv,h2⟩
theorem Ph {J J':ka} {s:Text} {U:List Text} (hs:s∈U) (hU:rF J U) (h:∀ n∈U,J' n=J n):∀ (n:Nat) (done wait:List bK),ev J s done wait→kH J' n done wait=kH J n done wait
 | 0,_,_,_=>rfl
 |n+1,done,[],_=>rfl
 |n+1,done,v::w,H=>by
  rw [kH,kH,h v.name (H.least U hs hU v (by simp))];exact Ph hs hU h n _ _ H.next
theorem ev.back {J:ka} {s:Text} {R:List bK} (H:ev J s R []) {i:Nat} {v:bK} (h:R[i]? = some v):(v.before = -1∧v.list=[])∨∃ (b:Nat) (u:bK),v.before=b∧b<i∧R[b]? = some u∧v.list=u.list++[v.bH]:=by
 rcases H.prev i v (by simpa using h) with ⟨h1,h2,_⟩ | ⟨b,u,x,h1,h2,_,h4,_,_,_,h8⟩
 ·exact .inl ⟨h1,h2⟩
 ·exact .inr ⟨b,u,h1,h2,h4,h8⟩
theorem ev.asked {J:ka} {s:Text} {R:List bK} (H:ev J s R []):∀ (i:Nat) (v:bK),R[i]? = some v→∀ q∈v.list,∃ n∈R.map bK.name,∃ x∈(J n).2,x.bH=q:=by
 intro i
 induction i using Nat.strongRecOn with
 |ind i ih =>
  intro v h q hq;rcases H.prev i v (by simpa using h) with ⟨h1,h2,_⟩ | ⟨b,u,x,h1,h2,_,h4,h5,_,h7,h8⟩
  ·rw [h2] at hq; simp at hq
  ·rw [h8] at hq;rcases List.mem_append.1 hq with hq | hq
   ·exact ih b h2 u h4 q hq
   ·simp at hq;exact ⟨u.name,List.mem_map.2 ⟨u,List.mem_of_getElem? h4,rfl⟩,x,h5,by rw [hq,h7]⟩
end Go.Proofs.YtcmnpelmmekdkaaGreatDoor.P
