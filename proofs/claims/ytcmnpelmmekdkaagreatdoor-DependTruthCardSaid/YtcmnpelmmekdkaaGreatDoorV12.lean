/- Lemmas of mine. Conditions: as stated. -/
import Derived.Test.YtcmnpelmmekdkaaGreatDoorV9
import Derived.Test.YtcmnpelmmekdkaaGreatDoorV10
set_option linter.unusedVariables false
set_option linter.unusedSimpArgs false
section
namespace Go.Proofs.YtcmnpelmmekdkaaGreatDoor.P
open Go Go.aA
set_option maxRecDepth 100000
def dep(t:Text):Nat:=(Nm.labels t).length
def Fair(l:List aH):Prop:=∀ (ad:Text) (z:aQ) (q:aG),eB l ad=some z->(bK z q).kind=4->Nm.under q.name (bK z q).cut=true/\dep ad<dep (bK z q).cut
theorem DN{s z:Text}(h:Nm.under s z=true):dep z<=dep s:=by
 have:=(s7.1 h).length_le
 simpa [dep]using this
theorem IT{l:List aH}{s:Text}:∀ {n:Nat} {ad:Text},ad∈(dz l s n ad).1
 |0,ad=>by simp[dz]
 |n+1,ad=>by
  rw[dz];split
  ·simp
  ·split<;>simp
theorem PX{l:List aH}{s:Text}:∀ {n:Nat} {ad:Text} {x:bP},x∈(dz l s n ad).2->(x.bw.type=2/\x.bw.name∈(dz l s n ad).1)\/x.bw=⟨s,3⟩
 |0,ad,x,h=>by simp[dz]at h
 |n+1,ad,x,h=>by
  rw[dz]at h ⊢;cases e:eB l ad with
  |none=>rw[e]at h;simp at h
  |some Y =>
   rw[e]at h;simp only at h ⊢;split
   ·rename_i h4;rw[if_pos h4]at h;simp only[List.mem_append]at h;rcases h with h|h|h
    ·obtain⟨h1,_⟩:=DM.1 h;rw[h1];exact .inl ⟨rfl,by simp⟩
    ·obtain⟨h1,_⟩:=DM.1 h;rw[h1];exact .inl ⟨rfl,List.mem_cons_of_mem _ IT⟩
    ·rcases PX h with⟨h1,h2⟩|h1
     ·exact .inl ⟨h1,List.mem_cons_of_mem _ h2⟩
     ·exact .inr h1
   ·rename_i h4;rw[if_neg h4]at h;rcases List.mem_append.1 h with h|h
    ·obtain⟨h1,_⟩:=DM.1 h;rw[h1];exact .inl ⟨rfl,by simp⟩
    ·unfold pg at h;split at h
     ·simp at h;subst h;exact .inr rfl
     ·simp at h
def iC(l:List aH)(q:aG):Nat->Text->Option iI
 |0,_=>none
 |n+1,ad=>match eB l ad with
  |none=>none
  |some z=>if (bK z q).kind=4 then iC l q n (bK z q).cut else some (bK z q)
theorem IU{l:List aH}{s:Text}(F:Fair l):∀ {n:Nat} {ad:Text},Nm.under s ad=true->dep s<n+dep ad->(iC l ⟨s,1⟩ n ad=none↔∃ z∈(dz l s n ad).1,eB l z=none)
 |0,ad,hu,hd=>by have:=DN hu;omega
 |n+1,ad,hu,hd=>by
  rw[iC,dz];cases e:eB l ad with
  |none=>simp[e]
  |some Y =>
   simp only;by_cases h4:(bK Y ⟨s,1⟩).kind=4
   ·rw[if_pos h4,if_pos h4];obtain⟨g1,g2⟩:=F ad Y ⟨s,1⟩ e h4;rw[IU (s:=s) F g1 (by omega)];simp[e]
   ·rw[if_neg h4,if_neg h4];simp[e]
theorem PY{l:List aH}{s:Text}{a:iI}:∀ {n:Nat} {ad:Text},iC l ⟨s,1⟩ n ad=some a->a.kind=3->(⟨⟨s,3⟩,yd a⟩:bP)∈(dz l s n ad).2
 |0,ad,h,_=>by simp[iC]at h
 |n+1,ad,h,h3=>by
  rw[iC]at h;rw[dz];cases e:eB l ad with
  |none=>rw[e]at h;cases h
  |some Y =>
   rw[e]at h;simp only at h ⊢;split
   ·rename_i h4;rw[if_pos h4]at h;exact List.mem_append_right _ (List.mem_append_right _ (PY h h3))
   ·rename_i h4;rw[if_neg h4]at h;cases h;refine List.mem_append_right _ ?_;rw[pg,if_pos h3];simp
def mA(l:List aH)(t:Int):Nat->List Signed->Text->iI × Int
 |0,_,_=>(⟨0,[],[]⟩,33)
 |n+1,kept,s=>match iC l ⟨s,t⟩ 64 [46]with
  |none=>(⟨0,[],[]⟩,34)
  |some a=>if a.kind=3 then mA l t n (kept++a.ab.take 1) (yd a)else(⟨a.kind,kept++a.ab,a.cut⟩,0)
theorem Zs{l:List aH}{s:Text}{R:List bu}(F:Fair l)(H:fP (gI l) s R [])(hN:∀ t∈R.map bu.name,Nm.under t [46]=true/\dep t<64):(∃ t∈R.map bu.name,(mA l 1 9 [] t).2=34)↔∃ z∈gY R,eB l z=none:=by
 have main:∀ (n:Nat) (kept:List Signed) (t:Text),t∈R.map bu.name->(mA l 1 n kept t).2=34->∃ z∈gY R,eB l z=none:=by
  intro n
  induction n with
  |zero=>intro kept t _ h;simp[mA]at h
  |succ n ih =>
   intro kept t ht h;rw[mA]at h;cases e:iC l ⟨t,1⟩ 64 [46]with
   |none =>
    obtain⟨z,h1,h2⟩:=(IU F (hN t ht).1 (by have:=(hN t ht).2;omega)).1 e;exact⟨z,H.DJ.2 ⟨t,ht,h1⟩,h2⟩
   |some a =>
    rw[e]at h;simp only at h;split at h
    ·rename_i h3;exact ih _ _ (H.closed t ht _ (A4.2 (PY e h3))) h
    ·simp at h
 constructor
 ·rintro⟨t,ht,h⟩;exact main 9 [] t ht h
 ·rintro⟨z,hz,h⟩;obtain⟨t,ht,h2⟩:=H.DJ.1 hz;refine⟨t,ht,?_⟩;rw[mA,(IU F (hN t ht).1 (by have:=(hN t ht).2;omega)).2 ⟨z,h2,h⟩]
theorem PZ(z:aQ)(q:aG):(fY z q).kind≠4:=by
 unfold fY;repeat' split
 all_goals simp
theorem IV{z:aQ}{q:aG}(h:(bK z q).kind=4):Nm.under q.name z.ad=true/\∃ c,gW z q.name=some c/\bK z q=⟨4,bN z.ab (gX z.ab c),c⟩:=by
 unfold bK at h ⊢;by_cases hu:Nm.under q.name z.ad=true
 ·rw[if_pos hu]at h;rw[if_pos hu];refine⟨hu,?_⟩;cases hc:gW z q.name with
  |none=>rw[hc]at h;exact absurd h (PZ z q)
  |some c =>
   rw[hc]at h;simp only at h ⊢;by_cases e:q.name=c/\(q.type=6\/q.type=8)
   ·rw[if_pos e]at h;exact absurd h (PZ z q)
   ·exact⟨c,rfl,by rw[if_neg e]⟩
 ·rw[if_neg hu]at h;simp at h
theorem Zt{c a:Text}(hu:Nm.under c a=true)(aM:c≠a):dep a<dep c:=by
 have h1:=s7.1 hu;have h2:=h1.length_le;rcases Nat.lt_or_ge (dep a) (dep c)with h|h
 ·exact h
 ·exfalso;have e:=h1.eq_of_length (by simp[dep]at h h2 ⊢;omega);apply aM;have e2:Nm.labels a=Nm.labels c:=by simpa using e
  rw[<- rU c,<- e2,rU]
theorem P0{z:aQ}{q:aG}(V:eH z)(h:(bK z q).kind=4):Nm.under q.name (bK z q).cut=true/\dep z.ad<dep (bK z q).cut/\Nm.valid (bK z q).cut=true:=by
 obtain⟨-,c,h1,h2⟩:=IV h;rw[h2];have h3:Nm.under q.name c=true:=by have:=List.find?_some h1;simpa using this
 obtain⟨s,hs,e,hc⟩:=nZ (List.mem_of_find?_eq_some h1);simp only[iH,Bool.and_eq_true,beq_iff_eq,bne_iff_ne]at hc;have:=V.under s hs;subst e;exact⟨h3,Zt this hc.2,V.names s hs⟩
theorem A5{l:List aH}{ad:Text}{z:aQ}(h:eB l ad=some z):z.ad=ad/\∃ p∈l,p.aC=z:=by
 obtain⟨k,q,-,h2,rfl⟩:=PW h;exact⟨h2.home,q,List.mem_of_getElem? h2.at_,rfl⟩
def dY(l:List aH):Prop:=∀ p∈l,eF p.aC=true
theorem dY.at_{l:List aH}(H:dY l){ad:Text}{z:aQ}(h:eB l ad=some z):eF z=true/\z.ad=ad:=by
 obtain⟨e,p,hp,rfl⟩:=A5 h;exact⟨H p hp,e⟩
theorem DO{l:List aH}(H:dY l):Fair l:=fun ad z q hz h4=>by
 obtain⟨h0,e⟩:=H.at_ hz;obtain⟨h1,h2,-⟩:=P0 (kY h0) h4;exact⟨h1,by rw[<- e];exact h2⟩
theorem P1{l:List Signed}{ps:List Int}{s:Signed}(h:s∈bN l ps):s∈l:=by
 obtain⟨p,-,e⟩:=get_mem.1 h;exact List.mem_of_getElem? e
theorem Zu{z:aQ}{q:aG}{s:Signed}:s∈(fY z q).ab->s∈z.ab:=by
 unfold fY;repeat' split
 all_goals exact P1
theorem P2{z:aQ}{q:aG}{s:Signed}:s∈(bK z q).ab->s∈z.ab:=by
 unfold bK;repeat' split
 all_goals first|exact Zu|exact P1|(intro h;simp at h)
theorem Zv{p:Int}{r:List Int}(h:0<=p):∃ r',b8 (p::r)=p::r':=by
 have main:∀ (r acc:List Int),∃ r',r.foldl du (p::acc)=p::r':=by
  intro r
  induction r with
  |nil=>intro acc;exact⟨acc,rfl⟩
  |cons x r ih =>
   intro acc;rw[List.foldl_cons];unfold du;split
   ·exact ih acc
   ·exact ih (acc++[x])
 have e:du [] p=[p]:=by unfold du;rw[if_neg (by rintro(e|e);omega;simp at e)];rfl
 rw[b8,List.foldl_cons,e];exact main r []
theorem P3{l:List Signed}{q:aG}{r:List Int}(h:0<=aq l q):∃ s r' m,b8 (aq l q::r)=aq l q::r'/\m=bN l r'/\bN l (b8 (aq l q::r))=s::m/\s∈l/\cE q s=true/\l[(aq l q).toNat]?=some s:=by
 obtain⟨s,h1,h2⟩:=jN h;obtain⟨r',e⟩:=Zv (r:=r) h;refine⟨s,r',bN l r',e,rfl,?_,List.mem_of_getElem? h1,h2,h1⟩;rw[e,bN,List.filterMap_cons,h1];rfl
theorem Zw{z:aQ}{q:aG}:(fY z q).kind=3->∃ s m,(fY z q).ab=s::m/\s∈z.ab/\s.set.type=3:=by
 have key:∀ (n:Text) (r:List Int),0<=aq z.ab ⟨n,3⟩->∃ s m,bN z.ab (b8 (aq z.ab ⟨n,3⟩::r))=s::m/\s∈z.ab/\s.set.type=3:=fun n r h=>by
  obtain⟨s,r',m,-,-,e,h1,h2,-⟩:=P3 (r:=r) h;exact⟨s,m,e,h1,(congrArg aG.type (qj h2)).symm⟩
 unfold fY;by_cases h1:0<=aq z.ab q
 ·rw[if_pos h1];intro h;simp at h
 rw[if_neg h1];by_cases h2:0<=aq z.ab ⟨q.name,3⟩/\q.type≠8
 ·rw[if_pos h2];intro _;have:=key q.name [] h2.1;rw[AX h2.1]at this;exact this
 rw[if_neg h2];by_cases h3:gG z.ab q.name=true
 ·rw[if_pos h3];intro h;simp at h
 rw[if_neg h3];cases hw:pc z.ab q.name with
 |none=>intro h;simp at h
 |some w =>
  simp only;by_cases h4:0<=aq z.ab ⟨w,q.type⟩
  ·rw[if_pos h4];intro h;simp at h
  rw[if_neg h4];by_cases h5:0<=aq z.ab ⟨w,3⟩/\q.type≠8
  ·rw[if_pos h5];intro _;exact key w _ h5.1
  rw[if_neg h5];split<;>(intro h;simp at h)
theorem Zx{z:aQ}{q:aG}(h:(bK z q).kind=3):∃ s m,(bK z q).ab=s::m/\s∈z.ab/\s.set.type=3:=by
 revert h
 unfold bK;repeat' split
 all_goals first|exact Zw|(intro h;simp at h)
theorem Zy{ps:List Int}:(b8 ps).Nodup:=by
 have main:∀ (ps acc:List Int),acc.Nodup->(ps.foldl du acc).Nodup:=by
  intro ps
  induction ps with
  |nil=>intro acc h;exact h
  |cons x ps ih =>
   intro acc h;rw[List.foldl_cons];apply ih;unfold du;split
   ·exact h
   ·rename_i hn;rw[List.nodup_append];exact⟨h,by simp,fun a ha c hc e=>by simp at hc;subst hc;subst e;exact hn (.inr ha)⟩
 exact main ps [] List.nodup_nil
theorem IW{α β:Type}{f:α->List β}{s:α}:∀ {l:List α} {k:Nat},l[k]?=some s->(∀ i x,l[i]?=some x->i≠k->f x=[])->l.flatMap f=f s
 |[],k,h,_=>by simp at h
 |x::l,0,h,ho=>by
  simp at h;subst h;rw[List.flatMap_cons];have:l.flatMap f=[]:=by
   rw[List.flatMap_eq_nil_iff];intro y hy;obtain⟨i,hi⟩:=List.getElem?_of_mem hy;exact ho (i+1) y (by simpa using hi) (by omega)
  rw[this,List.append_nil]
 |x::l,k+1,h,ho=>by
  rw[List.flatMap_cons,ho 0 x rfl (by omega),List.nil_append];exact IW (k:=k) (by simpa using h) fun i y hi hn=>ho (i+1) y (by simpa using hi) (by omega)
def fk(ad:Text)(D:List Datum):List bP:=D.map fun d=>⟨⟨ad,2⟩,d.text⟩
theorem IX{l:List Signed}{ad:Text}{s:Signed}(hs:fj l)(h:0<=aq l ⟨ad,2⟩)(hx:l[(aq l ⟨ad,2⟩).toNat]?=some s):er ad l=fk ad s.set.data:=by
 obtain⟨s',h1,h2⟩:=jN h;rw[hx]at h1;cases h1;have e:=qj h2;have e1:s.set.name=ad:=(congrArg aG.name e).symm;have e2:s.set.type=2:=(congrArg aG.type e).symm;rw[er,IW hx]
 ·rw[if_pos ⟨e1,e2⟩];rfl
 ·intro i x hi hn;refine if_neg fun⟨c1,c2⟩=>hn ?_;have:=xZ hs hi;rw[c1,c2]at this;omega
theorem DP{z:aQ}{q:aG}(V:eH z)(h4:(bK z q).kind=4):∃ s m,(bK z q).ab=s::m/\s∈z.ab/\s.set.name=(bK z q).cut/\s.set.type=2/\er (bK z q).cut (bK z q).ab=fk (bK z q).cut s.set.data:=by
 obtain⟨-,c,h1,h2⟩:=IV h4;rw[h2];simp only;obtain⟨-,g2⟩:=DA V h1;obtain⟨s,r',m,e1,rfl,e2,h3,h5,h6⟩:=P3 (r:=eA z.ab c::lP z.ab c) g2;have e:=qj h5;have n1:s.set.name=c:=(congrArg aG.name e).symm;have n2:s.set.type=2:=(congrArg aG.type e).symm;refine⟨s,_,e2,h3,n1,n2,?_⟩;rw[gX,e2,er,IW (k:=0) rfl]
 ·rw[if_pos ⟨n1,n2⟩];rfl
 ·intro i x hi hn;refine if_neg fun⟨c1,c2⟩=>?_;obtain⟨i,rfl⟩:∃ j,i=j+1:=⟨i-1,by omega⟩;have hm:x∈bN z.ab r':=List.mem_of_getElem? (by simpa using hi);obtain⟨p,hp,hx⟩:=get_mem.1 hm;have P4:=xZ V.sorted hx;rw[c1,c2]at P4;have fE:=Zy (ps:=aq z.ab ⟨c,2⟩::eA z.ab c::lP z.ab c);have cD:=(Ig.1 (show p∈b8 (aq z.ab ⟨c,2⟩::eA z.ab c::lP z.ab c) by rw[e1];exact List.mem_cons_of_mem _ hp)).1;rw[e1,List.nodup_cons]at fE;apply fE.1;rw[P4,Int.toNat_of_nonneg cD];exact hp
theorem P5{s:eM}(h:fg s=true)(ht:s.type=2\/s.type=3):∀ d∈s.data,Nm.valid d.text=true:=fun d hd=>by
 simp only[fg,Bool.and_eq_true]at h;have:=CU h.2 d hd;rcases ht with ht|ht;all_goals
  rw[ht]at this;simp only[jH,Bool.and_eq_true]at this;have:=this.2;simp[mj,fL]at this;exact this.1
def univ(l:List aH):List Text:=l.flatMap fun p=>p.aC.ab.flatMap fun s=>s.set.data.map (·.text)
theorem P6{l:List aH}{t:Text}:t∈univ l↔∃ p∈l,∃ s∈p.aC.ab,∃ d∈s.set.data,d.text=t:=by simp[univ,List.mem_flatMap]
theorem DQ{z:aQ}{q:aG}(V:eH z)(h:(bK z q).kind=3):∃ s m d D,(bK z q).ab=s::m/\s∈z.ab/\s.set.type=3/\s.set.data=d::D/\yd (bK z q)=d.text/\Nm.valid d.text=true:=by
 obtain⟨s,m,h1,h2,h3⟩:=Zx h;have aO:=V.ab s h2;have hlen:=(rF aO).2.2.1;obtain⟨d,D,hd⟩:∃ d D,s.set.data=d::D:=by
  cases e:s.set.data with
  |nil=>rw[e]at hlen;simp at hlen
  |cons d D=>exact⟨d,D,rfl⟩
 refine⟨s,m,d,D,h1,h2,h3,hd,?_,P5 aO (.inr h3) d (by rw[hd];simp)⟩;rw[yd,h1];simp only;rw[hd]
theorem A6{l:List aH}(H:dY l){s:Text}:∀ {n:Nat} {ad:Text} {x:bP},x∈(dz l s n ad).2->x.other∈univ l/\Nm.valid x.other=true
 |0,ad,x,h=>by simp[dz]at h
 |n+1,ad,x,h=>by
  rw[dz]at h;cases e:eB l ad with
  |none=>rw[e]at h;simp at h
  |some Y =>
   rw[e]at h;simp only at h;obtain⟨-,p,hp,rfl⟩:=A5 e;have V:=kY (H p hp);have sv:∀ {a:Text} {L:List Signed},(∀ y∈L,y∈p.aC.ab)->x∈er a L->x.other∈univ l/\Nm.valid x.other=true:=fun hL hx=>by
    obtain⟨-,y,hy,-,ht,d,hd,eE⟩:=DM.1 hx;exact⟨P6.2 ⟨p,hp,y,hL y hy,d,hd,eE⟩,by rw[<- eE];exact P5 (V.ab y (hL y hy)) (.inl ht) d hd⟩
   split at h
   ·rename_i h4;simp only[List.mem_append]at h;rcases h with h|h|h
    ·exact sv (fun y hy=>hy) h
    ·exact sv (fun y hy=>P2 hy) h
    ·exact A6 H h
   ·rcases List.mem_append.1 h with h|h
    ·exact sv (fun y hy=>hy) h
    ·unfold pg at h;split at h
     ·rename_i h3;simp at h;subst h;obtain⟨y,m,d,D,g1,g2,g3,g4,g5,g6⟩:=DQ V h3;simp only;rw[g5];exact⟨P6.2 ⟨p,hp,y,g2,d,by rw[g4];simp,rfl⟩,g6⟩
     ·simp at h
theorem DR{l:List aH}(H:dY l){s:Text}:∀ {n:Nat} {ad:Text},Nm.valid ad=true->∀ z∈(dz l s n ad).1,Nm.valid z=true
 |0,ad,ha,z,h=>by simp[dz]at h;subst h;exact ha
 |n+1,ad,ha,z,h=>by
  rw[dz]at h;cases e:eB l ad with
  |none=>rw[e]at h;simp at h;subst h;exact ha
  |some Y =>
   rw[e]at h;simp only at h;split at h
   ·rename_i h4;rcases List.mem_cons.1 h with h|h
    ·subst h;exact ha
    ·exact DR H (P0 (kY (H.at_ e).1) h4).2.2 z h
   ·simp at h;subst h;exact ha
theorem DS{l:List aH}(H:dY l)(s:Text):AZ (gI l) (s::univ l):=fun n _ x hx=>List.mem_cons_of_mem _ (A6 H (A4.1 hx)).1
def tH(l:List aH):Nat:=(univ l).length+2
def eY(l:List aH)(s:Text):List bu:=pd (gI l) (tH l) [] [⟨s,[],-1,⟨[],0⟩,[]⟩]
theorem tI{l:List aH}(H:dY l)(s:Text):fP (gI l) s (eY l s) []:=PR (U:=s::univ l) (List.mem_cons_self ..) (DS H s) _ _ _ fP.init (by simp[tH])
theorem P7{l:List aH}(H:dY l){s:Text}(hs:Nm.valid s=true):∀ v∈eY l s,Nm.valid v.name=true:=fun v hv=>by
 have:=(tI H s).least ((s::univ l).filter fun t=>Nm.valid t) (by simp[hs]) (fun n _ x hx=>by
  obtain⟨h1,h2⟩:=A6 H (A4.1 hx)
  simp[h1,h2]) v (by simpa using hv)
 simpa using(List.mem_filter.1 this).2
theorem IY{l:List aH}(H:dY l)(s:Text):(eY l s).length<=(univ l).length+1:=by
 have:=IN (U:=s::univ l) (List.mem_cons_self ..) (DS H s) (tI H s)
 simpa using this
def lT(a b:Text):Bool:=decide (bC a b<0)
def ik(l:List aH)(s:Text):List Text:=fH (lt:=lT) [] (gY (eY l s))
theorem DT(a b c:Text)(h:lT a b=true)(k:lT b c=true):lT a c=true:=by
 simp only[lT,decide_eq_true_eq]at *;exact qb h k
theorem P8(a b:Text)(aM:a≠b)(h:lT a b=false):lT b a=true:=by
 simp only[lT,decide_eq_true_eq,decide_eq_false_iff_not]at *;rcases A3 aM with h1|h1
 ·exact absurd h1 h
 ·exact h1
theorem P9(a:Text):lT a a=false:=by simp[lT,kp]
theorem r8{l:List aH}{s z:Text}:z∈ik l s↔z∈gY (eY l s):=by
 rw[ik,DG];simp
theorem Zz{l:List aH}{s:Text}:(ik l s).Pairwise fun a b=>lT a b=true:=DH DT P8 List.Pairwise.nil
theorem ZA{l:List aH}{s:Text}(H:dY l):s∈(eY l s).map bu.name:=by simpa using(tI H s).start
theorem P'{l:List aH}{s:Text}(H:dY l):[46]∈ik l s:=r8.2 ((tI H s).DJ.2 ⟨s,ZA H,IT⟩)
theorem ZB{l:List aH}{s:Text}(H:dY l):∀ z∈ik l s,Nm.valid z=true:=fun z hz=>by
 obtain⟨n,-,h⟩:=(tI H s).DJ.1 (r8.1 hz);exact DR H (by decide) z h
end Go.Proofs.YtcmnpelmmekdkaaGreatDoor.P
end
section
namespace Go.Proofs.YtcmnpelmmekdkaaGreatDoor.P
open Go Go.aA
set_option maxRecDepth 100000
set_option maxHeartbeats 4000000
theorem yh{l:List aH}{ad:Text}{n:Nat} : -1<=dT l ad n/\dT l ad n<n:=by
 rcases vU (l:=l) (ad:=ad) n with⟨h,-⟩|⟨k,q,h,h2⟩
 ·omega
 ·have:=h2.lt;omega
theorem I4(l:List aH)(ad:Text)(H:dY l)(hl:l.length<=1000000):az E 21 [.sl (l.map aH.enc),.str ad] (· = .int .i64 (ky l ad)):=by
 refine eP F21 ?_;refine aa.loop (κ:=Nat) (rg 5 55) (fun k=>[(6,.d (.int .i64 k)),(5,.d (.int .i64 (dT l ad k)))]) (fun _=>[]) (fun k=>k<=l.length) (fun k=>l.length-k) 0 (Nat.zero_le _) ?_ ?_
 ·(conv=>whnf);repeat (first|exact trivial|(refine sI ?_;conv=>whnf))
  refine And.intro rfl ?_;exact sZ
 intro k hk IH;have hb:=yh (l:=l) (ad:=ad) (n:=k);have bj:dT l ad (k+1)=yb l ad (dT l ad k) k:=rfl;have gh:=vU (l:=l) (ad:=ad) k;generalize zj:dT l ad k=b at hb bj gh ⊢;refine aa.head ag F21 2000 ?_;(conv=>whnf);refine ar (fun h5=>?_) (fun h5=>?_)
 ·have ai:k<l.length:=by simpa using h5
  obtain⟨p,hp⟩:=bd ai;have hz:=H p (List.mem_of_getElem? hp);rw[yb,hp]at bj;simp only at bj;refine gO F21 ?_;refine aD (e:=p.enc) (aU hp) rfl ?_;refine gO F21 ?_;by_cases ha:p.aC.ad=ad
  ·rw[if_pos ha]at bj;refine aP (by simpa using ha) ?_;refine gO F21 ?_;by_cases h0:b<0
   ·rw[if_pos h0]at bj;refine aJ (decide_eq_true h0) ?_;refine gO F21 ?_;refine aa.back (IH (k+1) (by omega) (by omega)) ?_;rw[bj];exact sZ
   ·rw[if_neg h0]at bj;obtain⟨m,rfl⟩:∃ m:Nat,b=m:=⟨b.toNat,by omega⟩;obtain⟨q,hq⟩:=bd (l:=l) (k:=m) (by omega);have ZW:=H q (List.mem_of_getElem? hq);rw[Int.toNat_natCast,hq]at bj;simp only at bj;refine aP (decide_eq_false h0) ?_;refine gO F21 ?_;refine aD (e:=p.enc) (aU hp) rfl ?_;refine gO F21 ?_;refine aj (OX p.aC hz) ?_;refine gO F21 ?_;refine aD (e:=q.enc) (aU hq) rfl ?_;refine gO F21 ?_;refine aj (OX q.aC ZW) ?_;refine gO F21 ?_;by_cases h1:iW p.aC>iW q.aC
    ·have hf:ep p q=true:=by simp[ep];omega
     rw[hf,if_pos rfl]at bj;refine aa.draw ag bU 20 2000 (by kernel_rfl) ?_;(conv=>whnf);refine aJ (decide_eq_true h1) ?_;refine gD ?_;refine gS ?_;refine gO F21 ?_;refine bq ?_;refine gO F21 ?_;refine aa.back (IH (k+1) (by omega) (by omega)) ?_;rw[bj];exact sZ
    ·refine aa.draw ag bU 20 2000 (by kernel_rfl) ?_;(conv=>whnf);refine aP (decide_eq_false h1) ?_;refine gD ?_;by_cases h2:iW p.aC=iW q.aC
     ·refine aJ (by simpa using h2) ?_;refine gD ?_;refine aD (e:=p.enc) (aU hp) rfl ?_;refine gD ?_;refine aD (e:=q.enc) (aU hq) rfl ?_;refine gD ?_;refine gS ?_;refine gO F21 ?_;by_cases h3:p.host<q.host
      ·have hf:ep p q=true:=by simp[ep];omega
       rw[hf,if_pos rfl]at bj;refine aJ (decide_eq_true h3) ?_;refine gO F21 ?_;refine aa.back (IH (k+1) (by omega) (by omega)) ?_;rw[bj];exact sZ
      ·have hf:ep p q=false:=by simp[ep];omega
       rw[hf,if_neg (by decide)]at bj;refine aP (decide_eq_false h3) ?_;refine gO F21 ?_;refine aa.back (IH (k+1) (by omega) (by omega)) ?_;rw[bj];exact sZ
     ·have hf:ep p q=false:=by simp[ep];omega
      rw[hf,if_neg (by decide)]at bj;refine aP (by simpa using h2) ?_;refine gD ?_;refine gS ?_;refine gO F21 ?_;refine aV ?_;refine gO F21 ?_;refine aa.back (IH (k+1) (by omega) (by omega)) ?_;rw[bj];exact sZ
  ·rw[if_neg ha]at bj;refine aJ (by simpa using ha) ?_;refine gO F21 ?_;refine aa.back (IH (k+1) (by omega) (by omega)) ?_;rw[bj];exact sZ
 ·have aL:l.length<=k:=by simpa using h5
  obtain rfl:k=l.length:=by omega
  refine gO F21 ?_;rw[<- zj];rfl
@[reducible] def ga (v : bu) : DV := .agg [.str v.name, .aW, .int .i64 v.before, .str v.bw.name, .int .i64 v.bw.type]
theorem ab0{b g k cp:Nat}{l m:List DV}(hk:k<=l.length):∃ k' q' l',yf b g l m k cp=.cut b (g+1) k' q'/\ye l m k cp=l'/\l'.drop k'=l.drop k++m/\k'<=l'.length/\l'.length<=l.length+m.length:=by
 unfold yf ye;by_cases h:l.length+m.length<=cp
 ·rw[if_pos h,if_pos h];exact⟨k,some cp,_,rfl,rfl,by rw[List.drop_append_of_le_length hk],by simp;omega,by simp⟩
 ·rw[if_neg h,if_neg h];exact⟨0,none,_,rfl,rfl,by simp,by simp,by simp⟩
theorem ab1(v:bu):aB E 84 [.cells [.d .aW]] [.ptr 0 0,.d (ga v)] (fun a b=>a=.aK []/\b=[.cells [.own 2 1],.cells [.d (.str v.name),.d .aW,.d (.int .i64 v.before),.d (.str v.bw.name),.d (.int .i64 v.bw.type)],.arr 1 (96,5) [ga v]]):=by
 refine aB.run ag (fn:=Tryz.f84) Tryz.func84 (body:=Tryz.f84.body.getD .skip) rfl (by decide) 2000 rfl ?_;(conv=>whnf);refine aa.QI ag bU [0,1,2,3,5,6,8,9] (fun h=>h∈[[.cells [.d .aW],.cells [.d (.str v.name),.d .aW,.d (.int .i64 v.before),.d (.str v.bw.name),.d (.int .i64 v.bw.type)]],[.cells [.d .aW],.cells [.d (.str v.name),.d .aW,.d (.int .i64 v.before),.d (.str v.bw.name),.d (.int .i64 v.bw.type)],.arr 1 (96,5) [ga v]],[.cells [.own 2 1],.cells [.d (.str v.name),.d .aW,.d (.int .i64 v.before),.d (.str v.bw.name),.d (.int .i64 v.bw.type)],.arr 1 (96,5) [ga v]]]) (by kernel_rfl) (by simp) ?_;refine dv.float (.ptr 0 0) rfl rfl (fun h' hh=>?_) ?_
 ·simp only[List.mem_cons,List.not_mem_nil,or_false]at hh;rcases hh with rfl|rfl|rfl<;>(refine aZ.run ag ?_;(conv=>whnf);exact⟨rfl,rfl⟩)
 refine dv.float (.ptr 0 0) rfl rfl (fun h' hh=>?_) ?_
 ·simp only[List.mem_cons,List.not_mem_nil,or_false]at hh;rcases hh with rfl|rfl|rfl<;>(refine aZ.run ag ?_;(conv=>whnf);exact⟨rfl,rfl⟩)
 refine dv.float (.ptr 0 0) rfl rfl (fun h' hh=>?_) ?_
 ·simp only[List.mem_cons,List.not_mem_nil,or_false]at hh;rcases hh with rfl|rfl|rfl<;>(refine aZ.run ag ?_;(conv=>whnf);exact⟨rfl,rfl⟩)
 refine dv.float (.ptr 0 0) rfl rfl (fun h' hh=>?_) ?_
 ·simp only[List.mem_cons,List.not_mem_nil,or_false]at hh;rcases hh with rfl|rfl|rfl<;>(refine aZ.run ag ?_;(conv=>whnf);exact⟨rfl,rfl⟩)
 refine dv.op (.d .aW) ([.cells [.d .aW],.cells [.d (.str v.name),.d .aW,.d (.int .i64 v.before),.d (.str v.bw.name),.d (.int .i64 v.bw.type)]]) rfl rfl ?_ (by simp) ?_
 ·refine aZ.run ag ?_;(conv=>whnf);exact⟨rfl,rfl⟩
 refine dv.float (.d (ga v)) rfl rfl (fun h' hh=>?_) ?_
 ·simp only[List.mem_cons,List.not_mem_nil,or_false]at hh;rcases hh with rfl|rfl|rfl<;>(refine aZ.run ag ?_;(conv=>whnf);exact⟨rfl,rfl⟩)
 refine dv.float (.d (.sl [ga v])) rfl rfl (fun h' hh=>?_) ?_
 ·simp only[List.mem_cons,List.not_mem_nil,or_false]at hh;rcases hh with rfl|rfl|rfl<;>(refine aZ.run ag ?_;(conv=>whnf);exact⟨rfl,rfl⟩)
 refine dv.op (.own 2 1) ([.cells [.d .aW],.cells [.d (.str v.name),.d .aW,.d (.int .i64 v.before),.d (.str v.bw.name),.d (.int .i64 v.bw.type)],.arr 1 (96,5) [ga v]]) rfl rfl ?_ (by simp) ?_
 ·refine aZ.run ag ?_;(conv=>whnf);refine bB ⟨by simp,by simp[DV.cells]⟩ ?_;(conv=>whnf);exact⟨rfl,rfl⟩
 refine dv.float (.ptr 0 0) rfl rfl (fun h' hh=>?_) ?_
 ·simp only[List.mem_cons,List.not_mem_nil,or_false]at hh;rcases hh with rfl|rfl|rfl<;>(refine aZ.run ag ?_;(conv=>whnf);exact⟨rfl,rfl⟩)
 refine dv.float (.ptr 0 0) rfl rfl (fun h' hh=>?_) ?_
 ·simp only[List.mem_cons,List.not_mem_nil,or_false]at hh;rcases hh with rfl|rfl|rfl<;>(refine aZ.run ag ?_;(conv=>whnf);exact⟨rfl,rfl⟩)
 refine dv.op (.d .undef) ([.cells [.own 2 1],.cells [.d (.str v.name),.d .aW,.d (.int .i64 v.before),.d (.str v.bw.name),.d (.int .i64 v.bw.type)],.arr 1 (96,5) [ga v]]) rfl rfl ?_ (by simp) ?_
 ·refine aZ.run ag ?_;(conv=>whnf);exact⟨rfl,rfl⟩
 refine dv.fin ?_;refine gO Tryz.func84 ?_;exact⟨rfl,rfl⟩
theorem ab2(v:bu)(k:Nat)(q:Option Nat)(l:List DV)(hl:l.length<=2147483647):aB E 84 [.cells [.cut 1 0 k q],.arr 0 (96,5) l] [.ptr 0 0,.d (ga v)] (fun a b=>∃ k' q' l',(l'.drop k'=l.drop k++[ga v]/\k'<=l'.length/\l'.length<=l.length+1)/\a=.aK []/\b=[.cells [.cut 1 1 k' q'],.arr 1 (96,5) l',.cells [.d (.str v.name),.d .aW,.d (.int .i64 v.before),.d (.str v.bw.name),.d (.int .i64 v.bw.type)]]):=by
 refine aB.run ag (fn:=Tryz.f84) Tryz.func84 (body:=Tryz.f84.body.getD .skip) rfl (by decide) 2000 rfl ?_;(conv=>whnf);refine aa.ZP (b:=0) (off:=0) (j:=1) rfl rfl rfl fun cp hk=>?_;(conv=>whnf);obtain⟨k',q',l',e1,e2,e3,e4,e5⟩:=ab0 (b:=1) (g:=0) (k:=k) (cp:=cp) (l:=l) (m:=[ga v]) hk;refine aa.QI ag bU [0,1,2,3,5,6,8,9] (fun h=>h∈[[.cells [.cut 1 0 k (some cp)],.arr 0 (96,5) l,.cells [.d (.str v.name),.d .aW,.d (.int .i64 v.before),.d (.str v.bw.name),.d (.int .i64 v.bw.type)]],[.cells [.cut 1 0 k (some cp)],.arr 1 (96,5) l',.cells [.d (.str v.name),.d .aW,.d (.int .i64 v.before),.d (.str v.bw.name),.d (.int .i64 v.bw.type)]],[.cells [.cut 1 1 k' q'],.arr 1 (96,5) l',.cells [.d (.str v.name),.d .aW,.d (.int .i64 v.before),.d (.str v.bw.name),.d (.int .i64 v.bw.type)]]]) (by kernel_rfl) (by simp) ?_;refine dv.float (.ptr 0 0) rfl rfl (fun h' hh=>?_) ?_
 ·simp only[List.mem_cons,List.not_mem_nil,or_false]at hh;rcases hh with rfl|rfl|rfl<;>(refine aZ.run ag ?_;(conv=>whnf);exact⟨rfl,rfl⟩)
 refine dv.float (.ptr 0 0) rfl rfl (fun h' hh=>?_) ?_
 ·simp only[List.mem_cons,List.not_mem_nil,or_false]at hh;rcases hh with rfl|rfl|rfl<;>(refine aZ.run ag ?_;(conv=>whnf);exact⟨rfl,rfl⟩)
 refine dv.float (.ptr 0 0) rfl rfl (fun h' hh=>?_) ?_
 ·simp only[List.mem_cons,List.not_mem_nil,or_false]at hh;rcases hh with rfl|rfl|rfl<;>(refine aZ.run ag ?_;(conv=>whnf);exact⟨rfl,rfl⟩)
 refine dv.float (.ptr 0 0) rfl rfl (fun h' hh=>?_) ?_
 ·simp only[List.mem_cons,List.not_mem_nil,or_false]at hh;rcases hh with rfl|rfl|rfl<;>(refine aZ.run ag ?_;(conv=>whnf);exact⟨rfl,rfl⟩)
 refine dv.op (.cut 1 0 k (some cp)) ([.cells [.cut 1 0 k (some cp)],.arr 0 (96,5) l,.cells [.d (.str v.name),.d .aW,.d (.int .i64 v.before),.d (.str v.bw.name),.d (.int .i64 v.bw.type)]]) rfl rfl ?_ (by simp) ?_
 ·refine aZ.run ag ?_;(conv=>whnf);exact⟨rfl,rfl⟩
 refine dv.float (.d (ga v)) rfl rfl (fun h' hh=>?_) ?_
 ·simp only[List.mem_cons,List.not_mem_nil,or_false]at hh;rcases hh with rfl|rfl|rfl<;>(refine aZ.run ag ?_;(conv=>whnf);exact⟨rfl,rfl⟩)
 refine dv.float (.d (.sl [ga v])) rfl rfl (fun h' hh=>?_) ?_
 ·simp only[List.mem_cons,List.not_mem_nil,or_false]at hh;rcases hh with rfl|rfl|rfl<;>(refine aZ.run ag ?_;(conv=>whnf);exact⟨rfl,rfl⟩)
 refine dv.op (.cut 1 1 k' q') ([.cells [.cut 1 0 k (some cp)],.arr 1 (96,5) l',.cells [.d (.str v.name),.d .aW,.d (.int .i64 v.before),.d (.str v.bw.name),.d (.int .i64 v.bw.type)]]) rfl rfl ?_ (by simp) ?_
 ·rw[<- e1,<- e2];exact ZN ag rfl rfl rfl rfl rfl rfl rfl rfl rfl rfl rfl rfl (bg rfl) (bg rfl) rfl (by simp[DV.cells]) (by simp) (by simp;omega)
 refine dv.float (.ptr 0 0) rfl rfl (fun h' hh=>?_) ?_
 ·simp only[List.mem_cons,List.not_mem_nil,or_false]at hh;rcases hh with rfl|rfl|rfl<;>(refine aZ.run ag ?_;(conv=>whnf);exact⟨rfl,rfl⟩)
 refine dv.float (.ptr 0 0) rfl rfl (fun h' hh=>?_) ?_
 ·simp only[List.mem_cons,List.not_mem_nil,or_false]at hh;rcases hh with rfl|rfl|rfl<;>(refine aZ.run ag ?_;(conv=>whnf);exact⟨rfl,rfl⟩)
 refine dv.op (.d .undef) ([.cells [.cut 1 1 k' q'],.arr 1 (96,5) l',.cells [.d (.str v.name),.d .aW,.d (.int .i64 v.before),.d (.str v.bw.name),.d (.int .i64 v.bw.type)]]) rfl rfl ?_ (by simp) ?_
 ·refine aZ.run ag ?_;(conv=>whnf);exact⟨rfl,rfl⟩
 refine dv.fin ?_;refine gO Tryz.func84 ?_;exact⟨k',q',l',⟨e3,e4,by simpa using e5⟩,rfl,rfl⟩
theorem ab3(k:Nat)(q:Option Nat)(l:List DV)(h:l.drop k=[]):aB E 85 [.cells [.cut 1 0 k q],.arr 0 (96,5) l] [.ptr 0 0] (fun a b=>a=.aK [.d (ga ⟨[],[],0,⟨[],0⟩,[]⟩),.d (.bool false)]/\cS 2 [] 0 b=[.cells [.cut 1 0 k q],.arr 0 (96,5) l]):=by
 refine aB.run ag (fn:=Tryz.f85) Tryz.func85 (body:=Tryz.f85.body.getD .skip) rfl (by decide) 2000 rfl ?_;(conv=>whnf);refine aa.Qe ag rfl rfl rfl rfl rfl rfl (bg rfl) rfl ?_;intro hk;have e0:l.length-k=0:=by have:=congrArg List.length h;simpa using this
 (conv=>whnf);refine gO F85 ?_;refine aJ (by rw[e0];rfl) ?_;refine gO F85 ?_;exact⟨rfl,rfl⟩
theorem ab4(k:Nat)(q:Option Nat)(l:List DV)(v:bu)(r:List DV)(h:l.drop k=ga v::r):aB E 85 [.cells [.cut 1 0 k q],.arr 0 (96,5) l] [.ptr 0 0] (fun a b=>a=.aK [.d (ga v),.d (.bool true)]/\cS 2 [] 0 b=[.cells [.cut 1 0 (k+1) q],.arr 0 (96,5) l]):=by
 have hlen:l.length-k=r.length+1:=by have:=congrArg List.length h;simpa using this
 have dH:l[k]?=some (ga v):=by
  have:=congrArg (·[0]?) h
  simpa using this
 refine aB.run ag (fn:=Tryz.f85) Tryz.func85 (body:=Tryz.f85.body.getD .skip) rfl (by decide) 2000 rfl ?_;(conv=>whnf);refine aa.Qe ag rfl rfl rfl rfl rfl rfl (bg rfl) rfl ?_;intro hk;(conv=>whnf);refine gO F85 ?_;refine aP (by rw[hlen];simp;omega) ?_;refine gO F85 ?_;refine aa.ZF ag (n:=0) rfl rfl rfl rfl rfl rfl (bg rfl) qo rfl (by omega) ?_;(conv=>whnf);refine gO F85 ?_;refine fu (ga v) (by omega) (by simpa using dH) rfl ?_;refine gO F85 ?_;refine aa.ZG ag (n:=1) rfl rfl rfl rfl rfl rfl (bg rfl) qo rfl (by omega) ?_;(conv=>whnf);refine gO F85 ?_;exact⟨rfl,rfl⟩
end Go.Proofs.YtcmnpelmmekdkaaGreatDoor.P
end
section
namespace Go.aA
open Go Go.RowKit
section
variable {E:Env} {s:List AV} {h:List af}
def Rw(E:Env)(s:List AV)(h:List af)(o:Oper)(k:List AV->List af->Prop):Prop:=match o.op with
 | .insert t m x v=>aY E.T t False fun ti=>match ti.k with
  | .map kt _=>cK E.G s m False fun
   | .map b=>aY h b False fun
    | .map es=>cK E.G s x False fun
     | .d y=>cK E.G s v False fun
      | .d z=>zk E kt False fun kd=>need (eh E.T kd y/\∀ p∈es,eh E.T kd p.1) (fI h b (.map (cx y z es)) fun h'=>bL s o.dst (.d .undef) fun s'=>k s' h')
      |_=>False
     |_=>False
    |_=>False
   |_=>False
  |_=>False
 |_=>False
theorem aa.insert(hE:E.OK){ae:FuncId}{R:bZ}{ops:Array Oper}{td:List aI}{lits:List Nat}{o:Oper}{r:List Oper}(hg:o.guard=none)
  (H:Rw E s h o fun s' h'=>aa E ae R lits (.bF ops r::td) s' h'):aa E ae R lits (.bF ops (o::r)::td) s h:=by
 unfold Rw at H;split at H
 case h_2=>exact H.elim
 rename_i t m x v bX;rcases bp H with H|⟨ti,cm,H⟩
 ·exact H.elim
 split at H
 case h_2=>exact H.elim
 rename_i kt e hk;rcases cL H with H|⟨a,ha,H⟩
 ·exact H.elim
 split at H
 case h_2=>exact H.elim
 rename_i b;rcases bp H with H|⟨bx,hb,H⟩
 ·exact H.elim
 split at H
 case h_2=>exact H.elim
 rename_i es;rcases cL H with H|⟨y,hy,H⟩
 ·exact H.elim
 split at H
 case h_2=>exact H.elim
 rename_i y;rcases cL H with H|⟨z,hz,H⟩
 ·exact H.elim
 split at H
 case h_2=>exact H.elim
 rename_i z;rcases Fy H with H|⟨kd,hT,H⟩
 ·exact H.elim
 obtain⟨⟨f1,f2⟩,H⟩:=nF H;rw[gJ,df]at H;exact .of (.op (eK hg) (KF hE (.inr bX) cm hk hT hb ha hy hz f1 f2) H.to)
end
theorem yr{h h':List af}{K:Prop}(H:K):∀ (D:List Nat),xb h h' (D.map .mark) K
 |[]=>H
 |_::D=>yr H D
section
variable {E:Env} {ae:FuncId} {R:bZ} {k:List aI} {s:List AV} {h:List af}
@[reducible] def Ei (R : bZ) (D : List Nat) : bZ := ⟨R.n, R.Q, R.rows, ⟨R.fx.f0, none, D, [], D.map .mark, R.fx.inl⟩⟩
theorem aa.ab5{lits:List Nat}{b:Code}{κ:Type}(fD:List Nat)(vars:κ->List (Nat × AV))(boxes:κ->List (Nat × af))(Φ:κ->Prop)(μ:κ->Nat)(x0:κ)(h0:Φ x0)(hR:R=Ei R [])
  (sQ:rj fD (mU (boxes x0)) (vars x0) (boxes x0) s h fun s' h'=>uU R.n h s h' s')
  (sR:∀ (D:List Nat) x,Φ x->(∀ (D':List Nat) y,Φ y->μ y<μ x->aa E ae (Ei R D') [] (.inLoop b::k) (lG (vars y) (anyS fD (lI (mU (boxes x0)) s))) (lH (boxes y) h))->aa E ae (Ei R D) [] (.code b :: .inLoop b::k) (lG (vars x) (anyS fD (lI (mU (boxes x0)) s))) (lH (boxes x) h)) :
  aa E ae R lits (.code (.loop b)::k) s h:=by
 have main:∀ n (D:List Nat) x,μ x<n->Φ x->aa E ae (Ei R D) [] (.inLoop b::k) (lG (vars x) (anyS fD (lI (mU (boxes x0)) s))) (lH (boxes x) h):=by
  intro n
  induction n with
  |zero=>intro D x hx;omega
  |succ n ih=>intro D x hx hP;exact .of (.inLoop (sR D x hP fun D' y hy hm=>ih D' y (by omega) hy).to)
 rw[xe]at sQ;rw[hR];exact .of (.loop (.weaken sQ (sR [] x0 h0 fun D' y hy _=>main (μ y+1) D' y (by omega) hy).to))
end
theorem acF{c:Cx}{f:Fn}{v:Value}(hv:VR c (.d (.fn f)) v):VR c (.fn f [] []) v:=by
 cases hv with
 |d _ _ h=>cases h;exact .fn _ [] [] #[] #[] rfl rfl (fun j x v hx=>by simp at hx) (fun j x v hx=>by simp at hx)
theorem acG{c:Cx}{f:Fn}{v:Value}(hv:VR c (.fn f [] []) v):VR c (.d (.fn f)) v:=by
 obtain⟨v1,v2,rfl,e1,e2⟩:=l8 hv;obtain rfl:v1=[]:=List.eq_nil_of_length_eq_zero (by have:=e1.1;simpa using this.symm);obtain rfl:v2=[]:=List.eq_nil_of_length_eq_zero (by have:=e2.1;simpa using this.symm);exact .d _ _ (.fn f)
theorem acH{G:List (Nat × DV)}{s:List AV}{x:Operand}{f:Fn}(h:bh G s x (.d (.fn f))):bh G s x (.fn f [] []):=fun c a h3 h4=>acF (h c a h3 h4)
section
variable {E:Env} {s:List AV} {h:List af}
theorem aa.RJ{ae:FuncId}{R:bZ}{lits:List Nat}{td:List aI}{b off:Nat}{f:Fn}{cs:List AV}(hb:h[b]?=some (.cells cs))(hd:cs[off]?=some (.fn f [] []))
  (H:aa E ae R lits td s (h.set b (.cells (cs.set off (.d (.fn f)))))):aa E ae R lits td s h:=by
 replace H:=H.to;refine .of (.jX (fun c t ec h1 h2 h3 h4 h5=>?_) H);subst h2;have eD:=a7 hb
 let c':Cx:={ c with heap:=c.heap.set b (.cells (cs.set off (.d (.fn f)))) }
 have pb:c'.heap[b]?=some (.cells (cs.set off (.d (.fn f)))):=by
  show(c.heap.set b _)[b]?=_;rw[List.getElem?_set_self eD]
 have np:∀ i,i≠b->c'.heap[i]?=c.heap[i]? := fun i hi=>by
  show(c.heap.set b _)[i]?=_;rw[List.getElem?_set_ne (Ne.symm hi)]
 have aT:Step c c':=⟨rfl,h3.bE,rfl,rfl,rfl,Nat.le_refl _,fun _ _ _=>rfl,fun i x n hi _=>⟨n,hi⟩,fun i bx hi=>by
  by_cases bR:i=b
  ·subst bR;rw[hb]at hi;cases hi;exact .inl ⟨_,pb,rfl,by simp⟩
  ·exact mN hi (np i bR) rfl⟩
 have aO:aE E.G c':=h3.next aT (fun i x n hi=>by
   have:=h3.bI i x n hi;refine⟨this.1,?_⟩;show i<(c.heap.set b _).length;simp;omega) h3.inj (fun i bx hi=>by
  by_cases bR:i=b
  ·subst bR;rw[pb]at hi;cases hi;right;obtain⟨blk,cap,vs,ty,g1,g2,g3,g4⟩:=h3.box i _ hb;refine⟨blk,cap,vs,ty,g1,g2,by simpa using g3,fun q x v hx hv=>?_⟩;by_cases hq:q=off
   ·subst hq;rw[List.getElem?_set_self (a7 hd)]at hx;cases hx;exact acG (aT.vr (g4 q _ v hd hv))
   ·rw[List.getElem?_set_ne (Ne.symm hq)]at hx;exact aT.vr (g4 q x v hx hv)
  ·rw[np i bR]at hi
   exact .inl ⟨hi,rfl,fun _ _ _=>rfl⟩)
 exact⟨c',t,ec,h1,rfl,aO,aT.vs h4,aT.cr h5,aT,fun _ => .refl _ _⟩
theorem aa.Eo{ae:FuncId}{R:bZ}{lits:List Nat}{td:List aI}{ops:Array Oper}{o:Oper}{l:List Oper}{fx:Operand}{args:Array Operand}{ts:Array TypeId}{f:FuncId}{ds:List DV}{r:DV}(hg:o.guard=none)(ho:o.op=.call { callee := .value fx,args:=args,argTypes:=ts })
  (hf:bh E.G s fx (.d (.fn (.func f)))) (ha:iw E.G s args.toList (ds.map .d)) (hc:az E f ds (· = r))
  (H:bL s o.dst (.d r) fun s'=>aa E ae R lits (.bF ops l::td) s' h):aa E ae R lits (.bF ops (o::l)::td) s h:=by
 rw[df]at H;exact .of (.call (eK hg) ho (acH hf) ha (by simp) hc fun r1 e=>by subst e;exact H.to)
end
end Go.aA
end
