/- Several texts of mine, one behind the other. Conditions: as each says. -/
import Derived.Test.YtfmdaiojokniiaaGreatDoorY42
set_option linter.unusedVariables false
set_option linter.unusedSimpArgs false
section
namespace Go.Proofs.YtfmdaiojokniiaaGreatDoor.P
open Go Go.ax
set_option maxRecDepth 100000
section
variable {α:Type} [DecidableEq α] {en:α→DV}
theorem Kg (hk:∀ a b,dY (en a) (en b)=decide (a=b)) {x:α}:∀ {l:List α},x∈l→bM (en x) (.bool true) (l.map fun a=>(en a,DV.bool true))=l.map fun a=>(en a,DV.bool true)
 | [],h=>by simp at h
 |y::l,h=>by
  show bM (en x) (.bool true) ((en y,DV.bool true)::l.map fun a=>(en a,DV.bool true))=_;simp only [bM,hk];by_cases e:y=x
  ·subst e; simp
  ·have hm:x∈l:=(List.mem_cons.1 h).resolve_left fun q=>e q.symm;have:=Kg hk hm;first
    |rw [if_neg (by simpa using e),this]; rfl
    |rw [if_neg (by simpa using fun q=>e q.symm),this]; rfl
theorem Kh (hk:∀ a b,dY (en a) (en b)=decide (a=b)) {x:α}:∀ {l:List α},x ∉ l→bM (en x) (.bool true) (l.map fun a=>(en a,DV.bool true))=(l++[x]).map fun a=>(en a,DV.bool true)
 | [],h=>rfl
 |y::l,h=>by
  have h1:y≠x:=fun e=>h (e ▸ List.mem_cons_self ..);have h2:x ∉ l:=fun e=>h (List.mem_cons_of_mem _ e);show bM (en x) (.bool true) ((en y,DV.bool true)::l.map fun a=>(en a,DV.bool true))=_;have:=Kh hk h2;simp only [bM,hk];first
   |rw [if_neg (by simpa using h1),this]; rfl
   |rw [if_neg (by simpa using fun q=>h1 q.symm),this]; rfl
theorem Ty (hk:∀ a b,dY (en a) (en b)=decide (a=b)) (l:List α):dJ en l=(dK [] l).map fun a=>(en a,DV.bool true):=by
 have main:∀ (n:Nat),dJ en (l.take n)=(dK [] (l.take n)).map fun a=>(en a,DV.bool true):=by
  intro n
  induction n with
  |zero=>rfl
  |succ n ih =>
   cases h:l[n]? with
   |none =>
    have:l.length≤n:=by simpa using h
    rw [List.take_of_length_le (by omega),← List.take_of_length_le this];exact ih
   |some x =>
    rw [DY h,ih,cQ h,Ju];split
    ·rename_i hm; exact Kg hk hm
    ·rename_i hm; exact Kh hk hm
 have:=main l.length
 rwa [List.take_length] at this
end
section
variable {α:Type}
def jY (xs:List α) (seen:List Nat):List α:=seen.filterMap fun j=>xs[j]?
theorem Ki {xs:List α} {seen:List Nat} {j:Nat} {a:α} (h:xs[j]? = some a):jY xs (seen++[j])=jY xs seen++[a]:=by
 rw [jY,List.filterMap_append];simp [jY,h]
theorem Tz {xs:List α} {seen:List Nat}:(jY xs seen).length≤seen.length:=List.length_filterMap_le ..
theorem TA (xs:List α):jY xs (List.range xs.length)=xs:=by
 have main:∀ (n:Nat),n≤xs.length→jY xs (List.range n)=xs.take n:=by
  intro n
  induction n with
  |zero=>intro _; simp [jY]
  |succ n ih =>
   intro h;obtain ⟨a,ha⟩:=aD (l:=xs) (k:=n) (by omega);rw [List.range_succ,Ki ha,ih (by omega),cQ ha]
 rw [main _ (Nat.le_refl _),List.take_length]
theorem TB {xs:List α} {seen:List Nat} (hn:seen.Nodup) (ai:∀ j∈seen,j<xs.length) (aH:∀ j,j<xs.length→j∈seen):(jY xs seen).Perm xs:=by
 have h:seen.Perm (List.range xs.length):=(List.perm_ext_iff_of_nodup hn List.nodup_range).2 fun j=>by
  rw [List.mem_range];exact ⟨ai j,aH j⟩
 have:=h.filterMap (fun j=>xs[j]?);have e:=TA xs;unfold jY at e;rw [e] at this;exact this
theorem Kj {xs:List α} {seen:List Nat} (hn:seen.Nodup) (ai:∀ j∈seen,j<xs.length):seen.length≤xs.length:=by
 have:=Ht hn (U:=List.range xs.length) fun j hj=>List.mem_range.2 (ai j hj)
 simpa using this
end
end Go.Proofs.YtfmdaiojokniiaaGreatDoor.P
end
section
namespace Go.ax
open Go Go.RowKit
theorem aq.Vq {E:Env} {f:FuncId} {ds:List DV} {h:List ae} {cs:List AV} {r:DV} (H:aq E f [.agg ds] (· = r)) (hd:oJ h cs=some ds) (hr:Cm r=true) (hg:tU cs=true) (lR:oH h=true):aw E f h [.agg cs] (fun a b=>a = .d r∧b=h):=by
 unfold aq at H;unfold aw;refine ⟨H.1,l3 lR,fun c vs h1 h2 h3=>?_⟩;subst h1;have iK:qU E.G c.ay c.w:=fun g e aC=>by
  have hp:∀ p,VR c (.bJ e 0) p→VR ⟨fun _=>none,[],c.ay,c.w⟩ (.bJ e 0) p:=fun p hp=>by
   cases hp with
   |bJ _ _ blk o' fv k1 k2 k3 k4=>exact .bJ _ _ blk o' fv (fun hb=>k1 (.inl (ta.1 hb))) k2 k3 (fun j x hx=>tc ((k4 j x hx).mono fun b _ hn=>⟨fun hb=>hn (.inl hb),rfl⟩))
  exact hp _ (h2.fm g e aC)
 have hv:iC c.ay c.w [.agg ds] vs:=by
  obtain ⟨v,rfl⟩:∃ v,vs=[v]:=by
   have:=h3.1
   match vs,this with
   | [v],_=>exact ⟨v,rfl⟩
  obtain ⟨us,rfl,hu⟩:=nk (h3.2 0 _ v rfl rfl);have:=yY h2 (l3 lR) hd hg hu;refine ⟨rfl,fun j x u hx hu=>?_⟩;cases j with
  |zero=>simp at hx hu; subst hx; subst hu; exact .agg _ _ (by simpa using this.1) fun j x v hx hv=>this.2 j x v hx (by simpa using hv)
  |succ j=>simp at hx
 refine (H.2 c.ay c.w vs h2.bN iK hv).mono fun e w' ⟨v,r',k1,k2,k3,k4⟩=>?_;subst k2;obtain ⟨q1,q2⟩:=h2.grow k4;exact ⟨c.dL w',.d r',v,k1,rfl,⟨rfl,rfl⟩,.d _ _ (GI hr k3),q1,(Rel.refl c (l3 lR)).step q2⟩
theorem Vr {E:Env} {s:List AV} {h:List ae} (hE:E.OK) {args:Array Operand} {rh:Array TypeId} {x y:Operand} {t0 t1 e e1:Nat} {i0 i1 ei:bk} {m:List DV} (hx:args.toList=[x,y]) (yq:rh.toList=[t0,t1]) (jF:E.T[t0]? = some i0) (tn:E.T[t1]? = some i1) (cJ:i0.k = .slice e) (cZ:i1.k = .slice e1) (bP:E.T[e]? = some ei)
  (hz:ei.zero.length=ei.size) (cA:Nat.blt 0 ei.size=true) (oq:Nat.ble ei.bytes 65536=true) (ha:aZ E.G s x (.d .aL)) (hy:aZ E.G s y (.d (.sl m))) (hm:∀ e∈m,e.cells.length=ei.size) (pE:m.length≤2147483648) :
  bC E (.call { callee := .builtin .append,args:=args,argTypes:=rh }) s h (.d (.sl m)) (h++[.gone]):=fun o c ac h1 h2 h3 h4=>by
 have K5:=gq cA;have ho:=Fs (h:=h) hE hx yq jF tn cJ (fun k e=>by rw [cZ] at e; cases e) bP hz K5 (Nat.le_of_ble_eq_true oq) hy hm (fun c v hv=>by cases hv with | d _ _ hv=>exact Fj K5 hm hv) ha (r := .own h.length 1) (h':=h++[.arr 1 (e,ei.size) m]) (.inr ⟨rfl,pE,rfl,rfl⟩);obtain ⟨c1,v,k1,k2,k3,k4,k5⟩:=ho o c ac h1 h2 h3 h4;obtain ⟨c2,j1,j2,j3,j4,j5⟩:=k3.rest (b:=h.length) (g:=1) (ts:=(e,ei.size)) (l:=m) (by rw [k2]; simp);exact ⟨c2,v,by rw [j2]; exact k1,by rw [j1,k2]; simp,j3,j5 v k4,k5.trans j4⟩
end Go.ax
end
