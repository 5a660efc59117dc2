/- Several texts of mine, one behind the other. Conditions: as each says. -/
import Derived.Test.YtfmdaiojokniiaaGreatDoorW43
set_option linter.unusedVariables false
set_option linter.unusedSimpArgs false
namespace Go.aw
open Go Go.RowKit
theorem au.T1 {E:Env} {f:FuncId} {ds:List DV} {h:List ab} {cs:List AV} {r:DV} (H:au E f [.agg ds] (· = r)) (hd:ou h cs=some ds) (hr:BV r=true) (hg:tx cs=true) (lv:oq h=true):aq E f h [.agg cs] (fun a b=>a = .d r∧b=h):=by
 unfold au at H;unfold aq;refine ⟨H.1,kI lv,fun c vs h1 h2 h3=>?_⟩;subst h1;have iu:pc E.G c.ax c.w:=fun g e aK=>by
  have hp:∀ p,VR c (.bD e 0) p→VR ⟨fun _=>none,[],c.ax,c.w⟩ (.bD e 0) p:=fun p hp=>by
   cases hp with
   |bD _ _ blk o' fv k1 k2 k3 k4=>exact .bD _ _ blk o' fv (fun hb=>k1 (.inl (qF.1 hb))) k2 k3 (fun j x hx=>qG ((k4 j x hx).mono fun b _ hn=>⟨fun hb=>hn (.inl hb),rfl⟩))
  exact hp _ (h2.eJ g e aK)
 have hv:gV c.ax c.w [.agg ds] vs:=by
  obtain ⟨v,rfl⟩:∃ v,vs=[v]:=by
   have:=h3.1
   match vs,this with
   | [v],_=>exact ⟨v,rfl⟩
  obtain ⟨us,rfl,hu⟩:=mO (h3.2 0 _ v rfl rfl);have:=yw h2 (kI lv) hd hg hu;refine ⟨rfl,fun j x u hx hu=>?_⟩;cases j with
  |zero=>simp at hx hu; subst hx; subst hu; exact .agg _ _ (by simpa using this.1) fun j x v hx hv=>this.2 j x v hx (by simpa using hv)
  |succ j=>simp at hx
 refine (H.2 c.ax c.w vs h2.bG iu hv).mono fun e w' ⟨v,r',k1,k2,k3,k4⟩=>?_;subst k2;obtain ⟨q1,q2⟩:=h2.grow k4;exact ⟨c.dL w',.d r',v,k1,rfl,⟨rfl,rfl⟩,.d _ _ (Gd hr k3),q1,(Rel.refl c (kI lv)).step q2⟩
theorem T2 {E:Env} {s:List AV} {h:List ab} (hE:E.OK) {args:Array Operand} {qO:Array TypeId} {x y:Operand} {t0 t1 e e1:Nat} {i0 i1 ei:bh} {m:List DV} (hx:args.toList=[x,y]) (xU:qO.toList=[t0,t1]) (jm:E.T[t0]? = some i0) (sO:E.T[t1]? = some i1) (eL:i0.k = .slice e) (dx:i1.k = .slice e1) (bL:E.T[e]? = some ei)
  (hz:ei.zero.length=ei.size) (cB:Nat.blt 0 ei.size=true) (nY:Nat.ble ei.bytes 65536=true) (ha:aQ E.G s x (.d .aD)) (hy:aQ E.G s y (.d (.sl m))) (hm:∀ e∈m,e.cells.length=ei.size) (pj:m.length≤2147483648) :
  bw E (.call { callee := .builtin .append,args:=args,argTypes:=qO }) s h (.d (.sl m)) (h++[.gone]):=fun o c ac h1 h2 h3 h4=>by
 have Kc:=fX cB;have ho:=EW (h:=h) hE hx xU jm sO eL (fun k e=>by rw [dx] at e; cases e) bL hz Kc (Nat.le_of_ble_eq_true nY) hy hm (fun c v hv=>by cases hv with | d _ _ hv=>exact ER Kc hm hv) ha (r := .own h.length 1) (h':=h++[.arr 1 (e,ei.size) m]) (.inr ⟨rfl,pj,rfl,rfl⟩);obtain ⟨c1,v,k1,k2,k3,k4,k5⟩:=ho o c ac h1 h2 h3 h4;obtain ⟨c2,j1,j2,j3,j4,j5⟩:=k3.rest (b:=h.length) (g:=1) (ts:=(e,ei.size)) (l:=m) (by rw [k2]; simp);exact ⟨c2,v,by rw [j2]; exact k1,by rw [j1,k2]; simp,j3,j5 v k4,k5.trans j4⟩
end Go.aw
