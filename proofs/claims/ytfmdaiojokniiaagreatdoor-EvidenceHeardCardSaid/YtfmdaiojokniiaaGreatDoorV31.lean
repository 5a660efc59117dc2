/- Several texts of mine, one behind the other. Conditions: as each says. -/
import Derived.Test.YtfmdaiojokniiaaGreatDoorV29
import Derived.Test.YtfmdaiojokniiaaGreatDoorV30
set_option linter.unusedVariables false
set_option linter.unusedSimpArgs false
section
namespace Go.Proofs.YtfmdaiojokniiaaGreatDoor.P
open Go Go.aw
set_option maxRecDepth 100000
set_option maxHeartbeats 4000000
theorem Tf (a b:List Datum) (hl:a.length≤2147483648):aq E 113 [.sl (a.map Datum.enc),.sl (b.map Datum.enc)] (· = .bool (decide (a=b))):=by
 refine eP Tryz.func113 ?_;refine ai (fun h3=>?_) (fun h3=>?_)
 ·have aJ:a≠b:=by rintro rfl; simp at h3
  rw [decide_eq_false aJ];refine gO Tryz.func113 ?_
  with_reducible rfl
 have nO:a.length=b.length:=by simp at h3; omega
 refine gO Tryz.func113 ?_;refine I.loop (κ:=Nat) ([4,5]++rg 13 13) (fun k=>[(13,.d (.int .i64 k))]) (fun _=>[]) (fun k=>k≤a.length∧a.take k=b.take k) (fun k=>a.length - k) 0 ⟨Nat.zero_le _,rfl⟩ ?_ ?_
 ·exact sZ
 intro k hk IH;refine I.head af Tryz.func113 2000 ?_;(conv=>whnf);refine ai (fun h7=>?_) (fun h7=>?_)
 ·have aj:k<a.length:=by simpa using h7
  obtain ⟨u,hu⟩:=aL aj;obtain ⟨w,hw⟩:=aL (l:=b) (k:=k) (by omega);refine gO Tryz.func113 ?_;refine I.bH af bI 2000 (by kernel_rfl) ?_;(conv=>whnf);refine aE (e:=u.enc) (aX hu) rfl ?_;refine gD ?_;refine aE (e:=w.enc) (aX hw) rfl ?_;refine gD ?_;refine gO Tryz.func113 ?_;refine ai (fun h8=>?_) (fun h8=>?_)
  ·have aJ:u≠w:=by rintro rfl; simp at h8
   refine gO Tryz.func113 ?_;rw [decide_eq_false (mH hu hw aJ)]
  ·have e1:u=w:=by
    obtain ⟨u1,u2,u3⟩:=u;obtain ⟨w1,w2,w3⟩:=w;simp at h8;simp [h8]
   refine gO Tryz.func113 ?_;refine I.back (IH (k+1) ⟨by omega,pv hk.2 hu hw e1⟩ (by omega)) ?_;exact sZ
 ·have aC:k=a.length:=by simp at h7; omega
  have s6:a=b:=pw hk.2 (by omega) (by omega);refine gO Tryz.func113 ?_;simp [s6]
theorem Tg (a b:List cX) (hl:a.length≤2147483648):aq E 114 [.sl (a.map cX.enc),.sl (b.map cX.enc)] (· = .bool (decide (a=b))):=by
 refine eP Tryz.func114 ?_;refine ai (fun h3=>?_) (fun h3=>?_)
 ·have aJ:a≠b:=by rintro rfl; simp at h3
  rw [decide_eq_false aJ];refine gO Tryz.func114 ?_
  with_reducible rfl
 have nO:a.length=b.length:=by simp at h3; omega
 refine gO Tryz.func114 ?_;refine I.loop (κ:=Nat) ([4,5]++rg 13 13) (fun k=>[(13,.d (.int .i64 k))]) (fun _=>[]) (fun k=>k≤a.length∧a.take k=b.take k) (fun k=>a.length - k) 0 ⟨Nat.zero_le _,rfl⟩ ?_ ?_
 ·exact sZ
 intro k hk IH;refine I.head af Tryz.func114 2000 ?_;(conv=>whnf);refine ai (fun h7=>?_) (fun h7=>?_)
 ·have aj:k<a.length:=by simpa using h7
  obtain ⟨u,hu⟩:=aL aj;obtain ⟨w,hw⟩:=aL (l:=b) (k:=k) (by omega);refine gO Tryz.func114 ?_;refine I.bH af bI 2000 (by kernel_rfl) ?_;(conv=>whnf);refine aE (e:=u.enc) (aX hu) rfl ?_;refine gD ?_;refine aE (e:=w.enc) (aX hw) rfl ?_;refine gD ?_;refine gO Tryz.func114 ?_;refine ai (fun h8=>?_) (fun h8=>?_)
  ·have aJ:u≠w:=by rintro rfl; simp at h8
   refine gO Tryz.func114 ?_;rw [decide_eq_false (mH hu hw aJ)]
  ·have e1:u=w:=by
    obtain ⟨u1,u2,u3,u4,u5,u6⟩:=u;obtain ⟨w1,w2,w3,w4,w5,w6⟩:=w;simp at h8;simp [h8]
   refine gO Tryz.func114 ?_;refine I.back (IH (k+1) ⟨by omega,pv hk.2 hu hw e1⟩ (by omega)) ?_;exact sZ
 ·have aC:k=a.length:=by simp at h7; omega
  have s6:a=b:=pw hk.2 (by omega) (by omega);refine gO Tryz.func114 ?_;simp [s6]
end Go.Proofs.YtfmdaiojokniiaaGreatDoor.P
end
section
namespace Go.aw
open Go Go.RowKit
theorem aq.VH {E:Env} {f:FuncId} {ds:List DV} {h:List ae} {cs:List AV} {r:DV} (H:aq E f [.agg ds] (· = r)) (hd:pa h cs=some ds) (hr:CN r=true) (hg:uv cs=true) (mj:o8 h=true):au E f h [.agg cs] (fun a b=>a = .d r∧b=h):=by
 unfold aq at H;unfold au;refine ⟨H.1,lB mj,fun c vs h1 h2 h3=>?_⟩;subst h1;have iT:qb E.G c.ax c.w:=fun g e aC=>by
  have hp:∀ p,VR c (.bE e 0) p→VR ⟨fun _=>none,[],c.ax,c.w⟩ (.bE e 0) p:=fun p hp=>by
   cases hp with
   |bE _ _ blk o' fv k1 k2 k3 k4=>exact .bE _ _ blk o' fv (fun hb=>k1 (.inl (rH.1 hb))) k2 k3 (fun j x hx=>rI ((k4 j x hx).mono fun b _ hn=>⟨fun hb=>hn (.inl hb),rfl⟩))
  exact hp _ (h2.eZ g e aC)
 have hv:iu c.ax c.w [.agg ds] vs:=by
  obtain ⟨v,rfl⟩:∃ v,vs=[v]:=by
   have:=h3.1
   match vs,this with
   | [v],_=>exact ⟨v,rfl⟩
  obtain ⟨us,rfl,hu⟩:=nR (h3.2 0 _ v rfl rfl);have:=zy h2 (lB mj) hd hg hu;refine ⟨rfl,fun j x u hx hu=>?_⟩;cases j with
  |zero=>simp at hx hu; subst hx; subst hu; exact .agg _ _ (by simpa using this.1) fun j x v hx hv=>this.2 j x v hx (by simpa using hv)
  |succ j=>simp at hx
 refine (H.2 c.ax c.w vs h2.bN iT hv).mono fun e w' ⟨v,r',k1,k2,k3,k4⟩=>?_;subst k2;obtain ⟨q1,q2⟩:=h2.grow k4;exact ⟨c.dP w',.d r',v,k1,rfl,⟨rfl,rfl⟩,.d _ _ (Hg hr k3),q1,(Rel.refl c (lB mj)).step q2⟩
theorem VI {E:Env} {s:List AV} {h:List ae} (hE:E.OK) {args:Array Operand} {rQ:Array TypeId} {x y:Operand} {t0 t1 e e1:Nat} {i0 i1 ei:bp} {m:List DV} (hx:args.toList=[x,y]) (yT:rQ.toList=[t0,t1]) (jN:E.T[t0]? = some i0) (tO:E.T[t1]? = some i1) (cH:i0.k = .slice e) (cR:i1.k = .slice e1) (bR:E.T[e]? = some ei)
  (hz:ei.zero.length=ei.size) (cC:Nat.blt 0 ei.size=true) (oR:Nat.ble ei.bytes 65536=true) (ha:aY E.G s x (.d .aH)) (hy:aY E.G s y (.d (.sl m))) (hm:∀ e∈m,e.cells.length=ei.size) (qf:m.length≤2147483648) :
  bC E (.call { callee := .builtin .append,args:=args,argTypes:=rQ }) s h (.d (.sl m)) (h++[.gone]):=fun o c ac h1 h2 h3 h4=>by
 have Ls:=gF cC;have ho:=F3 (h:=h) hE hx yT jN tO cH (fun k e=>by rw [cR] at e; cases e) bR hz Ls (Nat.le_of_ble_eq_true oR) hy hm (fun c v hv=>by cases hv with | d _ _ hv=>exact FY Ls hm hv) ha (r := .own h.length 1) (h':=h++[.arr 1 (e,ei.size) m]) (.inr ⟨rfl,qf,rfl,rfl⟩);obtain ⟨c1,v,k1,k2,k3,k4,k5⟩:=ho o c ac h1 h2 h3 h4;obtain ⟨c2,j1,j2,j3,j4,j5⟩:=k3.rest (b:=h.length) (g:=1) (ts:=(e,ei.size)) (l:=m) (by rw [k2]; simp);exact ⟨c2,v,by rw [j2]; exact k1,by rw [j1,k2]; simp,j3,j5 v k4,k5.trans j4⟩
end Go.aw
end
