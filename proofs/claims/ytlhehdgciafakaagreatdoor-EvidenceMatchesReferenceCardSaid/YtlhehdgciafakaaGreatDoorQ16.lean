/- Lemmas of mine. Conditions: as stated. -/
import Derived.Test.YtlhehdgciafakaaGreatDoorQ14
import Derived.Test.YtlhehdgciafakaaGreatDoorQ15
set_option linter.unusedVariables false
set_option linter.unusedSimpArgs false
open Int renaming lt_or_le->akG,le_of_lt->akI
open List renaming mem_cons_of_mem->aip,mem_map->ahY,map_cons->ahx,mem_cons_self->aio,map_toArray->akq,map_nil->akr,foldlM_cons->akL,foldlM_nil->akM,eq_nil_of_length_eq_zero->ahM,cons_append->aie
open Nat renaming zero_le->ai4
open Go.Result renaming andThen_ok->ahr
open Go.Sem renaming run_bind->ahq,run_pure->ahp
section
namespace Go.Proofs.YtlhehdgciafakaaGreatDoor.P
open Go Go.az
def fN(l:List aT)(t:Int):List aH:=lb (l.filter fun c=>decide (c.bQ<=t)&&decide (t<c.upto))
theorem aas(a b:List aT)(t:Int):fN (a++b) t=fN a t++fN b t:=by
 simp[fN,lb]
theorem aat(c:aT)(t:Int):fN [c] t=if c.bQ<=t/\t<c.upto then[⟨c.host,c.ar⟩]else[]:=by
 unfold fN lb;by_cases h1:c.bQ<=t<;>by_cases h2:t<c.upto<;>simp[h1,h2]
def QM(n:Nat)(fin:Int)(cs:List aT):Prop:=(∀ c∈cs,jy n fin c=true)/\cs.Pairwise n4
theorem aau{n:Nat}{fin:Int}{c:aT}:jy n fin c=true↔0<=c.host/\c.host<n/\0<=c.bQ/\c.bQ<c.upto/\c.upto<=fin/\dN c.ar=true:=by
 simp[jy,and_assoc]
theorem aav{h:bB}:ec h=true↔1<=h.fin/\h.fin<=10000000/\0<=h.bq/\h.bq<=1000/\h.aw.length<=4000/\(gb h.ay=true/\kx h.anchor h.hints=true)/\QM h.ay.length h.fin h.aw/\o0 h.aw<=500:=by
 simp only[ec,QM,Bool.and_eq_true,decide_eq_true_eq,List.all_eq_true,and_assoc]
def aaw:pT:=⟨[],[],⟨[],0,0,[]⟩,[]⟩
def Cj(h:bB)(t:Int):Int:=if ec h&&(decide (0<=t)&&decide (t<h.fin))then 0 else 1
def E9(h:bB)(t:Int):pT:=if Cj h t=0 then⟨h.ay,fN h.aw t,h.anchor,h.hints⟩else aaw
theorem QN{h:bB}{t:Int}:Cj h t=0↔ec h=true/\0<=t/\t<h.fin:=by
 unfold Cj;cases ec h<;>by_cases h1:0<=t<;>by_cases h2:t<h.fin<;>simp[h1,h2]
theorem J2{cs:List aT}{t:Int}:(fN cs t).length<=cs.length:=by
 rw[fN,lb,List.length_map];exact List.length_filter_le ..
theorem QO{α:Type}[DecidableEq α]:∀ {a b:List α},a.Nodup->(∀ x∈a,x∈b)->a.length<=b.length
 |[],_,_,_=>ai4 _
 |x::a,b,hn,h=>by
  have kY:=List.nodup_cons.1 hn;have hx:=h x (aio ..);have h1:=QO (a:=a) (b:=b.erase x) kY.2 (fun y hy=>(List.mem_erase_of_ne (fun e=>kY.1 (by rw[<- e];exact hy))).2 (h y (aip _ hy)));have h2:=List.length_erase_of_mem hx;have h3:=List.length_pos_of_mem hx;simp;omega
theorem aax{α:Type}[DecidableEq α]{a b:List α}(h:∀ x∈a,x∈b):(er [] a).length<=(er [] b).length :=
 QO (B7 List.nodup_nil) fun x hx=>by
  rw[tQ]at hx ⊢;rcases hx with hx|hx
  ·simp at hx
  ·exact .inr (h x hx)
theorem J3{cs:List aT}{t:Int}{p:aH}(h:p∈fN cs t):∃ c∈cs,c.bQ<=t/\t<c.upto/\p=⟨c.host,c.ar⟩:=by
 obtain⟨c,hc,e⟩:=ahY.1 h;obtain⟨h1,h2⟩:=List.mem_filter.1 hc;simp at h2;exact⟨c,h1,h2.1,h2.2,e.symm⟩
theorem aay{h:bB}{t:Int}(h0:Cj h t=0):tR (E9 h t)=true:=by
 rw[E9,if_pos h0];obtain⟨hv,t1,t2⟩:=QN.1 h0;obtain⟨q1,q2,q3,q4,q5,⟨q6,q7⟩,⟨g1,g2⟩,q8⟩:=aav.1 hv;refine JK.2 ⟨q6,EX.2 ⟨?_,fun p hp=>?_,?_,?_⟩,q7⟩
 ·have:=J2 (cs:=h.aw) (t:=t);show(fN h.aw t).length<=4000;omega
 ·obtain⟨c,hc,_,_,rfl⟩:=J3 hp;obtain⟨c1,c2,_,_,_,c3⟩:=aau.1 (g1 c hc);simp[oY,c3];exact⟨c1,c2⟩
 ·show((fN h.aw t).map aH.spot).Nodup;rw[fN,lb,List.map_map,List.nodup_iff_pairwise_ne,List.pairwise_map,List.pairwise_filter];refine g2.imp fun{a b} oF ha hb e=>?_;simp at ha hb;exact oF e ⟨by omega,by omega⟩
 ·refine Nat.le_trans (aax fun x hx=>?_) q8;obtain⟨p,hp,rfl⟩:=ahY.1 hx;obtain⟨c,hc,_,_,rfl⟩:=J3 hp;exact ahY.2 ⟨c,hc,rfl⟩
end Go.Proofs.YtlhehdgciafakaaGreatDoor.P
end
section
namespace Go.az
open Go Go.RowKit
section
variable {E:Env} {s:List AV} {h:List ae}
variable {aj:FuncId} {R:cT} {ops:Array Oper} {o:Oper} {l:List Oper} {k:List aY} {lits:List Nat}
end
section
variable {E:Env} {aj:FuncId} {R:cT} {s:List AV} {h:List ae} {ops:Array Oper} {o:Oper} {l:List Oper} {k:List aY}
theorem QQ{x y:Operand}{ts:Array TypeId}{a b:Int}(hx:bk E.G s x (.d (.int .i64 a)))(hy:bk E.G s y (.d (.int .i64 b))):bE E (.call { callee := .builtin .max,args := #[x,y],argTypes:=ts }) s h (.d (.int .i64 (max a b))) h:=by
 refine .quiet fun o c ac e1 e2 h3 h4=>⟨.int .i64 (max a b),?_,.d _ _ (.int _ _)⟩;have q1:=eT (hx c ac h3 h4);have q2:=eT (hy c ac h3 h4);have q3:(if a<b then b else a)=max a b:=by
  rcases akG a b with q|q
  ·rw[if_pos q,Int.max_eq_right (akI q)]
  ·rw[if_neg (Int.not_lt.2 q),Int.max_eq_left q]
 simp only[execOp,e1,resolve,invoke,builtin,Builtin.max_,Builtin.max2,akq,ahx,akr,q1,q2,akL,akM,ahq,ahp,ahr,pure_bind,bind_pure,q3]
theorem QR{x y:Operand}{ts:Array TypeId}{a b:Int}(hx:bk E.G s x (.d (.int .i64 a)))(hy:bk E.G s y (.d (.int .i64 b))):bE E (.call { callee := .builtin .min,args := #[x,y],argTypes:=ts }) s h (.d (.int .i64 (min a b))) h:=by
 refine .quiet fun o c ac e1 e2 h3 h4=>⟨.int .i64 (min a b),?_,.d _ _ (.int _ _)⟩;have q1:=eT (hx c ac h3 h4);have q2:=eT (hy c ac h3 h4);have q3:(if b<a then b else a)=min a b:=by
  rcases akG b a with q|q
  ·rw[if_pos q,Int.min_eq_right (akI q)]
  ·rw[if_neg (Int.not_lt.2 q),Int.min_eq_left q]
 simp only[execOp,e1,resolve,invoke,builtin,Builtin.min_,Builtin.min2,akq,ahx,akr,q1,q2,akL,akM,ahq,ahp,ahr,pure_bind,bind_pure,q3]
end
section
variable {E:Env} {ops:Array Oper} {aj:FuncId} {R:cT} {s:List AV} {h:List ae} {lits:List Nat} {k:List aY} {o:Oper} {l:List Oper}
theorem ml.own(hE:E.OK){j:Nat}{acc:List (Nat × ja)}{bo:List (Nat × Nat)}{ab:List Nat}{sC:List AV}{hC:List ae}(H:DW E o.op sC hC False fun x h1=>gK ab h x fun v=>kQ ab h h1 fun h'=>lI ab h h' fun ws=>fp j ws ws acc bo fun cP=>cz s o.dst v fun s'=>bU E aj R ops k lits (j+1) l (eI j ws ws acc) cP s' h'):ml E aj R ops k lits j o l acc bo s h ab sC hC:=by
 rcases NK hE H with h|⟨v,h1,H,ho⟩
 ·exact h.elim
 ·exact ml.op ho H
theorem ml.aaC(hE:E.OK){j:Nat}{acc:List (Nat × ja)}{bo:List (Nat × Nat)}{ab:List Nat}{sC:List AV}{hC:List ae}{dT sT e b g:Nat}{i ei:bA}{us:Nat × Nat}{x y:Operand}{p m:List DV}(q:List DV)(cH:o.op=.call { callee := .builtin .copy,args := #[x,y],argTypes := #[dT,sT] })(hx:bk E.G sC x (.own b g))(hy:bk E.G sC y (.d (.sl m)))(hi:E.T[dT]?=some i)(hk:i.k=.slice e)(b9:E.T[e]?=some ei)(hb:hC[b]?=some (.arr g us p))(kh:us.2=ei.size)(aL:p≠[])(hm:∀ z∈m,z.cells.length=us.2)(hq:m.take p.length++p.drop m.length=q)
  (H:gK ab h (.d (.int .i64 (min m.length p.length:Nat))) fun v=>kQ ab h (hC.set b (.arr g us q)) fun h'=>lI ab h h' fun ws=>fp j ws ws acc bo fun cP=>cz s o.dst v fun s'=>bU E aj R ops k lits (j+1) l (eI j ws ws acc) cP s' h'):ml E aj R ops k lits j o l acc bo s h ab sC hC :=
 ml.op (cH ▸ hq ▸ Wz hE hi hk b9 kh hb aL hx hy hm) H
theorem I.QS(n:Nat){i:ma}{fx:Operand}{args:Array Operand}{ts:Array TypeId}{av:List AV}(hl:R.fx.loops[n]?=some (.loop i))(hg:jm ops o s true)(cH:o.op=.call { callee := .value fx,args:=args,argTypes:=ts })(hf:bk E.G s fx (.fn (.yield i.l) [] []))(ha:kK E.G s args.toList av)(hlen:av.length=i.ps.size)
  (H:I E i.fn ⟨R.n,R.Q,R.rows,⟨R.fx.f0,some i.l,[],⟨⟨aj,R.fx.cI,R.fx.aS⟩,.bF ops (o::l)::k,s⟩::R.fx.cls,R.fx.loops,R.fx.inl⟩⟩ [] [.code i.assign,.sK,.code i.body] (xd i.ps.toList av i.jP) h):I E aj R lits (.bF ops (o::l)::k) s h:=by
 refine .of ?_;unfold AW;intro c0 c t tt h0 h1 h2 h3 hr bz h4 h5 cs;subst h2;obtain⟨j,hj,dG,aV⟩:=oB (h1 _ (aio ..));have hi:py c0.w.heap.size c i:=bz.all.each _ (List.mem_append_right _ (List.mem_of_getElem? hl));obtain⟨v1,v2,e1,e2,e3⟩:=mP (hf c ⟨t,marks R.fx.aS⟩ h3 h4);obtain rfl:v1=[]:=ahM (zD e2.1.symm);obtain rfl:v2=[]:=ahM (zD e3.1.symm);have e4:=ha c ⟨t,marks R.fx.aS⟩ h3 h4;have H:=H.to;unfold AW at H;have iG:(#[]++args.map (⟨t,marks R.fx.aS⟩:Act).eval).size=i.fS.params.size:=by
  have:=e4.1;simp at this ⊢;rw[<- this,hlen];rfl
 have fw:=IE (ps:=i.ps.toList) hi.jP e4;obtain⟨c2,fr,r,v,q1,q2,q3,q4,q5,q6⟩:=H c0 c _ (t::tt) h0 (fun x hx=>by simp at hx;rcases hx with rfl|rfl|rfl<;>trivial) rfl h3 hr bz fw ⟨h4,h1,h5⟩ cs;refine⟨c2,fr,r,v,q1,q2,q3,q4,.head ?_ q5,q6⟩;have cL:(execOp (⟨t,marks R.fx.aS⟩:Act).eval o).run E.P c.w=.ok (.round i.l i.fn ((i.ps.toList.zip (args.toList.map (⟨t,marks R.fx.aS⟩:Act).eval)).foldl (fun t (p,v)=>t.setIfInBounds p v) i.tm) i.assign i.body) c.w:=by
  have hy:=run_yield (P:=E.P) hi.mem iG;simp only[execOp,cH,resolve,e1,Deferred.ofValue,invoke,ahq,ahp,ahr,hy]
  congr 2
  rw[<- Array.foldl_toList,Array.toList_zip];simp[ma.fS]
 have hs:=Oa (P:=E.P) (b:=bf ⟨aj,R.fx.cI,R.fx.aS⟩) (a:=⟨t,marks R.fx.aS⟩) (k:=k.map aY.bO) (cs:=fG R.fx.cls tt++cs) (rest:=(List.range ops.size).drop (ops.size-l.length)) hj (hg c t h4) cL;simp only[cn.bO,ahx,fG,dG,aie];exact hs
theorem QT{o oj:Oper}{j d:Nat}{s:List AV}(h:o.guard=some (j,true))(hj:ops.toList[j]?=some oj)(hd:oj.dst=some d)(hs:s[d]?=some (.d (.bool true))):jm ops o s true:=yy (b:=true) h hj hd hs
end
theorem I.QU{E:Env}{aj:FuncId}{R:cT}{td:List aY}{s:List AV}{h:List ae}{lits:List Nat}{g:br}{rows:List br}(hp:R.rows=g::rows)(H:I E aj ⟨R.n,R.Q,rows,R.fx⟩ lits td s h):I E aj R lits td s h:=by
 replace H:=H.to;refine .of ?_;unfold AW at H ⊢;intro c0 c t ts h0 h1 h2 h3 hr bz h4 h5 cs;rw[hp]at bz;refine H c0 c t ts h0 h1 h2 h3 hr ⟨⟨fun g hg=>bz.all.each g (aip _ hg),?_⟩,fun g hg=>bz.flat g (aip _ hg)⟩ h4 h5 cs;have h:=bz.all.nodup;rw[aie,List.flatMap_cons]at h;exact(List.nodup_append.1 h).2.1
def E'(L:List br):List Nat->List br
 |[]=>L
 |d::ds => .mark d::E' L ds
theorem QV{L:List br}:∀ {ds:List Nat},E' L ds=ds.map .mark++L
 |[]=>rfl
 |d::ds=>congrArg (br.mark d :: ·) (QV (ds:=ds))
abbrev cT.marked(R:cT)(L:List br)(ds:List Nat):cT:=⟨R.n,R.Q,R.rows,⟨R.fx.f0,R.fx.cI,ds,R.fx.cls,E' L ds,R.fx.inl⟩⟩
theorem dW{h h':List ae}{L:List br}{K:Prop}:∀ {ds:List Nat},wM h h' (E' L ds) K=wM h h' L K
 |[]=>rfl
 |_::ds=>dW (ds:=ds)
theorem I.aaD{E:Env}{aj:FuncId}{R:cT}{s:List AV}{h:List ae}{lits:List Nat}{b:Code}{k:List aY}{κ:Type}(fm:List Nat)(vars:κ->List (Nat × AV))(boxes:κ->List (Nat × ae))(Φ:κ->Prop)(μ:κ->Nat)(x0:κ)(L:List br)(bX:List Nat)(h0:Φ x0)
  (oN:rC fm (mi (boxes x0)) (vars x0) (boxes x0) s h fun s' h'=>uT h h' (R.marked L bX).fx (uS R.n h s h' s'))
  (uW:∀ x ds,Φ x->(∀ y Cm,Φ y->μ y<μ x->I E aj (R.marked L Cm) [] (.inLoop b::k) (lE (vars y) (anyS fm (lG (mi (boxes x0)) s))) (lF (boxes y) h))->I E aj (R.marked L ds) [] (.code b :: .inLoop b::k) (lE (vars x) (anyS fm (lG (mi (boxes x0)) s))) (lF (boxes x) h)) :
  I E aj (R.marked L bX) lits (.code (.loop b)::k) s h:=by
 have main:∀ n x ds,μ x<n->Φ x->I E aj (R.marked L ds) [] (.inLoop b::k) (lE (vars x) (anyS fm (lG (mi (boxes x0)) s))) (lF (boxes x) h):=by
  intro n
  induction n with
  |zero=>intro x ds hx;omega
  |succ n ih=>intro x ds hx hP;exact .of (.inLoop (uW x ds hP fun y Cm hy hm=>ih y Cm oM hy).to)
 rw[yY]at oN;exact .of (.loop (.weaken oN (uW x0 bX h0 fun y Cm hy _=>main (μ y+1) y Cm oM hy).to))
end Go.az
end
section
namespace Go.Proofs.YtlhehdgciafakaaGreatDoor.P
open Go Go.az
set_option maxRecDepth 100000
set_option maxHeartbeats 4000000
theorem aaH(a b:List Datum)(hl:a.length<=2147483648):aq E 89 [.sl (a.map Datum.enc),.sl (b.map Datum.enc)] (· = .bool (decide (a=b))):=by
 refine eP F89.h ?_;apply ah<;>intro h3
 ·have aL:a≠b:=by rintro rfl;simp at h3
  rw[decide_eq_false aL];refine gC ?_
  with_reducible rfl
 have po:a.length=b.length:=by simp at h3;omega
 refine gC ?_;refine I.lP a.length ([4,5]++rg 13 13) (fun k=>[(13,.d (.int .i64 k))]) (fun _=>[]) (fun k=>k<=a.length/\a.take k=b.take k) ⟨ai4 _,rfl⟩ ?_ ?_
 ·exact sZ
 intro k hk IH;refine zA ?_ ?_<;>intro h7
 ·have ai:k<a.length:=zD h7
  obtain⟨u,hu⟩:=aI ai;obtain⟨w,hw⟩:=aI (l:=b) (k:=k) oM;refine gC ?_;refine dU ?_;refine eM hu (gD ?_);refine eM hw (gD ?_);refine gC ?_;apply ah<;>intro h8
  ·have aL:u≠w:=by rintro rfl;simp at h8
   refine gC ?_;rw[decide_eq_false (pP hu hw aL)]
  ·have e1:u=w:=by
    obtain⟨u1,u2,u3⟩:=u;obtain⟨w1,w2,w3⟩:=w;simp at h8;simp[h8]
   refine gC ?_;exact I.back (IH (k+1) ⟨by omega,tD hk.2 hu hw e1⟩ oM) sZ
 ·have aA:k=a.length:=by simp at h7;omega
  have xG:a=b:=tE hk.2 oM oM;refine gC ?_;simp[xG]
theorem aaI(a b:List dE)(hl:a.length<=2147483648):aq E 90 [.sl (a.map dE.enc),.sl (b.map dE.enc)] (· = .bool (decide (a=b))):=by
 refine eP F90.h ?_;apply ah<;>intro h3
 ·have aL:a≠b:=by rintro rfl;simp at h3
  rw[decide_eq_false aL];refine gC ?_
  with_reducible rfl
 have po:a.length=b.length:=by simp at h3;omega
 refine gC ?_;refine I.lP a.length ([4,5]++rg 13 13) (fun k=>[(13,.d (.int .i64 k))]) (fun _=>[]) (fun k=>k<=a.length/\a.take k=b.take k) ⟨ai4 _,rfl⟩ ?_ ?_
 ·exact sZ
 intro k hk IH;refine zA ?_ ?_<;>intro h7
 ·have ai:k<a.length:=zD h7
  obtain⟨u,hu⟩:=aI ai;obtain⟨w,hw⟩:=aI (l:=b) (k:=k) oM;refine gC ?_;refine dU ?_;refine eM hu (gD ?_);refine eM hw (gD ?_);refine gC ?_;apply ah<;>intro h8
  ·have aL:u≠w:=by rintro rfl;simp at h8
   refine gC ?_;rw[decide_eq_false (pP hu hw aL)]
  ·have e1:u=w:=by
    obtain⟨u1,u2,u3,u4,u5,u6⟩:=u;obtain⟨w1,w2,w3,w4,w5,w6⟩:=w;simp at h8;simp[h8]
   refine gC ?_;exact I.back (IH (k+1) ⟨by omega,tD hk.2 hu hw e1⟩ oM) sZ
 ·have aA:k=a.length:=by simp at h7;omega
  have xG:a=b:=tE hk.2 oM oM;refine gC ?_;simp[xG]
end Go.Proofs.YtlhehdgciafakaaGreatDoor.P
end
section
namespace Go.az
open Go Go.RowKit
section
variable {E:Env} {s:List AV} {h:List ae}
end
section
variable {E:Env} {s:List AV} {h:List ae}
end
end Go.az
end
section
namespace Go.Proofs.YtlhehdgciafakaaGreatDoor.P
open Go Go.az
set_option maxRecDepth 100000
set_option maxHeartbeats 4000000
structure pT.ga(w:pT):Prop where
 ay:w.ay.length<=1000000
 dS:w.dS.length<=1000000
 hints:w.hints.length<=1000000
 anchor:w.anchor.data.length<=2147483648
 each:∀ p∈w.dS,p.ar.ga
end Go.Proofs.YtlhehdgciafakaaGreatDoor.P
end
