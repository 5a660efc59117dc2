/- Lemmas of mine. Conditions: as stated. -/
import Derived.Test.YtfmdaiojokniiaaGreatDoorS20
import Derived.Shelf.SortM.SortNone
set_option linter.unusedVariables false
set_option linter.unusedSimpArgs false
open Bool renaming and_eq_true->aft
open Int renaming lt_or_le->ag9,le_of_lt->aha
open List renaming map_cons->ad0,mem_cons_self->aeQ,mem_cons_of_mem->aeR,map_toArray->agT,map_nil->agU,foldlM_cons->ahd,foldlM_nil->ahe,eq_nil_of_length_eq_zero->aee,cons_append->aeH,pairwise_cons->ai'
open Go.Result renaming andThen_ok->adU
open Go.Sem renaming run_bind->adT,run_pure->adS
section
namespace Go.aA
open Go Go.RowKit
section
variable {E:Env} {aj:FuncId} {R:cF} {s:List AV} {h:List af} {ops:Array Oper} {o:Oper} {l:List Oper} {k:List aT}
theorem ZT{x y:Operand}{ts:Array TypeId}{a b:Int}(hx:bh E.G s x (.d (.int .i64 a)))(hy:bh E.G s y (.d (.int .i64 b))):bz E (.call { callee := .builtin .max,args := #[x,y],argTypes:=ts }) s h (.d (.int .i64 (max a b))) h:=by
 refine .quiet fun o c ac e1 e2 h3 h4=>⟨.int .i64 (max a b),?_,.d _ _ (.int _ _)⟩;have q1:=ef (hx c ac h3 h4);have q2:=ef (hy c ac h3 h4);have q3:(if a<b then b else a)=max a b:=by
  rcases ag9 a b with q|q
  ·rw[if_pos q,Int.max_eq_right (aha q)]
  ·rw[if_neg (Int.not_lt.2 q),Int.max_eq_left q]
 simp only[execOp,e1,resolve,invoke,builtin,Builtin.max_,Builtin.max2,agT,ad0,agU,q1,q2,ahd,ahe,adT,adS,adU,pure_bind,bind_pure,q3]
theorem ZU{x y:Operand}{ts:Array TypeId}{a b:Int}(hx:bh E.G s x (.d (.int .i64 a)))(hy:bh E.G s y (.d (.int .i64 b))):bz E (.call { callee := .builtin .min,args := #[x,y],argTypes:=ts }) s h (.d (.int .i64 (min a b))) h:=by
 refine .quiet fun o c ac e1 e2 h3 h4=>⟨.int .i64 (min a b),?_,.d _ _ (.int _ _)⟩;have q1:=ef (hx c ac h3 h4);have q2:=ef (hy c ac h3 h4);have q3:(if b<a then b else a)=min a b:=by
  rcases ag9 b a with q|q
  ·rw[if_pos q,Int.min_eq_right (aha q)]
  ·rw[if_neg (Int.not_lt.2 q),Int.min_eq_left q]
 simp only[execOp,e1,resolve,invoke,builtin,Builtin.min_,Builtin.min2,agT,ad0,agU,q1,q2,ahd,ahe,adT,adS,adU,pure_bind,bind_pure,q3]
end
section
variable {E:Env} {ops:Array Oper} {aj:FuncId} {R:cF} {s:List AV} {h:List af} {lits:List Nat} {k:List aT} {o:Oper} {l:List Oper}
theorem lh.own(hE:E.OK){j:Nat}{acc:List (Nat × hU)}{bj:List (Nat × Nat)}{ab:List Nat}{sC:List AV}{hC:List af}(H:Cp E o.op sC hC False fun x h1=>fI ab h x fun v=>jJ ab h h1 fun h'=>kq ab h h' fun ws=>eG j ws ws acc bj fun cE=>cg s o.dst v fun s'=>bP E aj R ops k lits (j+1) l (dS j ws ws acc) cE s' h'):lh E aj R ops k lits j o l acc bj s h ab sC hC:=by
 rcases Ln hE H with h|⟨v,h1,H,ho⟩
 ·exact h.elim
 ·exact lh.op ho H
theorem lh.LO(hE:E.OK){j:Nat}{acc:List (Nat × hU)}{bj:List (Nat × Nat)}{ab:List Nat}{sC:List AV}{hC:List af}{dT sT e b g:Nat}{i ei:bu}{us:Nat × Nat}{x y:Operand}{p m:List DV}(q:List DV)(cn:o.op=.call { callee := .builtin .copy,args := #[x,y],argTypes := #[dT,sT] })(hx:bh E.G sC x (.own b g))(hy:bh E.G sC y (.d (.sl m)))(hi:E.T[dT]?=some i)(hk:i.k=.slice e)(bV:E.T[e]?=some ei)(hb:hC[b]?=some (.arr g us p))(jb:us.2=ei.size)(aJ:p≠[])(hm:∀ z∈m,z.cells.length=us.2)(hq:m.take p.length++p.drop m.length=q)
  (H:fI ab h (.d (.int .i64 (min m.length p.length:Nat))) fun v=>jJ ab h (hC.set b (.arr g us q)) fun h'=>kq ab h h' fun ws=>eG j ws ws acc bj fun cE=>cg s o.dst v fun s'=>bP E aj R ops k lits (j+1) l (dS j ws ws acc) cE s' h'):lh E aj R ops k lits j o l acc bj s h ab sC hC :=
 lh.op (cn ▸ hq ▸ LM hE hi hk bV jb hb aJ hx hy hm) H
theorem J.IC(n:Nat){i:kT}{fx:Operand}{args:Array Operand}{ts:Array TypeId}{av:List AV}(hl:R.fx.loops[n]?=some (.loop i))(hg:ig ops o s true)(cn:o.op=.call { callee := .value fx,args:=args,argTypes:=ts })(hf:bh E.G s fx (.fn (.yield i.l) [] []))(ha:jC E.G s args.toList av)(hlen:av.length=i.ps.size)
  (H:J E i.fn ⟨R.n,R.Q,R.rows,⟨R.fx.f0,some i.l,[],⟨⟨aj,R.fx.cA,R.fx.aN⟩,.bw ops (o::l)::k,s⟩::R.fx.cls,R.fx.loops,R.fx.inl⟩⟩ [] [.code i.assign,.qF,.code i.body] (vi i.ps.toList av i.iP) h):J E aj R lits (.bw ops (o::l)::k) s h:=by
 refine .of ?_;unfold AW;intro c0 c t tt h0 h1 h2 h3 hr br h4 h5 cs;subst h2;obtain⟨j,hj,eo,aP⟩:=nf (h1 _ (aeQ ..));have hi:oe c0.w.heap.size c i:=br.all.each _ (List.mem_append_right _ (List.mem_of_getElem? hl));obtain⟨v1,v2,e1,e2,e3⟩:=mr (hf c ⟨t,marks R.fx.aN⟩ h3 h4);obtain rfl:v1=[]:=aee (by simpa using e2.1.symm);obtain rfl:v2=[]:=aee (by simpa using e3.1.symm);have e4:=ha c ⟨t,marks R.fx.aN⟩ h3 h4;have H:=H.to;unfold AW at H;have jG:(#[]++args.map (⟨t,marks R.fx.aN⟩:Act).eval).size=i.ff.params.size:=by
  have:=e4.1;simp at this ⊢;rw[<- this,hlen];rfl
 have eT:=Gy (ps:=i.ps.toList) hi.iP e4;obtain⟨c2,fr,r,v,q1,q2,q3,q4,q5,q6⟩:=H c0 c _ (t::tt) h0 (fun x hx=>by simp at hx;rcases hx with rfl|rfl|rfl<;>trivial) rfl h3 hr br eT ⟨h4,h1,h5⟩ cs;refine⟨c2,fr,r,v,q1,q2,q3,q4,.head ?_ q5,q6⟩;have cK:(execOp (⟨t,marks R.fx.aN⟩:Act).eval o).run E.P c.w=.ok (.round i.l i.fn ((i.ps.toList.zip (args.toList.map (⟨t,marks R.fx.aN⟩:Act).eval)).foldl (fun t (p,v)=>t.setIfInBounds p v) i.tm) i.assign i.body) c.w:=by
  have hy:=run_yield (P:=E.P) hi.mem jG;simp only[execOp,cn,resolve,e1,Deferred.ofValue,invoke,adT,adS,adU,hy]
  congr 2
  rw[<- Array.foldl_toList,Array.toList_zip];simp[kT.ff]
 have hs:=LR (P:=E.P) (b:=bf ⟨aj,R.fx.cA,R.fx.aN⟩) (a:=⟨t,marks R.fx.aN⟩) (k:=k.map aT.bK) (cs:=eV R.fx.cls tt++cs) (rest:=(List.range ops.size).drop (ops.size-l.length)) hj (hg c t h4) cK;simp only[ca.bK,ad0,eV,eo,aeH];exact hs
theorem ID{o oj:Oper}{j d:Nat}{s:List AV}(h:o.guard=some (j,true))(hj:ops.toList[j]?=some oj)(hd:oj.dst=some d)(hs:s[d]?=some (.d (.bool true))):ig ops o s true:=wR (b:=true) h hj hd hs
end
theorem J.Pb{E:Env}{aj:FuncId}{R:cF}{td:List aT}{s:List AV}{h:List af}{lits:List Nat}{g:bo}{rows:List bo}(hp:R.rows=g::rows)(H:J E aj ⟨R.n,R.Q,rows,R.fx⟩ lits td s h):J E aj R lits td s h:=by
 replace H:=H.to;refine .of ?_;unfold AW at H ⊢;intro c0 c t ts h0 h1 h2 h3 hr br h4 h5 cs;rw[hp]at br;refine H c0 c t ts h0 h1 h2 h3 hr ⟨⟨fun g hg=>br.all.each g (aeR _ hg),?_⟩,fun g hg=>br.flat g (aeR _ hg)⟩ h4 h5 cs;have h:=br.all.nodup;rw[aeH,List.flatMap_cons]at h;exact(List.nodup_append.1 h).2.1
def DO(L:List bo):List Nat->List bo
 |[]=>L
 |d::ds => .mark d::DO L ds
theorem Pc{L:List bo}:∀ {ds:List Nat},DO L ds=ds.map .mark++L
 |[]=>rfl
 |d::ds=>congrArg (bo.mark d :: ·) (Pc (ds:=ds))
abbrev cF.marked(R:cF)(L:List bo)(ds:List Nat):cF:=⟨R.n,R.Q,R.rows,⟨R.fx.f0,R.fx.cA,ds,R.fx.cls,DO L ds,R.fx.inl⟩⟩
theorem fF{h h':List af}{L:List bo}{K:Prop}:∀ {ds:List Nat},uO h h' (DO L ds) K=uO h h' L K
 |[]=>rfl
 |_::ds=>fF (ds:=ds)
theorem J.ZX{E:Env}{aj:FuncId}{R:cF}{s:List AV}{h:List af}{lits:List Nat}{b:Code}{k:List aT}{κ:Type}(gq:List Nat)(vars:κ->List (Nat × AV))(boxes:κ->List (Nat × af))(Φ:κ->Prop)(μ:κ->Nat)(x0:κ)(L:List bo)(dD:List Nat)(h0:Φ x0)
  (o4:uQ gq (nw (boxes x0)) (vars x0) (boxes x0) s h fun s' h'=>xt h h' (R.marked L dD).fx (xq R.n h s h' s'))
  (s8:∀ x ds,Φ x->(∀ y A',Φ y->μ y<μ x->J E aj (R.marked L A') [] (.inLoop b::k) (lP (vars y) (anyS gq (lR (nw (boxes x0)) s))) (lQ (boxes y) h))->J E aj (R.marked L ds) [] (.code b :: .inLoop b::k) (lP (vars x) (anyS gq (lR (nw (boxes x0)) s))) (lQ (boxes x) h)) :
  J E aj (R.marked L dD) lits (.code (.loop b)::k) s h:=by
 have main:∀ n x ds,μ x<n->Φ x->J E aj (R.marked L ds) [] (.inLoop b::k) (lP (vars x) (anyS gq (lR (nw (boxes x0)) s))) (lQ (boxes x) h):=by
  intro n
  induction n with
  |zero=>intro x ds hx;omega
  |succ n ih=>intro x ds hx hP;exact .of (.inLoop (s8 x ds hP fun y A' hy hm=>ih y A' (by omega) hy).to)
 rw[zI]at o4;exact .of (.loop (.weaken o4 (s8 x0 dD h0 fun y A' hy _=>main (μ y+1) y A' (by omega) hy).to))
end Go.aA
end
section
namespace Go.Proofs.YtfmdaiojokniiaaGreatDoor.P
open Go Go.aA Go.Sort
set_option maxRecDepth 100000
set_option maxHeartbeats 4000000
theorem Z4:Ph Tryz.prog 182:=fun blk cap zs w hH hblk bR=>AnyM.slices_Sort_int Tryz.sortInt blk 0 cap zs w hH hblk bR
theorem Z5(l:List Int)(hl:l≠[])(hlen:l.length<4611686018427387904) :
  aw E 182 [.arr 0 (3,1) (l.map (DV.int .i64))] [.own 0 0] (fun a b=>a=.aF []/\b=[.arr 0 (3,1) ((gC l).map (DV.int .i64))]) :=
 Z3 Z4 ⟨_,Tryz.func182,rfl,by decide⟩ l hl hlen
theorem Pj{G:List (Nat × DV)}{s:List AV}:bh G s (.const (.slice none 0 0)) (.d .aI):=fun c a _ _ => .d _ _ .aI
theorem Z6:aw E 182 [.arr 0 (3,1) []] [.own 0 0] (fun a b=>a=.aF []/\b=[.arr 0 (3,1) []]):=by
 unfold aw;refine⟨⟨_,Tryz.func182,rfl,by decide⟩,kn rfl,fun c vs h1 h2 h3=>?_⟩;obtain⟨v1,rfl⟩:∃ v1,vs=[v1]:=by
  have:=h3.1
  match vs,this with
  |[a],_=>exact⟨a,rfl⟩
 have dx:c.heap[0]?=some (.arr 0 (3,1) []):=by rw[h1];rfl
 obtain⟨p,cap,rfl⟩:∃ p cap,v1=.slice p 0 cap:=by
  rcases kW dx (h3.2 0 _ v1 rfl rfl)with⟨blk,cap,_,rfl⟩|⟨_,rfl,_⟩
  ·exact⟨_,cap,rfl⟩
  ·exact⟨_,_,rfl⟩
 refine(AnyM.slices_Sort_int_none Tryz.sortInt p cap c.w).mono fun e w' ⟨a1,a2⟩=>?_;subst a2;exact⟨c,.aF [],.tuple #[],a1,rfl,⟨rfl,h1⟩,.aF [] #[] rfl (fun j x v hx=>by simp at hx),h2,Rel.refl c (by rw[h1];exact kn rfl)⟩
theorem Z7(l:List Int)(hlen:l.length<4611686018427387904):aw E 182 [.arr 0 (3,1) (l.map (DV.int .i64))] [.own 0 0] (fun a b=>a=.aF []/\b=[.arr 0 (3,1) ((gC l).map (DV.int .i64))]):=by
 by_cases h:l=[]
 ·subst h;have e:gC []=[]:=List.perm_nil.1 (yl []);rw[e];exact Z6
 ·exact Z5 l h hlen
theorem Z8{es:List (DV × DV)}(h:mP (DV.int .i64) es):∀ p∈es,du E.T (.int .i64) p.1:=fun p hp=>by
 obtain⟨n,e⟩:=h p hp;rw[e];exact⟨_,rfl⟩
theorem Z9(es:List (DV × DV)):aw E 110 [.map es] [.map 0] (fun a b=>a=.fn (.func 183) [] [.ptr 1 0]/\b=[.map es,.cells [.map 0]]):=by
 refine aw.run ag (fn:=Tryz.f110) Tryz.func110 (body:=Tryz.f110.body.getD .skip) rfl (by decide) 2000 rfl ?_;(conv=>whnf);exact⟨rfl,rfl⟩
end Go.Proofs.YtfmdaiojokniiaaGreatDoor.P
end
section
namespace Go.aA
open Go Go.RowKit
section
variable {E:Env} {s:List AV} {h:List af}
def Pk(E:Env)(s:List AV)(h:List af)(o:Oper)(k:List AV->List af->Prop):Prop:=match o.op with
 | .insert t m x v=>aZ E.T t False fun ti=>match ti.k with
  | .map kt _=>cd E.G s m False fun
   | .map b=>aZ h b False fun
    | .map es=>cd E.G s x False fun
     | .d y=>cd E.G s v False fun
      | .d z=>w9 E kt False fun kd=>need (du E.T kd y/\∀ p∈es,du E.T kd p.1) (fG h b (.map (bW y z es)) fun h'=>cg s o.dst (.d .undef) fun s'=>k s' h')
      |_=>False
     |_=>False
    |_=>False
   |_=>False
  |_=>False
 |_=>False
theorem J.insert(hE:E.OK){aj:FuncId}{R:cF}{ops:Array Oper}{td:List aT}{lits:List Nat}{o:Oper}{r:List Oper}(hg:o.guard=none)
  (H:Pk E s h o fun s' h'=>J E aj R lits (.bw ops r::td) s' h'):J E aj R lits (.bw ops (o::r)::td) s h:=by
 unfold Pk at H;split at H
 case h_2=>exact H.elim
 rename_i t m x v cn;rcases bp H with H|⟨ti,bX,H⟩
 ·exact H.elim
 split at H
 case h_2=>exact H.elim
 rename_i kt e hk;rcases cu H with H|⟨a,ha,H⟩
 ·exact H.elim
 split at H
 case h_2=>exact H.elim
 rename_i b;rcases bp H with H|⟨bx,hb,H⟩
 ·exact H.elim
 split at H
 case h_2=>exact H.elim
 rename_i es;rcases cu H with H|⟨y,hy,H⟩
 ·exact H.elim
 split at H
 case h_2=>exact H.elim
 rename_i y;rcases cu H with H|⟨z,hz,H⟩
 ·exact H.elim
 split at H
 case h_2=>exact H.elim
 rename_i z;rcases BS H with H|⟨kd,hT,H⟩
 ·exact H.elim
 obtain⟨⟨f1,f2⟩,H⟩:=ng H;rw[gF,dX]at H;exact .of (.op (gb hg) (Ke hE (.inr cn) bX hk hT hb ha hy hz f1 f2) H.to)
end
end Go.aA
end
section
namespace Go.Proofs.YtfmdaiojokniiaaGreatDoor.P
open Go Go.aA
def dq(l:List aQ)(t:Int):List aK:=AN (l.filter fun c=>decide (c.bL<=t)&&decide (t<c.upto))
theorem wq(a b:List aQ)(t:Int):dq (a++b) t=dq a t++dq b t:=by
 simp[dq,AN]
theorem wu(c:aQ)(t:Int):dq [c] t=if c.bL<=t/\t<c.upto then[⟨c.host,c.au⟩]else[]:=by
 unfold dq AN;by_cases h1:c.bL<=t<;>by_cases h2:t<c.upto<;>simp[h1,h2]
def tX(n:Nat)(fin:Int)(cs:List aQ):Prop:=(∀ c∈cs,jr n fin c=true)/\cs.Pairwise nM
theorem D3{n:Nat}{fin:Int}{c:aQ}:jr n fin c=true↔0<=c.host/\c.host<n/\0<=c.bL/\c.bL<c.upto/\c.upto<=fin/\eu c.au=true:=by
 simp[jr,and_assoc]
theorem I9{h:bO}:eJ h=true↔1<=h.fin/\h.fin<=10000000/\0<=h.bJ/\h.bJ<=1000/\h.aB.length<=4000/\(fD h.ay=true/\jo h.anchor h.hints=true)/\tX h.ay.length h.fin h.aB/\rQ h.aB<=500:=by
 simp only[eJ,tX,aft,decide_eq_true_eq,List.all_eq_true,and_assoc]
def ab5:ix:=⟨[],[],⟨[],0,0,[]⟩,[]⟩
def oP(h:bO)(t:Int):Int:=if eJ h&&(decide (0<=t)&&decide (t<h.fin))then 0 else 1
def yy(h:bO)(t:Int):ix:=if oP h t=0 then⟨h.ay,dq h.aB t,h.anchor,h.hints⟩else ab5
theorem D4{h:bO}{t:Int}:oP h t=0↔eJ h=true/\0<=t/\t<h.fin:=by
 unfold oP;cases eJ h<;>by_cases h1:0<=t<;>by_cases h2:t<h.fin<;>simp[h1,h2]
theorem I'{cs:List aQ}{t:Int}:(dq cs t).length<=cs.length:=by
 rw[dq,AN,List.length_map];exact List.length_filter_le ..
theorem Qk{cs:List aQ}{t:Int}{p:aK}(h:p∈dq cs t):∃ c∈cs,c.bL<=t/\t<c.upto/\p=⟨c.host,c.au⟩:=by
 obtain⟨c,hc,e⟩:=List.mem_map.1 h;obtain⟨h1,h2⟩:=List.mem_filter.1 hc;simp at h2;exact⟨c,h1,h2.1,h2.2,e.symm⟩
theorem Ql{α:Type}{ok:α->Bool}{rel:α->α->Bool}(tr:∀ a b c,rel a b=true->rel b c=true->rel a c=true):∀ {l:List α} {p:Option α},chain ok rel p l=true->l.Pairwise (fun a b=>rel a b=true)/\∀ q,p=some q->∀ x∈l,rel q x=true
 |[],_,_=>⟨List.Pairwise.nil,fun _ _ x hx=>by simp at hx⟩
 |y::l,p,h=>by
  simp only[chain,aft]at h;obtain⟨h1,h2⟩:=Ql tr h.2;refine⟨ai'.2 ⟨fun x hx=>h2 y rfl x hx,h1⟩,fun q hq x hx=>?_⟩;subst hq;have hy:rel q y=true:=h.1.2;rcases List.mem_cons.1 hx with rfl|hx
  ·exact hy
  ·exact tr _ _ _ hy (h2 y rfl x hx)
theorem Qm{α:Type}{ok:α->Bool}{rel:α->α->Bool}:∀ (p:Option α) (l:List α),(∀ x∈l,ok x=true)->(∀ q,p=some q->∀ x∈l,rel q x=true)->l.Pairwise (fun a b=>rel a b=true)->chain ok rel p l=true
 |_,[],_,_,_=>by simp[chain]
 |p,x::l,h1,h2,h3=>by
  have h4:=ai'.1 h3;simp only[chain,aft];refine⟨⟨h1 x (aeQ ..),?_⟩,Qm (some x) l (fun y hy=>h1 y (aeR _ hy)) (fun q hq y hy=>?_) h4.2⟩
  ·cases p with
   |none=>rfl
   |some q=>exact h2 q rfl x (aeQ ..)
  ·obtain rfl:=Option.some.inj hq;exact h4.1 y hy
theorem Qn{h:bO}{l:List Step}:gM h l=true↔eJ h=true/\l.length<=400/\(∀ s∈l,0<=s.time/\s.time<h.fin/\gK h.ay.length s.cD=true)/\l.Pairwise (fun a b=>a.time<b.time):=by
 have tr:∀ a b c:Step,eZ a b=true->eZ b c=true->eZ a c=true:=fun a b c h1 h2=>by
  simp only[eZ,decide_eq_true_eq]at *;omega
 simp only[gM,pv,aft,decide_eq_true_eq];constructor
 ·rintro⟨h1,h2,h3⟩;refine⟨h1,h2,fun s hs=>?_,(Ql tr h3).1.imp fun h=>by simpa [eZ]using h⟩;have:=Ar h3 s hs;simp only[dM,aft,decide_eq_true_eq]at this;exact⟨this.1.1,this.1.2,this.2⟩
 ·rintro⟨h1,h2,h3,h4⟩;refine⟨h1,h2,Qm none l (fun s hs=>?_) (fun q hq=>by cases hq) (h4.imp fun h=>by simpa [eZ]using h)⟩;obtain⟨a,b,c⟩:=h3 s hs;simp[dM,a,b,c]
end Go.Proofs.YtfmdaiojokniiaaGreatDoor.P
end
section
set_option maxRecDepth 100000
namespace Go.Proofs.YtfmdaiojokniiaaGreatDoor
open Go Go.aA Go.ChangeShapes Go.WideShapes Go.ChangeAt Go.RowKit
theorem acO{H:Type}(d:DataW H):1<=Rows.uptoBulk d:=by
 cases d with
 |lit l=>cases l<;>simp[Rows.uptoBulk]
 |nil=>simp[Rows.uptoBulk]
 |ptr d=>simp[Rows.uptoBulk]
 |slice elems spare=>simp[Rows.uptoBulk]
 |agg parts=>simp[Rows.uptoBulk]
 |iface t d=>simp[Rows.uptoBulk]
 |map entries=>simp[Rows.uptoBulk]
 |held h=>simp[Rows.uptoBulk]
theorem QG{H:Type}:∀ (l:List (DataW H)),l.length<=Rows.uptoBulkAll l
 |[]=>by simp[Rows.uptoBulkAll]
 |x::r=>by
  have h1:=acO x;have h2:=QG r;simp only[Rows.uptoBulkAll,List.length_cons];omega
end Go.Proofs.YtfmdaiojokniiaaGreatDoor
end
