/- Several texts of mine, one behind the other. Conditions: as each says. -/
import Derived.Test.YtfmdaiojokniiaaGreatDoorV25
import Derived.Test.YtfmdaiojokniiaaGreatDoorV46
set_option linter.unusedVariables false
set_option linter.unusedSimpArgs false
namespace Go.Proofs.YtfmdaiojokniiaaGreatDoor.P
open Go Go.aw Go.Sort Go.RowKit
theorem grown_of {w w':World} (hx:Ext w w') (hd:w.drawn≤w'.drawn):∃ q pJ,w'=grow (w.drewN q) pJ:=by
 refine ⟨w'.drawn - w.drawn,w'.heap.extract w.heap.size w'.heap.size,?_⟩;obtain ⟨h1,h2,h3,h4,h5⟩:=hx;cases w with | mk a b c d e=>cases w' with | mk a' b' c' d' e' =>
 simp only at h1 h2 h3 h4 h5 hd;subst h1; subst h2; subst h3;simp only [grow,World.drewN,World.mk.injEq,true_and,and_true];refine ⟨?_,by omega⟩;apply Array.ext_getElem?;intro k;rw [Array.getElem?_append];split
 ·rename_i hk; exact h5 k hk
 ·rw [Array.getElem?_extract];split
  ·congr 1; omega
  ·rw [Array.getElem?_eq_none]; omega
theorem Wk {E:Env} {c:Cx} {W:World} {g:FuncId} {xs:List DV} {r0:DV} {v0:Value} {vs:List Value} (uS:aK E.G c) (bQ:c.w.heap.size≤W.heap.size) (qd:∀ b,b<c.w.heap.size→¬ c.bad b→W.heap[b]? = c.w.heap[b]?)
  (hp:aq E g xs (· = r0)) (hv:iu c.bad W xs vs) (hr:∀ w v,VD c.bad w r0 v→v=v0) :
  Calls E.P g vs.toArray W fun e w'=>e = .returned v0∧∃ q pJ,w'=grow (W.drewN q) pJ:=by
 unfold aq at hp;have rK:∀ b,c.bad b→b<W.heap.size:=fun b hb=>Nat.lt_of_lt_of_le (hb.elim (uS.bN b) fun ⟨j,n,hj⟩=>(uS.br j b n hj).1) bQ;have De:∀ b,b<c.w.heap.size→¬ c.bad b→¬ c.bad b∧W.heap[b]? = c.w.heap[b]? := fun b hb hn=>⟨hn,qd b hb hn⟩;have vU:qb E.G c.bad W:=fun g e hg=>by
  have h:=uS.eZ g e hg;generalize hq:(Value.pointer (some ⟨g,0,none⟩))=p at h ⊢;cases h with
  |bE _ _ blk o' fv k1 k2 k3 k4 =>
   have aj:blk<c.w.heap.size:=by
    obtain ⟨x,r,hx⟩:=List.exists_cons_of_ne_nil k2;exact World.block_lt_of_cell? _ _ (k3 0 x (by rw [hx]; rfl))
   refine .bE _ _ blk o' fv (fun hb=>k1 (rH.1 hb)) k2 (fun j x hx=>?_) (fun j x hx=>rI ((k4 j x hx).mono De));have:=k3 j x hx;simp only [World.cell?] at this ⊢;rw [qd blk aj k1];exact this
 refine (Calls.drawn (hp.2 c.bad W vs rK vU hv) fun e w' ⟨v,r,h,_⟩=>⟨v,h⟩).mono fun e w' ⟨⟨v,r,e1,e2,e3,e4⟩,hd⟩=>?_;subst e2;refine ⟨?_,grown_of e4 hd⟩;rw [e1,hr _ _ e3]
def Fq (P:Program) (f g K:Nat) (mk:List Value→Value):Prop:=∀ (n:Nat) (enc:Fin (n+1)→List Value) (cf:Fin (n+1)→Fin (n+1)→Int),(∀ i,(enc i).length=K)→(∀ i,∀ v∈enc i,v.oneCell'=true)→SWO (ltOf cf) →
 ∀ (blk cap:Nat) (d:Array (Fin (n+1))) (w:World),
 (∀ (m:Nat) (os:Array Obj) (dk:Array (Fin (n+1))),dk.size=d.size→∀ i j,Calls P g #[mk (enc i),mk (enc j)] (sortWorldK enc K w blk 0 m dk os) fun e w'=>e = .returned (.int .i64 (cf i j))∧∃ q pJ,w'=grow ((sortWorldK enc K w blk 0 m dk os).drewN q) pJ) →
 HoldsK enc K w blk 0 d→blk<w.heap.size→d.size<4611686018427387904 →
 Calls P f #[.slice (some ⟨blk,0,none⟩) d.size cap,.func (.func g) #[] #[]] w fun e w'=>e = .returned (.tuple #[])∧∃ d' m os,PermIn 0 d.size d d'∧SortedIn (ltOf cf) 0 d.size d'∧w'=sortWorldK enc K w blk 0 m d' os
def LP (mk:List Value→Value) (x:DV):Prop:=∀ (bad:Nat→Prop) (w:World) (vs:List Value),x.cells.length=vs.length→(∀ (j:Nat) (c:DV) (v:Value),x.cells[j]? = some c→vs[j]? = some v→VD bad w c v)→VD bad w x (mk vs)
def LQ (vs:List Value):Value := .agg vs.toArray
def mkOne (vs:List Value):Value:=vs[0]!
theorem Wl (c:List DV):LP LQ (.agg c):=fun bad w vs h k => .agg c _ (by have h:c.length=vs.length:=h; simpa using h) fun j x v hx hv=>k j x v hx (by simpa using hv)
theorem yZ {α:Type} [Inhabited α] (enc:α→Value) (d:Array α):putCells id 0 (flatK (fun i=>[enc i]) 1 d)=putCells enc 0 d:=by
 funext c;unfold putCells
 congr 1
 funext k x;simp only [Nat.sub_zero,size_flatK,Nat.mul_one,id];split
 ·rename_i h;rw [get_flatK _ _ _ _ (by omega)];simp [Nat.mod_one]
 ·rfl
theorem LR {α:Type} [Inhabited α] (enc:α→Value) (w:World) (blk n:Nat) (d:Array α) (os:Array Obj):sortWorldK (fun i=>[enc i]) 1 w blk 0 n d os=sortWorld enc w blk 0 n d os:=by
 unfold sortWorldK sortWorld putRowK putRow;rw [yZ]
theorem holds_one {α:Type} [Inhabited α] (enc:α→Value) (w:World) (blk:Nat) (d:Array α) (h:HoldsK (fun i=>[enc i]) 1 w blk 0 d):Holds enc w blk 0 d:=fun j hj=>by
 have:=h j (by rw [size_flatK]; omega);rw [get_flatK _ _ _ _ (by omega)] at this
 simpa [Nat.mod_one] using this
def LS (P:Program) (f g:Nat):Prop:=∀ (n:Nat) (enc:Fin (n+1)→Value) (cf:Fin (n+1)→Fin (n+1)→Int),(∀ i,(enc i).oneCell'=true)→SWO (ltOf cf) →
 ∀ (blk cap:Nat) (d:Array (Fin (n+1))) (w:World),
 (∀ (m:Nat) (os:Array Obj) (dk:Array (Fin (n+1))),dk.size=d.size→∀ i j,Calls P g #[enc i,enc j] (sortWorld enc w blk 0 m dk os) fun e w'=>e = .returned (.int .i64 (cf i j))∧∃ q pJ,w'=grow ((sortWorld enc w blk 0 m dk os).drewN q) pJ) →
 Holds enc w blk 0 d→blk<w.heap.size→d.size<4611686018427387904 →
 Calls P f #[.slice (some ⟨blk,0,none⟩) d.size cap,.func (.func g) #[] #[]] w fun e w'=>e = .returned (.tuple #[])∧∃ d' m os,PermIn 0 d.size d d'∧SortedIn (ltOf cf) 0 d.size d'∧w'=sortWorld enc w blk 0 m d' os
theorem LS.w {P:Program} {f g:Nat} (h:LS P f g):Fq P f g 1 mkOne:=fun n enc cf h1 h2 h3 blk cap d w h4 h5 h6 h7=>by
 obtain ⟨e1,rfl⟩:∃ e1:Fin (n+1)→Value,enc=fun i=>[e1 i]:=⟨fun i=>(enc i)[0]!,by
  funext i;have:=h1 i;show enc i=[(enc i)[0]!];generalize enc i=e at this ⊢
  match e,this with
  | [v],_=>rfl⟩
 have hc:=h n e1 cf (fun i=>h2 i _ (List.mem_singleton.2 rfl)) h3 blk cap d w (fun m os dk hs i j=>by
  have:=h4 m os dk hs i j;rw [LR] at this
  exact this) (holds_one _ _ _ _ h5) h6 h7
 refine hc.mono fun e w' ⟨a,d',m,os,b1,b2,b3⟩=>⟨a,d',m,os,b1,b2,?_⟩;rw [LR]; exact b3
theorem Wm {E:Env} {f g:FuncId} {t K:Nat} {mk:List Value→Value} {α:Type} (en:α→DV) (cmp:DV→DV→Int) (hS:Fq E.P f g K mk) (gb:qc E.P f) (l:List α) (hl:l≠[]) (hlen:l.length<4611686018427387904) (hK:∀ x∈l,(en x).cells.length=K) (ho:VW cmp (l.map en))
  (hA:∀ x∈l,LP mk (en x)) (hc:∀ x∈l,∀ y∈l,aq E g [en x,en y] (· = .int .i64 (cmp (en x) (en y)))) :
  au E f [.arr 0 (t,K) (l.map en)] [.own 0 0,.fn (.func g) [] []] (fun a b=>a = .aD []∧∃ l':List α,l'.Perm l∧l'.Pairwise (fun x y=>¬ cmp (en y) (en x)<0)∧b=[.arr 0 (t,K) (l'.map en)]):=by
 unfold au;refine ⟨gb,lB rfl,fun c vs h1 h2 h3=>?_⟩;obtain ⟨v1,v2,rfl⟩:∃ v1 v2,vs=[v1,v2]:=by
  have:=h3.1
  match vs,this with
  | [a,b],_=>exact ⟨a,b,rfl⟩
 have qD:=h3.2 0 _ v1 rfl rfl;have uw:=h3.2 1 _ v2 rfl rfl;have cQ:c.heap[0]? = some (.arr 0 (t,K) (l.map en)):=by rw [h1]; rfl
 obtain ⟨u1,u2,rfl,e2,e3⟩:=jO uw;obtain rfl:u1=[]:=List.eq_nil_of_length_eq_zero (by have:=e2.1; simpa using this.symm);obtain rfl:u2=[]:=List.eq_nil_of_length_eq_zero (by have:=e3.1; simpa using this.symm);rcases ln cQ qD with ⟨blk,cap,r1,rfl⟩ | ⟨nt,-,-⟩
 case inr=>exact absurd (List.map_eq_nil_iff.1 nt) hl
 obtain ⟨q0,q1,q2⟩:=h2.box 0 _ cQ;rcases q2 with ⟨q2,-⟩ | ⟨iK,il,vs',q2,q3,q4,q5,q6,q7⟩
 ·rw [r1] at q2; cases q2
 rw [r1] at q2;cases q2;simp only at q3 q4 q7;obtain ⟨n,hn⟩:∃ n,l.length=n+1:=⟨l.length - 1,by have:=List.length_pos_iff.2 hl; omega⟩
 let at_:Fin (n+1)→α:=fun i=>l[i.1]'(by have:=i.2; omega)
 have kD:∀ i:Fin (n+1),l[i.1]? = some (at_ i):=fun i=>List.getElem?_eq_getElem _;have iz:∀ i,at_ i∈l:=fun i=>List.mem_of_getElem? (kD i)
 let enc:Fin (n+1)→List Value:=fun i=>(List.range K).map fun j=>vs'[i.1*K+j]!
 have Fs:∀ i,(enc i).length=K:=fun i=>by simp [enc]
 have cZ:∀ (i:Fin (n+1)) (j:Nat),j<K→∃ x v,(en (at_ i)).cells[j]? = some x∧vs'[i.1*K+j]? = some v∧(enc i)[j]? = some v∧v.oneCell'=true∧VD c.bad c.w x v:=fun i j hj=>by
  obtain ⟨x,hx⟩:∃ x,(en (at_ i)).cells[j]? = some x:=⟨(en (at_ i)).cells[j]'(by rw [hK _ (iz i)]; exact hj),List.getElem?_eq_getElem _⟩;obtain ⟨v,a1,a2,a3⟩:=q7 i.1 j (en (at_ i)) x (by rw [List.getElem?_map,kD i]; rfl) hx;refine ⟨x,v,hx,a1,?_,a2,a3⟩;simp only [enc,List.getElem?_map,List.getElem?_range hj,Option.map_some];rw [getElem!_def,a1]
 let cf:Fin (n+1)→Fin (n+1)→Int:=fun i j=>cmp (en (at_ i)) (en (at_ j))
 have hO:SWO (ltOf cf):={
  irrefl:=fun x=>by simpa [ltOf,cf] using ho.irrefl _ (List.mem_map_of_mem (iz x))
  trans:=fun x y z h1 h2=>by
   simp only [ltOf,cf,decide_eq_true_eq] at h1 h2 ⊢;exact ho.trans _ (List.mem_map_of_mem (iz x)) _ (List.mem_map_of_mem (iz y)) _ (List.mem_map_of_mem (iz z)) h1 h2
  ntrans:=fun x y z h1 h2=>by
   simp only [ltOf,cf,decide_eq_false_iff_not] at h1 h2 ⊢
   exact ho.ntrans _ (List.mem_map_of_mem (iz x)) _ (List.mem_map_of_mem (iz y)) _ (List.mem_map_of_mem (iz z)) h1 h2 }
 let d:Array (Fin (n+1)):=(List.finRange (n+1)).toArray
 have fA:d.size=l.length:=by simp [d,hn]
 have hd:∀ i:Fin (n+1),d[i.1]? = some i:=fun i=>by simp [d]
 have LU:∀ (i:Fin (n+1)) (j:Nat) (v:Value),(enc i)[j]? = some v→(enc i)[j]! = v:=fun i j v h=>by rw [getElem!_def,h]
 have hH:HoldsK enc K c.w blk 0 d:=by
  intro j hj;simp only [size_flatK,fA] at hj;have Wn:0<K:=Nat.pos_of_ne_zero fun h=>by subst h; simp at hj
  have hi:j / K<n+1:=by rw [← hn]; exact Nat.div_lt_of_lt_mul (by rw [Nat.mul_comm]; exact hj)
  have hm:j % K<K:=Nat.mod_lt _ Wn;have ej:j / K*K+j % K=j:=by rw [Nat.mul_comm]; exact Nat.div_add_mod j K
  have f1:=fB (K:=K) enc d (j / K) (j % K) hm ⟨j / K,hi⟩ (hd ⟨j / K,hi⟩);obtain ⟨x,v,b1,b2,b3,b4,b5⟩:=cZ ⟨j / K,hi⟩ (j % K) hm;rw [ej,LU _ _ _ b3] at f1;simp only [ej] at b2;refine ⟨?_,by simp [World.frozen?,q3]⟩;show _=some ((flatK enc K d)[j]!);rw [f1];exact ku q3 _ _ (by simpa using b2)
 have hblk:=(h2.br 0 blk cap r1).1
 have fP:=hS n enc cf Fs (fun i v hv=>by
  obtain ⟨j,hj⟩:=List.getElem?_of_mem hv;have A6:j<K:=by have:=aR hj; rwa [Fs] at this
  obtain ⟨x',v',b1,b2,b3,b4,b5⟩:=cZ i j A6;rw [b3] at hj; cases hj; exact b4) hO blk cap d c.w (fun m os dk hs i j=>by
   obtain ⟨a1,a2,a3,a4,a5,a6⟩:=LD (enc:=enc) (K:=K) (n:=m) (d:=dk) (os:=os) q3;generalize sortWorldK enc K c.w blk 0 m dk os=W at a1 a2 a3 a4 a5 a6 ⊢;have qd:∀ b,b<c.w.heap.size→¬ c.bad b→W.heap[b]? = c.w.heap[b]? := fun b hb hn=>a5 b hb (fun e=>hn (e ▸ .inr ⟨0,cap,r1⟩))
   have eH:∀ i,VD c.bad W (en (at_ i)) (mk (enc i)):=fun i=>hA _ (iz i) c.bad W (enc i) (by rw [hK _ (iz i),Fs]) (fun j x v hx hv=>by
    have hj:j<K:=by have:=aR hx; rwa [hK _ (iz i)] at this
    obtain ⟨x',v',b1,b2,b3,b4,b5⟩:=cZ i j hj;rw [b1] at hx; cases hx;rw [b3] at hv; cases hv
    exact b5.mono fun b hb hn=>⟨hn,qd b hb hn⟩)
   exact Wk (vs:=[mk (enc i),mk (enc j)]) h2 a4 qd (hc _ (iz i) _ (iz j)) ⟨rfl,fun k x v hx hv=>by
    match k,hx,hv with
    | 0,hx,hv=>cases hx; cases hv; exact eH i
    | 1,hx,hv=>cases hx; cases hv; exact eH j⟩ (fun w v hv=>by cases hv; rfl)) hH hblk (by rw [fA]; exact hlen)
 rw [fA] at fP;have gT:([Value.slice (some ⟨blk,0,none⟩) (l.map en).length cap,.func (.func g) ([]:List Value).toArray ([]:List Value).toArray]:List Value).toArray = #[.slice (some ⟨blk,0,none⟩) l.length cap,.func (.func g) #[] #[]]:=by simp
 rw [gT];refine fP.mono fun e w' ⟨he,d',m,os,hp,hs,hw⟩=>?_;subst he;obtain ⟨p1,-,p3⟩:=hp;have eo:d'.size=l.length:=by rw [p1,fA]
 have Wo:d'.toList.Perm (List.finRange (n+1)):=by
  have ex:∀ (a:Array (Fin (n+1))),a.size=l.length→(a.extract 0 l.length).toList=a.toList:=fun a ha=>by rw [← ha,Array.extract_size]
  rw [ex d' eo,ex d fA] at p3
  simpa [d] using p3
 have Wp:(List.finRange (n+1)).map at_=l:=by
  apply List.ext_getElem?;intro i;rw [List.getElem?_map];rcases Nat.lt_or_ge i (n+1) with hi | hi
  ·have:=kD ⟨i,hi⟩;simp only at this;rw [this,List.getElem?_eq_getElem (by simpa using hi)];simp
  ·rw [List.getElem?_eq_none (by simpa using hi),List.getElem?_eq_none (by omega)]; rfl
 have mM:(d'.toList.map at_).Perm l:=by
  have:=Wo.map at_
  rwa [Wp] at this
 have Ew:(d'.toList.map at_).Pairwise (fun x y=>¬ cmp (en y) (en x)<0):=by
  rw [List.pairwise_map];refine List.pairwise_iff_getElem.2 fun i j hi hj dj=>?_;have bY:i<d'.size:=by simpa using hi
  have dI:j<d'.size:=by simpa using hj
  have:=hs i j (Nat.zero_le _) dj (by omega);rw [getElem!_pos d' j dI,getElem!_pos d' i bY] at this
  simpa [ltOf,cf] using this
 obtain ⟨a1,a2,a3,a4,a5,a6⟩:=LD (enc:=enc) (K:=K) (n:=m) (d:=d') (os:=os) q3;rw [← hw] at a1 a2 a3 a4 a5 a6
 let c':Cx:={ c with heap:=[.arr 0 (t,K) ((d'.toList.map at_).map en)],w:=w' }
 have bX:∀ i bx,c.heap[i]? = some bx→i=0∧bx = .arr 0 (t,K) (l.map en):=fun i bx hi=>by
  rw [h1] at hi;cases i with
  |zero=>simp at hi; exact ⟨rfl,hi.symm⟩
  |succ i=>simp at hi
 have jQ:((d'.toList.map at_).map en).length=(l.map en).length:=by simp [eo]
 have bc:aw.Step c c':=⟨rfl,h2.bN,a1,a2,a3,a4,fun b hb hn=>a5 b hb (fun e=>by subst e; exact hn 0 cap r1),fun i b n hi _=>⟨n,hi⟩,fun i bx hi=>by
  obtain ⟨rfl,rfl⟩:=bX i bx hi
  exact .inl ⟨0,_,rfl,.inr ⟨rfl,jQ,rfl⟩⟩⟩
 have aO:aK E.G c':=h2.next bc (fun i b n hi=>by
   have:=h2.br i b n hi;refine ⟨Nat.lt_of_lt_of_le this.1 a4,?_⟩;have h0:c.heap.length=1:=by rw [h1]; rfl
   show i<1;omega) h2.inj (fun i bx hi=>by
  right;cases i with
  |succ i=>simp [c'] at hi
  |zero =>
   simp [c'] at hi;subst hi;refine ⟨q0,fun i e he=>?_,.inr ⟨blk,cap,_,r1,a6,?_,?_,q6,fun i j e x he hx=>?_⟩⟩
   ·rw [← List.map_map] at he;have:=(mM.map en).mem_iff.1 (List.mem_of_getElem? he);obtain ⟨i2,qK⟩:=List.getElem?_of_mem this;exact q1 i2 e qK
   ·simp [putCells,q4]
   ·rw [← List.map_map,jQ]; exact q5
   ·simp only [List.getElem?_map] at he;cases hq:d'.toList[i]? with
    |none=>rw [hq] at he; cases he
    |some y =>
     rw [hq] at he;cases he;have hi:i<l.length:=by have:=aR hq; simpa [eo] using this
     have tS:d'[i]? = some y:=by simpa using hq
     have hx:(en (at_ y)).cells[j]? = some x:=hx;have A6:j<K:=by have:=aR hx; rwa [hK _ (iz y)] at this
     have f1:=fB (K:=K) enc d' i j A6 y tS;obtain ⟨x',v,b1,b2,b3,b4,b5⟩:=cZ y j A6;rw [b1] at hx; cases hx;rw [LU _ _ _ b3] at f1;have eF:vs'.size=cap*K:=q4;have lQ:l.length≤cap:=by have:=q5; rwa [List.length_map] at this
     have h5:i*K+j<vs'.size:=by
      have h6:(i+1)*K≤cap*K:=Nat.mul_le_mul_right K (by omega);rw [Nat.succ_mul] at h6;omega
     have h7:i*K+j<l.length*K:=by
      have h6:(i+1)*K≤l.length*K:=Nat.mul_le_mul_right K (by omega);rw [Nat.succ_mul] at h6;omega
     refine ⟨v,?_,b4,bc.vd b5⟩;simp only [putCells,Array.getElem?_mapIdx,Array.getElem?_eq_getElem h5,Option.map_some];rw [if_pos ⟨Nat.zero_le _,by rw [size_flatK,eo]; omega⟩]
     exact congrArg some f1)
 refine ⟨c',.aD [],.tuple #[],rfl,rfl,⟨rfl,_,mM,Ew,rfl⟩,.aD [] #[] rfl (fun j x v hx=>by simp at hx),aO,?_⟩
 exact ⟨rfl,a1,a2,a3,a4,fun b hb hn=>a5 b hb (fun e=>by subst e; exact hn 0 cap r1),fun i b n hi _=>⟨n,hi⟩,fun i bx hi=>by
  obtain ⟨rfl,rfl⟩:=bX i bx hi
  exact .inl ⟨0,_,rfl,.inr ⟨rfl,jQ,rfl⟩⟩⟩
end Go.Proofs.YtfmdaiojokniiaaGreatDoor.P
