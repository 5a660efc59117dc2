/- Sorting rows of structs by a comparison of their cells: the library's sort, as a contract over own arrays. Conditions: a length that Go allows. -/
import Derived.Test.YthikfaephakahaaGreatDoorZN6
set_option linter.unusedVariables false
set_option linter.unusedSimpArgs false
namespace Go.Proofs.YthikfaephakahaaGreatDoor.P
open Go Go.Eng Go.Sort Go.RowKit
def CellV (c:DV) (v:Value):Prop:=match c with
 | .int k n=>v = .int k n
 | .str t=>v = .string ⟨t.toArray⟩
 |_=>True
def CellsV (x:DV) (vs:List Value):Prop:=x.cells.length=vs.length∧∀ (j:Nat) (c:DV) (v:Value),x.cells[j]? = some c→vs[j]? = some v→CellV c v∧v.oneCell'=true
theorem vd_cell {bad:Nat→Prop} {w:World} {c:DV} {v:Value} (h:VD bad w c v):CellV c v:=by cases h <;> first | rfl | trivial
def SortsV (P:Program) (f g K:Nat):Prop:=∀ (n:Nat) (enc:Fin (n+1)→List Value) (cf:Fin (n+1)→Fin (n+1)→Int),(∀ i,(enc i).length=K)→(∀ i,∀ v∈enc i,v.oneCell'=true)→SWO (ltOf cf) →
 (∀ i j W,Calls P g #[.agg (enc i).toArray,.agg (enc j).toArray] W fun e w'=>e = .returned (.int .i64 (cf i j))∧∃ q os',w'=grow (W.drewN q) os') →
 ∀ (blk cap:Nat) (d:Array (Fin (n+1))) (w:World),HoldsK enc K w blk 0 d→blk<w.heap.size→d.size<4611686018427387904 →
 Calls P f #[.slice (some ⟨blk,0,none⟩) d.size cap,.func (.func g) #[] #[]] w fun e w'=>e = .returned (.tuple #[])∧∃ d' m os,PermIn 0 d.size d d'∧SortedIn (ltOf cf) 0 d.size d'∧w'=sortWorldK enc K w blk 0 m d' os
theorem flatV {α:Type} [Inhabited α] {K:Nat} (enc:α→List Value) (d:Array α) (i k:Nat) (hk:k<K) (x:α) (h:d[i]? = some x):(flatK enc K d)[i*K+k]! = (enc x)[k]! := by
 have hi:i<d.size:=by
  rcases Nat.lt_or_ge i d.size with h' | h'
  ·exact h'
  ·rw [Array.getElem?_eq_none h'] at h; cases h
 have hx:d[i]! = x:=by simp [getElem!_pos d i hi]; rw [Array.getElem?_eq_getElem hi] at h; exact Option.some.inj h
 have hlt:i*K+k<d.size*K:=by
  have:(i+1)*K≤d.size*K:=Nat.mul_le_mul_right K hi;rw [Nat.succ_mul] at this;omega
 rw [get_flatK _ _ _ _ hlt,show (i*K+k) / K=i by rw [Nat.mul_comm,Nat.mul_add_div (by omega),Nat.div_eq_of_lt hk]; rfl,show (i*K+k) % K=k by rw [Nat.mul_comm,Nat.mul_add_mod,Nat.mod_eq_of_lt hk],hx]
theorem sortWorldV_facts {α:Type} [Inhabited α] {enc:α→List Value} {K:Nat} {w:World} {blk n:Nat} {d:Array α} {os:Array Obj} {vs:Array Value} {ty:TypeId} (hb:w.heap[blk]? = some (.cells vs ty (0,0))) :
  let w':=sortWorldK enc K w blk 0 n d os
  w'.os=w.os∧w'.tape=w.tape∧w'.output=w.output∧w.heap.size≤w'.heap.size∧(∀ b,b<w.heap.size→b≠blk→w'.heap[b]? = w.heap[b]?)∧w'.heap[blk]? = some (.cells (putCells id 0 (flatK enc K d) vs) ty (0,0)):=by
 intro w';have hlt:blk<w.heap.size:=by
  rcases Nat.lt_or_ge blk w.heap.size with h | h
  ·exact h
  ·rw [Array.getElem?_eq_none h] at hb; cases hb
 have hsz:(putRowK enc K (Sort.ahead w n) blk 0 d).heap.size=w.heap.size:=by simp [putRowK,putRow,mapBlock]
 refine ⟨rfl,rfl,rfl,?_,fun b hb' hne=>?_,?_⟩
 ·show w.heap.size≤(grow _ os).heap.size;rw [size_grow,hsz]; omega
 ·show (grow _ os).heap[b]? = _;rw [heap_grow_old _ _ (by rw [hsz]; exact hb')];simp [putRowK,putRow,mapBlock,Array.getElem?_modify,Ne.symm hne]
 ·show (grow _ os).heap[blk]? = _;rw [heap_grow_old _ _ (by rw [hsz]; exact hlt)];simp [putRowK,putRow,mapBlock,Array.getElem?_modify,hb,onCells]
structure OrdV (cmp:DV→DV→Int) (l:List DV):Prop where
 irrefl:∀ x∈l,¬ cmp x x<0
 trans:∀ x∈l,∀ y∈l,∀ z∈l,cmp x y<0→cmp y z<0→cmp x z<0
 ntrans:∀ x∈l,∀ y∈l,∀ z∈l,¬ cmp x y<0→¬ cmp y z<0→¬ cmp x z<0
theorem sortV_a {E:Env} {f g:FuncId} {t K:Nat} {α:Type} (en:α→DV) (cmp:DV→DV→Int) (hS:SortsV E.P f g K) (hbd:HasBody E.P f) (l:List α) (hl:l≠[]) (hlen:l.length<4611686018427387904) (hK:∀ x∈l,(en x).cells.length=K) (ho:OrdV cmp (l.map en))
  (hc:∀ x∈l,∀ y∈l,∀ vx vy,CellsV (en x) vx→CellsV (en y) vy→∀ W,Calls E.P g #[.agg vx.toArray,.agg vy.toArray] W fun e w'=>e = .returned (.int .i64 (cmp (en x) (en y)))∧∃ q os',w'=grow (W.drewN q) os') :
  ACalls E f [.arr 0 (t,K) (l.map en)] [.own 0 0,.fn (.func g) [] []] (fun a b=>a = .tup []∧∃ l':List α,l'.Perm l∧l'.Pairwise (fun x y=>¬ cmp (en y) (en x)<0)∧b=[.arr 0 (t,K) (l'.map en)]):=by
 unfold ACalls;refine ⟨hbd,freshB_spec rfl,fun c vs h1 h2 h3=>?_⟩;obtain ⟨v1,v2,rfl⟩:∃ v1 v2,vs=[v1,v2]:=by
  have:=h3.1
  match vs,this with
  | [a,b],_=>exact ⟨a,b,rfl⟩
 have hv1:=h3.2 0 _ v1 rfl rfl;have hv2:=h3.2 1 _ v2 rfl rfl;have hbox:c.heap[0]? = some (.arr 0 (t,K) (l.map en)):=by rw [h1]; rfl
 obtain ⟨u1,u2,rfl,e2,e3⟩:=vr_fn hv2;obtain rfl:u1=[]:=List.eq_nil_of_length_eq_zero (by have:=e2.1; simpa using this.symm);obtain rfl:u2=[]:=List.eq_nil_of_length_eq_zero (by have:=e3.1; simpa using this.symm);rcases vr_own hbox hv1 with ⟨blk,cap,r1,rfl⟩ | ⟨hnil,-,-⟩
 case inr=>exact absurd (List.map_eq_nil_iff.1 hnil) hl
 obtain ⟨q0,q1,q2⟩:=h2.box 0 _ hbox;rcases q2 with ⟨q2,-⟩ | ⟨blk',cap',vs',q2,q3,q4,q5,q6,q7⟩
 ·rw [r1] at q2; cases q2
 rw [r1] at q2;cases q2;simp only at q3 q4 q7;obtain ⟨n,hn⟩:∃ n,l.length=n+1:=⟨l.length - 1,by have:=List.length_pos_iff.2 hl; omega⟩
 let at_:Fin (n+1)→α:=fun i=>l[i.1]'(by have:=i.2; omega)
 have hat:∀ i:Fin (n+1),l[i.1]? = some (at_ i):=fun i=>List.getElem?_eq_getElem _;have hmem:∀ i,at_ i∈l:=fun i=>List.mem_of_getElem? (hat i)
 let enc:Fin (n+1)→List Value:=fun i=>(List.range K).map fun j=>vs'[i.1*K+j]!
 have henc:∀ i,(enc i).length=K:=fun i=>by simp [enc]
 have hcell:∀ (i:Fin (n+1)) (j:Nat),j<K→∃ x v,(en (at_ i)).cells[j]? = some x∧vs'[i.1*K+j]? = some v∧(enc i)[j]? = some v∧v.oneCell'=true∧VD c.bad c.w x v:=fun i j hj=>by
  obtain ⟨x,hx⟩:∃ x,(en (at_ i)).cells[j]? = some x:=⟨(en (at_ i)).cells[j]'(by rw [hK _ (hmem i)]; exact hj),List.getElem?_eq_getElem _⟩;obtain ⟨v,a1,a2,a3⟩:=q7 i.1 j (en (at_ i)) x (by rw [List.getElem?_map,hat i]; rfl) hx;refine ⟨x,v,hx,a1,?_,a2,a3⟩;simp only [enc,List.getElem?_map,List.getElem?_range hj,Option.map_some];rw [getElem!_def,a1]
 have hcv:∀ i,CellsV (en (at_ i)) (enc i):=fun i=>⟨by rw [hK _ (hmem i),henc],fun j x v hx hv=>by
  have hj:j<K:=by have:=lt_of_getElem? hv; rwa [henc] at this
  obtain ⟨x',v',b1,b2,b3,b4,b5⟩:=hcell i j hj;rw [b1] at hx; cases hx;rw [b3] at hv; cases hv
  exact ⟨vd_cell b5,b4⟩⟩
 let cf:Fin (n+1)→Fin (n+1)→Int:=fun i j=>cmp (en (at_ i)) (en (at_ j))
 have hO:SWO (ltOf cf):={
  irrefl:=fun x=>by simpa [ltOf,cf] using ho.irrefl _ (List.mem_map_of_mem (hmem x))
  trans:=fun x y z h1 h2=>by
   simp only [ltOf,cf,decide_eq_true_eq] at h1 h2 ⊢;exact ho.trans _ (List.mem_map_of_mem (hmem x)) _ (List.mem_map_of_mem (hmem y)) _ (List.mem_map_of_mem (hmem z)) h1 h2
  ntrans:=fun x y z h1 h2=>by
   simp only [ltOf,cf,decide_eq_false_iff_not] at h1 h2 ⊢
   exact ho.ntrans _ (List.mem_map_of_mem (hmem x)) _ (List.mem_map_of_mem (hmem y)) _ (List.mem_map_of_mem (hmem z)) h1 h2 }
 let d:Array (Fin (n+1)):=(List.finRange (n+1)).toArray
 have hsize:d.size=l.length:=by simp [d,hn]
 have hd:∀ i:Fin (n+1),d[i.1]? = some i:=fun i=>by simp [d]
 have encg:∀ (i:Fin (n+1)) (j:Nat) (v:Value),(enc i)[j]? = some v→(enc i)[j]! = v:=fun i j v h=>by rw [getElem!_def,h]
 have hH:HoldsK enc K c.w blk 0 d:=by
  intro j hj;simp only [size_flatK,hsize] at hj;have hKpos:0<K:=Nat.pos_of_ne_zero fun h=>by subst h; simp at hj
  have hi:j / K<n+1:=by rw [← hn]; exact Nat.div_lt_of_lt_mul (by rw [Nat.mul_comm]; exact hj)
  have hm:j % K<K:=Nat.mod_lt _ hKpos;have ej:j / K*K+j % K=j:=by rw [Nat.mul_comm]; exact Nat.div_add_mod j K
  have f1:=flatV (K:=K) enc d (j / K) (j % K) hm ⟨j / K,hi⟩ (hd ⟨j / K,hi⟩);obtain ⟨x,v,b1,b2,b3,b4,b5⟩:=hcell ⟨j / K,hi⟩ (j % K) hm;rw [ej,encg _ _ _ b3] at f1;simp only [ej] at b2;refine ⟨?_,by simp [World.frozen?,q3]⟩;show _=some ((flatK enc K d)[j]!);rw [f1];exact row_of_block q3 _ _ (by simpa using b2)
 have hblk:=(h2.ownlt 0 blk cap r1).1
 have hcall:=hS n enc cf henc (fun i v hv=>by
  obtain ⟨j,hj⟩:=List.getElem?_of_mem hv;have hjK:j<K:=by have:=lt_of_getElem? hj; rwa [henc] at this
  obtain ⟨x',v',b1,b2,b3,b4,b5⟩:=hcell i j hjK
  rw [b3] at hj; cases hj; exact b4) hO (fun i j W=>hc _ (hmem i) _ (hmem j) _ _ (hcv i) (hcv j) W) blk cap d c.w hH hblk (by rw [hsize]; exact hlen)
 rw [hsize] at hcall;have hargs:([Value.slice (some ⟨blk,0,none⟩) (l.map en).length cap,.func (.func g) ([]:List Value).toArray ([]:List Value).toArray]:List Value).toArray = #[.slice (some ⟨blk,0,none⟩) l.length cap,.func (.func g) #[] #[]]:=by simp
 rw [hargs];refine hcall.mono fun e w' ⟨he,d',m,os,hp,hs,hw⟩=>?_;subst he;obtain ⟨p1,-,p3⟩:=hp;have hd':d'.size=l.length:=by rw [p1,hsize]
 have hperm0:d'.toList.Perm (List.finRange (n+1)):=by
  have ex:∀ (a:Array (Fin (n+1))),a.size=l.length→(a.extract 0 l.length).toList=a.toList:=fun a ha=>by rw [← ha,Array.extract_size]
  rw [ex d' hd',ex d hsize] at p3
  simpa [d] using p3
 have hl0:(List.finRange (n+1)).map at_=l:=by
  apply List.ext_getElem?;intro i;rw [List.getElem?_map];rcases Nat.lt_or_ge i (n+1) with hi | hi
  ·have:=hat ⟨i,hi⟩;simp only at this;rw [this,List.getElem?_eq_getElem (by simpa using hi)];simp
  ·rw [List.getElem?_eq_none (by simpa using hi),List.getElem?_eq_none (by omega)]; rfl
 have hperm:(d'.toList.map at_).Perm l:=by
  have:=hperm0.map at_
  rwa [hl0] at this
 have hsorted:(d'.toList.map at_).Pairwise (fun x y=>¬ cmp (en y) (en x)<0):=by
  rw [List.pairwise_map];refine List.pairwise_iff_getElem.2 fun i j hi hj hij=>?_;have hi':i<d'.size:=by simpa using hi
  have hj':j<d'.size:=by simpa using hj
  have:=hs i j (Nat.zero_le _) hij (by omega);rw [getElem!_pos d' j hj',getElem!_pos d' i hi'] at this
  simpa [ltOf,cf] using this
 obtain ⟨a1,a2,a3,a4,a5,a6⟩:=sortWorldV_facts (enc:=enc) (K:=K) (n:=m) (d:=d') (os:=os) q3;rw [← hw] at a1 a2 a3 a4 a5 a6
 let c':Cx:={ c with heap:=[.arr 0 (t,K) ((d'.toList.map at_).map en)],w:=w' }
 have hone:∀ i bx,c.heap[i]? = some bx→i=0∧bx = .arr 0 (t,K) (l.map en):=fun i bx hi=>by
  rw [h1] at hi;cases i with
  |zero=>simp at hi; exact ⟨rfl,hi.symm⟩
  |succ i=>simp at hi
 have hlen':((d'.toList.map at_).map en).length=(l.map en).length:=by simp [hd']
 have hst:Step c c':=⟨rfl,h2.barlt,a1,a2,a3,a4,fun b hb hn=>a5 b hb (fun e=>by subst e; exact hn 0 cap r1),fun i b n hi _=>⟨n,hi⟩,fun i bx hi=>by
  obtain ⟨rfl,rfl⟩:=hone i bx hi
  exact .inl ⟨0,_,rfl,.inr ⟨rfl,hlen',rfl⟩⟩⟩
 have hok:HOk E.G c':=h2.next hst (fun i b n hi=>by
   have:=h2.ownlt i b n hi;refine ⟨Nat.lt_of_lt_of_le this.1 a4,?_⟩;have h0:c.heap.length=1:=by rw [h1]; rfl
   show i<1;omega) h2.inj (fun i bx hi=>by
  right;cases i with
  |succ i=>simp [c'] at hi
  |zero =>
   simp [c'] at hi;subst hi;refine ⟨q0,fun i e he=>?_,.inr ⟨blk,cap,_,r1,a6,?_,?_,q6,fun i j e x he hx=>?_⟩⟩
   ·rw [← List.map_map] at he;have:=(hperm.map en).mem_iff.1 (List.mem_of_getElem? he);obtain ⟨i2,hi2⟩:=List.getElem?_of_mem this;exact q1 i2 e hi2
   ·simp [putCells,q4]
   ·rw [← List.map_map,hlen']; exact q5
   ·simp only [List.getElem?_map] at he;cases hq:d'.toList[i]? with
    |none=>rw [hq] at he; cases he
    |some y =>
     rw [hq] at he;cases he;have hi:i<l.length:=by have:=lt_of_getElem? hq; simpa [hd'] using this
     have hq':d'[i]? = some y:=by simpa using hq
     have hx:(en (at_ y)).cells[j]? = some x:=hx;have hjK:j<K:=by have:=lt_of_getElem? hx; rwa [hK _ (hmem y)] at this
     have f1:=flatV (K:=K) enc d' i j hjK y hq';obtain ⟨x',v,b1,b2,b3,b4,b5⟩:=hcell y j hjK;rw [b1] at hx; cases hx;rw [encg _ _ _ b3] at f1;have hvs:vs'.size=cap*K:=q4;have hb2:l.length≤cap:=by have:=q5; rwa [List.length_map] at this
     have h5:i*K+j<vs'.size:=by
      have h6:(i+1)*K≤cap*K:=Nat.mul_le_mul_right K (by omega);rw [Nat.succ_mul] at h6;omega
     have h7:i*K+j<l.length*K:=by
      have h6:(i+1)*K≤l.length*K:=Nat.mul_le_mul_right K (by omega);rw [Nat.succ_mul] at h6;omega
     refine ⟨v,?_,b4,hst.vd b5⟩;simp only [putCells,Array.getElem?_mapIdx,Array.getElem?_eq_getElem h5,Option.map_some];rw [if_pos ⟨Nat.zero_le _,by rw [size_flatK,hd']; omega⟩]
     exact congrArg some f1)
 refine ⟨c',.tup [],.tuple #[],rfl,rfl,⟨rfl,_,hperm,hsorted,rfl⟩,.tup [] #[] rfl (fun j x v hx=>by simp at hx),hok,?_⟩
 exact ⟨rfl,a1,a2,a3,a4,fun b hb hn=>a5 b hb (fun e=>by subst e; exact hn 0 cap r1),fun i b n hi _=>⟨n,hi⟩,fun i bx hi=>by
  obtain ⟨rfl,rfl⟩:=hone i bx hi
  exact .inl ⟨0,_,rfl,.inr ⟨rfl,hlen',rfl⟩⟩⟩
end Go.Proofs.YthikfaephakahaaGreatDoor.P
