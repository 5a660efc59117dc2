/- Lemmas of mine. Conditions: as stated. -/
import Derived.Test.YtfmdaiojokniiaaGreatDoorU13
set_option linter.unusedVariables false
set_option linter.unusedSimpArgs false
section
namespace Go.Proofs.YtfmdaiojokniiaaGreatDoor.P
open Go Go.ay Go.RowKit
theorem Dh{E:Env}{c:Cx}{t:Nat}{L:List DV}(hh:c.heap=[.cells [.own 1 0,.d (.int .i64 0),.d (.int .i8 0)],.arr 0 (t,1) L])(ho:aK E.G c)(hL:L≠[])(hc:∀ x∈L,x.cells=[x]){v0:Value}(hv:VR c (.ptr 0 0) v0) :
  ∃ (b iH g rG:Nat) (T:TypeId) (bs:List Value),v0=.pointer (some ⟨b,0,none⟩)/\c.own 0=some (b,iH)/\c.own 1=some (g,rG)/\bs.length=L.length/\eo T (fun _=>none) t b 0 g bs 0 c.w /\
   ∀ (j:Nat) (x:DV) (v:Value),L[j]?=some x->bs[j]?=some v->v.oneCell'=true/\VD c.bad c.w x v:=by
 have jO:c.heap[0]?=some (.cells [.own 1 0,.d (.int .i64 0),.d (.int .i8 0)]):=by rw[hh];rfl
 have mW:c.heap[1]?=some (.arr 0 (t,1) L):=by rw[hh];rfl
 obtain⟨b,iH,vs,ty,k1,k2,k3,k4⟩:=ho.box 0 _ jO;obtain⟨a0,a1,a2,rfl⟩:∃ a0 a1 a2,vs = #[a0,a1,a2]:=by
  match vs,k3 with
  |⟨[x,y,z]⟩,_=>exact⟨x,y,z,rfl⟩
 have h0:=k4 0 _ a0 rfl rfl;have h1:=k4 1 _ a1 rfl rfl;have h2:=k4 2 _ a2 rfl rfl;obtain rfl:a1=.int .i64 0:=by cases h1 with|d _ _ h=>cases h;rfl
 obtain rfl:a2=.int .i8 0:=by cases h2 with|d _ _ h=>cases h;rfl
 rcases kC mW h0 with⟨g,cap,r1,rfl⟩|⟨nj,-,-⟩
 case inr=>exact absurd nj hL
 obtain⟨q0,q1,q2⟩:=ho.box 1 _ mW;rcases q2 with⟨q2,-⟩|⟨g',gV,us,q2,q3,q4,q5,q6,q7⟩
 ·rw[r1]at q2;cases q2
 rw[r1]at q2;cases q2;have aI:g≠b:=fun e=>by
  subst e;have:=ho.inj 0 1 g iH cap k1 r1;cases this
 obtain rfl:v0=.pointer (some ⟨b,0,none⟩):=by
  cases hv with
  |ptr _ _ cs blk dS e1 e2=>rw[k1]at e2;cases e2;rfl
  |iv _ _ _ e1=>rw[jO]at e1;cases e1
 have hlen:us.toList.length=us.size:=Array.length_toList;simp only[Nat.mul_one]at q4 q7;refine⟨b,iH,g,cap,ty,us.toList.take L.length,rfl,k1,r1,by rw[List.length_take,hlen];omega,⟨cap,us,?_,q3,?_,q6,q4,?_,aI⟩,fun j x v hx hv=>?_⟩
 ·have:=LibA.three_whole k2
  rwa [show(us.toList.take L.length).length+0=L.length by rw[List.length_take,hlen];omega]
 ·rw[List.length_take,hlen];omega
 ·rw[List.length_take,hlen,Nat.min_eq_left (by omega)]
 ·obtain⟨u,e1,e2,e3⟩:=q7 j 0 x x hx (by rw[hc x (List.mem_of_getElem? hx)];rfl);have hj:j<L.length:=aQ hx;rw[List.getElem?_take,if_pos hj]at hv;have:us[j]?=some v:=by simpa using hv
  rw[Nat.add_zero,this]at e1;cases e1;exact⟨e2,e3⟩
theorem Di{E:Env}{c:Cx}{t:Nat}{L M:List DV}{b iH g rG:Nat}(hh:c.heap=[.cells [.own 1 0,.d (.int .i64 0),.d (.int .i8 0)],.arr 0 (t,1) L])(ho:aK E.G c)(hb:c.own 0=some (b,iH))(hg:c.own 1=some (g,rG))
  {w':World} {T:TypeId} {g2:Nat} {bs:List Value} (hX:eo T (fun _=>none) t b 0 g2 bs 0 w') (hN:vz g g2 c.w) (hK:cn b (some g) c.w w') (hlen:bs.length=M.length) (hc:∀ x∈M,x.cells=[x])
  (hv:∀ (j:Nat) (x:DV) (v:Value),M[j]?=some x->bs[j]?=some v->v.oneCell'=true/\VD c.bad c.w x v) :
  ∃ c':Cx,c'.w=w'/\(c'.heap=[.cells [.own 1 1,.d (.int .i64 0),.d (.int .i8 0)],.arr 1 (t,1) M])/\aK E.G c'/\Rel c c':=by
 obtain⟨cap,cur,h1,h2,h3,h4,h5,h6,h7⟩:=hX;rw[hlen,Nat.add_zero]at h1;rw[hlen,Nat.add_zero]at h3;rw[hlen]at h6;obtain⟨cs,d1,d2,d3,d4,d5⟩:=h1;have bP:cs.size=3:=by
  rcases Nat.lt_or_ge 3 cs.size with h|h
  ·have:=d5 3 (Or.inr (Nat.le_refl _));simp[h]at this
  ·have:=(Array.getElem?_eq_some_iff.1 d4).1;omega
 have HB:∀ i n,2<=i->c.own i≠some n:=fun i n hi h=>by have:=(ho.bA i n.1 n.2 h).2;rw[hh]at this;simp at this;omega
 let c':Cx:={ own:=fun i=>if i=1 then some (g2,cap)else c.own i,heap:=[.cells [.own 1 1,.d (.int .i64 0),.d (.int .i8 0)],.arr 1 (t,1) M],az:=c.az,w:=w' }
 have bF:∀ i n m,c.own i=some (n,m)->i=0/\n=b/\m=iH\/i=1/\n=g/\m=rG:=fun i n m hi=>by
  match i with
  |0=>rw[hb]at hi;cases hi;exact .inl ⟨rfl,rfl,rfl⟩
  |1=>rw[hg]at hi;cases hi;exact .inr ⟨rfl,rfl,rfl⟩
  |i+2=>exact absurd hi (HB _ _ (by omega))
 have rH:∀ i n m,c'.own i=some (n,m)->i=0/\n=b/\m=iH\/i=1/\n=g2/\m=cap:=fun i n m hi=>by
  simp only[c']at hi;split at hi
  ·rename_i he;cases hi;exact .inr ⟨he,rfl,rfl⟩
  ·rcases bF i n m hi with h|⟨h,-⟩
   ·exact .inl h
   ·contradiction
 have bW:∀ i bx,c.heap[i]?=some bx->i=0/\bx=.cells [.own 1 0,.d (.int .i64 0),.d (.int .i8 0)]\/i=1/\bx=.arr 0 (t,1) L:=fun i bx hi=>by
  rw[hh]at hi
  match i,hi with
  |0,hi=>cases hi;exact .inl ⟨rfl,rfl⟩
  |1,hi=>cases hi;exact .inr ⟨rfl,rfl⟩
 have r9:∀ k,k<c.w.heap.size->(∀ i n,c.own i≠some (k,n))->w'.heap[k]?=c.w.heap[k]? := fun k hk hn=>hK.keep k hk (fun e=>hn 0 iH (by rw[e];exact hb)) (fun e=>hn 1 rG (by cases e;exact hg));have eb:∀ i n m,c'.own i=some (n,m)->n<c.w.heap.size->∃ m',c.own i=some (n,m'):=fun i n m hi ah=>by
  rcases rH i n m hi with⟨rfl,rfl,rfl⟩|⟨rfl,rfl,rfl⟩
  ·exact⟨_,hb⟩
  ·rcases hN with rfl|hN
   ·exact⟨_,hg⟩
   ·omega
 have bg:ay.Step c c':=⟨rfl,ho.bQ,hK.os,hK.tape,hK.output,hK.size,r9,eb,fun i bx hi=>by
  rcases bW i bx hi with⟨rfl,rfl⟩|⟨rfl,rfl⟩
  ·exact .inl ⟨_,rfl,rfl,rfl⟩
  ·exact .inl ⟨1,M,rfl,.inl (by decide)⟩⟩
 have HC:VR c' (.own 1 1) (.slice (some ⟨g2,0,none⟩) M.length cap) := .own 1 1 (t,1) M g2 cap rfl rfl
 have aM:aK E.G c':=ho.next bg (fun i n m hi=>by
   rcases rH i n m hi with⟨rfl,rfl,-⟩|⟨rfl,rfl,-⟩
   ·exact⟨Lib.lt_of_heap d1,by show _<2;omega⟩
   ·exact⟨Lib.lt_of_heap h2,by show _<2;omega⟩) (fun i j n m k hi hj=>by
   rcases rH i n m hi with⟨rfl,e1,-⟩|⟨rfl,e1,-⟩<;>rcases rH j n k hj with⟨rfl,e2,-⟩|⟨rfl,e2,-⟩
   ·rfl
   ·exact absurd (e2.symm.trans e1) h7
   ·exact absurd (e1.symm.trans e2) h7
   ·rfl) (fun i bx hi=>by
  right
  match i,hi with
  |0,hi =>
   cases hi;refine⟨b,iH,cs,T,hb,d1,bP,fun j x v hx hv=>?_⟩
   match j,hx with
   |0,hx=>cases hx;rw[show cs[0]?=_ from d2]at hv;cases hv;exact HC
   |1,hx=>cases hx;rw[show cs[1]?=_ from d3]at hv;cases hv;exact .d _ _ (.int ..)
   |2,hx=>cases hx;rw[show cs[2]?=_ from d4]at hv;cases hv;exact .d _ _ (.int ..)
  |1,hi =>
   cases hi;refine⟨Nat.one_pos,fun i e he=>by rw[hc e (List.mem_of_getElem? he)];rfl,.inr ⟨g2,cap,cur,rfl,h2,by rw[Nat.mul_one];exact h5,h3,h4,fun i j e x he hx=>?_⟩⟩;rw[hc e (List.mem_of_getElem? he)]at hx;obtain⟨rfl,rfl⟩:j=0/\x=e:=by
    match j,hx with
    |0,hx=>cases hx;exact⟨rfl,rfl⟩
   have cg:i<M.length:=aQ he;have NC:bs[i]?=some (bs[i]'(by omega)):=List.getElem?_eq_getElem _;obtain⟨e1,e2⟩:=hv i x _ he NC;refine⟨bs[i]'(by omega),?_,e1,bg.vd e2⟩;have h8:(cur.toList.take M.length)[i]?=some (bs[i]'(by omega)):=by rw[h6];exact NC
   rw[List.getElem?_take,if_pos cg]at h8
   simpa using h8)
 refine⟨c',rfl,rfl,aM,⟨rfl,hK.os,hK.tape,hK.output,hK.size,r9,eb,fun i bx hi=>?_⟩⟩;rcases bW i bx hi with⟨rfl,rfl⟩|⟨rfl,rfl⟩
 ·exact .inl ⟨_,rfl,rfl,rfl⟩
 ·exact .inl ⟨1,M,rfl,.inl (by decide)⟩
theorem HD{c:Cx}{L M:List DV}{bs cs:List Value}(h:∀ (j:Nat) (x:DV) (v:Value),L[j]?=some x->bs[j]?=some v->v.oneCell'=true/\VD c.bad c.w x v)(hl:bs.length=L.length)
  (k:∀ (j:Nat) (x:DV) (v:Value),M[j]?=some x->cs[j]?=some v->v.oneCell'=true/\VD c.bad c.w x v) :
  ∀ (j:Nat) (x:DV) (v:Value),(L++M)[j]?=some x->(bs++cs)[j]?=some v->v.oneCell'=true/\VD c.bad c.w x v:=fun j x v hx hv=>by
 rcases Nat.lt_or_ge j L.length with hj|hj
 ·rw[List.getElem?_append_left hj]at hx;rw[List.getElem?_append_left (by omega)]at hv;exact h j x v hx hv
 ·rw[List.getElem?_append_right hj]at hx;rw[List.getElem?_append_right (by omega),hl]at hv;exact k _ x v hx hv
def ND(P:Program)(f:FuncId)(t:TypeId):Prop:=∀ (T:TypeId) (R:Nat->Option Value) (b q g:Nat) (bs:List Value) (c:Int) (w:World),eo T R t b q g bs 0 w->¬ bs.length=0->(∀ v∈bs,v.oneCell'=true)->bs.length+1<=140737488355328 ->
 Calls P f #[.pointer (some ⟨b,q,none⟩),.int .u8 c] w fun e w'=>e=.returned .nilIface/\∃ g2,vz g g2 w/\eo T R t b q g2 (bs++[.int .u8 c]) 0 w'/\cn b (some g) w w'
theorem XN{E:Env}{f:FuncId}{t:Nat}(hS:ND E.P f t)(fb:lq E.P f){L:List DV}{n:Int}(hL:L≠[])(hc:∀ x∈L,x.cells=[x])(pX:L.length+1<=140737488355328) :
  ar E f [.cells [.own 1 0,.d (.int .i64 0),.d (.int .i8 0)],.arr 0 (t,1) L] [.ptr 0 0,.d (.int .u8 n)] (fun a h=>a=.d .eI/\h=[.cells [.own 1 1,.d (.int .i64 0),.d (.int .i8 0)],.arr 1 (t,1) (L++[.int .u8 n])]):=by
 unfold ar;refine⟨fb,jR rfl,fun c vs h1 h2 h3=>?_⟩;obtain⟨v1,v2,rfl⟩:∃ v1 v2,vs=[v1,v2]:=by
  have:=h3.1
  match vs,this with
  |[a,b],_=>exact⟨a,b,rfl⟩
 have kI:=h3.2 0 _ v1 rfl rfl;have mh:=h3.2 1 _ v2 rfl rfl;obtain rfl:v2=.int .u8 n:=by cases mh with|d _ _ h=>cases h;rfl
 obtain⟨b,iH,g,rG,T,bs,rfl,k1,k2,k3,k4,k5⟩:=Dh h1 h2 hL hc kI;have aI:¬ bs.length=0:=by rw[k3];exact fun h=>hL (List.eq_nil_of_length_eq_zero h)
 have bH:∀ j v,bs[j]?=some v->∃ x,L[j]?=some x:=fun j v hj=>⟨L[j]'(by have:=aQ hj;omega),List.getElem?_eq_getElem _⟩
 refine(hS T _ b 0 g bs n c.w k4 aI (fun v hv=>by
  obtain⟨j,hj⟩:=List.getElem?_of_mem hv;obtain⟨x,hx⟩:=bH j v hj
  exact(k5 j x v hx hj).1) (by omega)).mono fun e w' ⟨e1,g2,e2,e3,e4⟩=>?_
 obtain⟨c',q1,q2,q3,q4⟩:=Di (M:=L++[.int .u8 n]) h1 h2 k1 k2 e3 e2 e4 (by simp[k3]) (fun x hx=>(List.mem_append.1 hx).elim (hc x) fun h=>by rw[List.mem_singleton.1 h];rfl) (HD k5 k3 fun j x v hx hv=>by
  match j,hx,hv with
  |0,hx,hv=>cases hx;cases hv;exact⟨rfl,.int ..⟩
  |k+1,hx,hv=>cases hx)
 exact⟨c',.d .eI,.nilIface,e1,q1,⟨rfl,q2⟩,.d _ _ .eI,q3,q4⟩
def NF(P:Program)(f:FuncId)(t:TypeId):Prop:=∀ (T:TypeId) (R:Nat->Option Value) (b q g:Nat) (bs:List Value) (s:ByteArray) (w:World),eo T R t b q g bs 0 w->¬ bs.length=0->¬ s.size=0->(∀ v∈bs,v.oneCell'=true)->bs.length+s.size<=140737488355328 ->
 Calls P f #[.pointer (some ⟨b,q,none⟩),.string s] w fun e w'=>e=.returned (.tuple #[.int .i64 s.size,.nilIface])/\∃ g2,vz g g2 w/\eo T R t b q g2 (bs++Lib.byteCells s.data.toList) 0 w'/\cn b (some g) w w'
theorem XO{E:Env}{f:FuncId}{t:Nat}(hS:NF E.P f t)(fb:lq E.P f){L:List DV}{s:List UInt8}(hL:L≠[])(hs:s≠[])(hc:∀ x∈L,x.cells=[x])(pX:L.length+s.length<=140737488355328) :
  ar E f [.cells [.own 1 0,.d (.int .i64 0),.d (.int .i8 0)],.arr 0 (t,1) L] [.ptr 0 0,.d (.str s)] (fun a h=>a=.aD [.d (.int .i64 s.length),.d .eI]/\h=[.cells [.own 1 1,.d (.int .i64 0),.d (.int .i8 0)],.arr 1 (t,1) (L++s.map fun x => .int .u8 x.toNat)]):=by
 unfold ar;refine⟨fb,jR rfl,fun c vs h1 h2 h3=>?_⟩;obtain⟨v1,v2,rfl⟩:∃ v1 v2,vs=[v1,v2]:=by
  have:=h3.1
  match vs,this with
  |[a,b],_=>exact⟨a,b,rfl⟩
 have kI:=h3.2 0 _ v1 rfl rfl;have mh:=h3.2 1 _ v2 rfl rfl;obtain rfl:v2=.string ⟨s.toArray⟩:=by cases mh with|d _ _ h=>cases h;rfl
 obtain⟨b,iH,g,rG,T,bs,rfl,k1,k2,k3,k4,k5⟩:=Dh h1 h2 hL hc kI;have aI:¬ bs.length=0:=by rw[k3];exact fun h=>hL (List.eq_nil_of_length_eq_zero h)
 have bP:(⟨s.toArray⟩:ByteArray).size=s.length:=by simp[ByteArray.size]
 refine(hS T _ b 0 g bs ⟨s.toArray⟩ c.w k4 aI (by rw[bP];exact fun h=>hs (List.eq_nil_of_length_eq_zero h)) (fun v hv=>by
  obtain⟨j,hj⟩:=List.getElem?_of_mem hv
  exact(k5 j _ v (List.getElem?_eq_getElem (by have:=aQ hj;omega)) hj).1) (by rw[bP];omega)).mono fun e w' ⟨e1,g2,e2,e3,e4⟩=>?_
 have e0:Lib.byteCells (⟨s.toArray⟩:ByteArray).data.toList=s.map fun x => .int .u8 x.toNat:=rfl;rw[e0]at e3
 obtain⟨c',q1,q2,q3,q4⟩:=Di (M:=L++s.map fun x => .int .u8 x.toNat) h1 h2 k1 k2 e3 e2 e4 (by simp[k3]) (fun x hx=>(List.mem_append.1 hx).elim (hc x) fun h=>by obtain⟨y,-,rfl⟩:=List.mem_map.1 h;rfl) (HD k5 k3 fun j x v hx hv=>by
  rw[List.getElem?_map]at hx hv;cases hq:s[j]? with
  |none=>rw[hq]at hx;cases hx
  |some y=>rw[hq]at hx hv;cases hx;cases hv;exact⟨rfl,.int ..⟩)
 refine⟨c',.aD [.d (.int .i64 s.length),.d .eI],.tuple #[.int .i64 s.length,.nilIface],by rw[e1,bP],q1,⟨rfl,q2⟩,.aD _ _ rfl (fun j x v hx hv=>?_),q3,q4⟩
 match j,hx,hv with
 |0,hx,hv=>cases hx;cases hv;exact .d _ _ (.int ..)
 |1,hx,hv=>cases hx;cases hv;exact .d _ _ .eI
def NG(P:Program)(f:FuncId)(t:TypeId):Prop:=∀ (T:TypeId) (R:Nat->Option Value) (b q g:Nat) (bs cs:List Value) (a:Addr) (n c:Nat) (w:World),eo T R t b q g bs 0 w->¬ bs.length=0->¬ n=0->(∀ v∈bs,v.oneCell'=true) ->
 cs.length=n->a.block≠b->(∀ j v,cs[j]?=some v->w.cell? (a.add j)=some v)->(∀ v∈cs,v.oneCell'=true)->bs.length+n<=140737488355328 ->
 Calls P f #[.pointer (some ⟨b,q,none⟩),.slice (some a) n c] w fun e w'=>e=.returned (.tuple #[.int .i64 n,.nilIface])/\∃ g2,vz g g2 w/\eo T R t b q g2 (bs++cs) 0 w'/\cn b (some g) w w'
theorem XP{E:Env}{f:FuncId}{t:Nat}(hS:NG E.P f t)(fb:lq E.P f){L M:List DV}(hL:L≠[])(hM:M≠[])(hc:∀ x∈L,x.cells=[x])(Ax:∀ x∈M,x.cells=[x])(pX:L.length+M.length<=140737488355328) :
  ar E f [.cells [.own 1 0,.d (.int .i64 0),.d (.int .i8 0)],.arr 0 (t,1) L] [.ptr 0 0,.d (.sl M)] (fun a h=>a=.aD [.d (.int .i64 M.length),.d .eI]/\h=[.cells [.own 1 1,.d (.int .i64 0),.d (.int .i8 0)],.arr 1 (t,1) (L++M)]):=by
 unfold ar;refine⟨fb,jR rfl,fun c vs h1 h2 h3=>?_⟩;obtain⟨v1,v2,rfl⟩:∃ v1 v2,vs=[v1,v2]:=by
  have:=h3.1
  match vs,this with
  |[a,b],_=>exact⟨a,b,rfl⟩
 have kI:=h3.2 0 _ v1 rfl rfl;have mh:=h3.2 1 _ v2 rfl rfl;obtain⟨b,iH,g,rG,T,bs,rfl,k1,k2,k3,k4,k5⟩:=Dh h1 h2 hL hc kI;have aI:¬ bs.length=0:=by rw[k3];exact fun h=>hL (List.eq_nil_of_length_eq_zero h)
 cases mh with|d _ _ hd=>?_;cases hd with
 |slnil=>exact absurd rfl hM
 |ku a=>exact absurd rfl hM
 |sl _ blk off cap sz f hb bP jm hlen dK bH bW=>?_
 have XQ:sz=1:=by
  obtain⟨e,r,rfl⟩:=List.exists_cons_of_ne_nil hM;rw[<- hlen 0 e rfl,Ax e (List.mem_cons_self ..)];rfl
 subst XQ;have ec:∀ (i:Nat) (e:DV),M[i]?=some e->e.cells[0]?=some e:=fun i e he=>by rw[Ax e (List.mem_of_getElem? he)];rfl
 have dE:∀ (j:Nat) (v:Value),((List.range M.length).map fun i=>f i 0)[j]?=some v->∃ e,M[j]?=some e/\v=f j 0:=fun j v hv=>by
  rw[List.getElem?_map]at hv;cases hq:(List.range M.length)[j]? with
  |none=>rw[hq]at hv;cases hv
  |some y =>
   have ah:j<M.length:=by have:=aQ hq;simpa using this
   rw[List.getElem?_range ah]at hq;cases hq;rw[List.getElem?_range ah]at hv;cases hv;exact⟨_,List.getElem?_eq_getElem ah,rfl⟩
 refine(hS T _ b 0 g bs ((List.range M.length).map fun i=>f i 0) ⟨blk,off,none⟩ M.length cap c.w k4 aI (fun h=>hM (List.eq_nil_of_length_eq_zero h)) (fun v hv=>by
  obtain⟨j,hj⟩:=List.getElem?_of_mem hv;exact(k5 j _ v (List.getElem?_eq_getElem (by have:=aQ hj;omega)) hj).1) (by simp) (fun e=>by cases e;exact hb hM (.inr ⟨0,iH,k1⟩)) (fun j v hv=>by
  obtain⟨e,he,rfl⟩:=dE j v hv;have:=dK j 0 e e he (ec j e he);rw[Lib.addr_add]
  simpa using this) (fun v hv=>by
  obtain⟨j,hj⟩:=List.getElem?_of_mem hv;obtain⟨e,he,rfl⟩:=dE j v hj
  exact bW j 0 e e he (ec j e he)) (by omega)).mono fun e w' ⟨e1,g2,e2,e3,e4⟩=>?_
 obtain⟨c',q1,q2,q3,q4⟩:=Di (M:=L++M) h1 h2 k1 k2 e3 e2 e4 (by simp[k3]) (fun x hx=>(List.mem_append.1 hx).elim (hc x) (Ax x)) (HD k5 k3 fun j x v hx hv=>by
  obtain⟨e,he,rfl⟩:=dE j v hv;rw[hx]at he;cases he
  exact⟨bW j 0 x x hx (ec j x hx),bH j 0 x x hx (ec j x hx)⟩)
 refine⟨c',.aD [.d (.int .i64 M.length),.d .eI],.tuple #[.int .i64 M.length,.nilIface],e1,q1,⟨rfl,q2⟩,.aD _ _ rfl (fun j x v hx hv=>?_),q3,q4⟩
 match j,hx,hv with
 |0,hx,hv=>cases hx;cases hv;exact .d _ _ (.int ..)
 |1,hx,hv=>cases hx;cases hv;exact .d _ _ .eI
def NH(P:Program)(f:FuncId)(t:TypeId):Prop:=∀ (T:TypeId) (R:Nat->Option Value) (b q:Nat) (c:Int) (w:World),LibA.Three w b q T R (.slice none 0 0) (.int .i64 0) (.int .i8 0) ->
 Calls P f #[.pointer (some ⟨b,q,none⟩),.int .u8 c] w fun e w'=>e=.returned .nilIface/\∃ g2,w.heap.size<=g2/\eo T R t b q g2 [.int .u8 c] 0 w'/\cn b none w w'
theorem XR{E:Env}{f:FuncId}{t:Nat}(hS:NH E.P f t)(fb:lq E.P f){n:Int} :
  ar E f [.cells [.d .aH,.d (.int .i64 0),.d (.int .i8 0)]] [.ptr 0 0,.d (.int .u8 n)] (fun a h=>a=.d .eI/\h=[.cells [.own 1 0,.d (.int .i64 0),.d (.int .i8 0)],.arr 0 (t,1) [.int .u8 n]]):=by
 unfold ar;refine⟨fb,jR rfl,fun c vs hh ho h3=>?_⟩;obtain⟨v1,v2,rfl⟩:∃ v1 v2,vs=[v1,v2]:=by
  have:=h3.1
  match vs,this with
  |[a,b],_=>exact⟨a,b,rfl⟩
 have kI:=h3.2 0 _ v1 rfl rfl;have mh:=h3.2 1 _ v2 rfl rfl;obtain rfl:v2=.int .u8 n:=by cases mh with|d _ _ h=>cases h;rfl
 have jO:c.heap[0]?=some (.cells [.d .aH,.d (.int .i64 0),.d (.int .i8 0)]):=by rw[hh];rfl
 obtain⟨b,iH,vs,ty,k1,k2,k3,k4⟩:=ho.box 0 _ jO;obtain⟨a0,a1,a2,rfl⟩:∃ a0 a1 a2,vs = #[a0,a1,a2]:=by
  match vs,k3 with
  |⟨[x,y,z]⟩,_=>exact⟨x,y,z,rfl⟩
 have h0:=k4 0 _ a0 rfl rfl;have h1:=k4 1 _ a1 rfl rfl;have h2:=k4 2 _ a2 rfl rfl;obtain rfl:a0=.slice none 0 0:=by cases h0 with|d _ _ h=>cases h;rfl
 obtain rfl:a1=.int .i64 0:=by cases h1 with|d _ _ h=>cases h;rfl
 obtain rfl:a2=.int .i8 0:=by cases h2 with|d _ _ h=>cases h;rfl
 obtain rfl:v1=.pointer (some ⟨b,0,none⟩):=by
  cases kI with
  |ptr _ _ cs blk dS e1 e2=>rw[k1]at e2;cases e2;rfl
  |iv _ _ _ e1=>rw[jO]at e1;cases e1
 refine(hS ty _ b 0 n c.w (LibA.three_whole k2)).mono fun e w' ⟨e1,g2,e2,hX,hK⟩=>?_;obtain⟨cap,cur,d0,d2,d3,d4,d5,d6,d7⟩:=hX;obtain⟨cs,f1,f2,f3,f4,f5⟩:=d0;have bP:cs.size=3:=by
  rcases Nat.lt_or_ge 3 cs.size with h|h
  ·have:=f5 3 (Or.inr (Nat.le_refl _));simp[h]at this
  ·have:=(Array.getElem?_eq_some_iff.1 f4).1;omega
 have Sw:=(ho.bA 0 b iH k1).1;have HB:∀ i n,1<=i->c.own i≠some n:=fun i n hi h=>by have:=(ho.bA i n.1 n.2 h).2;rw[hh]at this;simp at this;omega
 let c':Cx:={ own:=fun i=>if i=1 then some (g2,cap)else c.own i,heap:=[.cells [.own 1 0,.d (.int .i64 0),.d (.int .i8 0)],.arr 0 (t,1) [.int .u8 n]],az:=c.az,w:=w' }
 have rH:∀ i n m,c'.own i=some (n,m)->i=0/\n=b/\m=iH\/i=1/\n=g2/\m=cap:=fun i n m hi=>by
  simp only[c']at hi;split at hi
  ·rename_i he;cases hi;exact .inr ⟨he,rfl,rfl⟩
  ·match i with
   |0=>rw[k1]at hi;cases hi;exact .inl ⟨rfl,rfl,rfl⟩
   |i+1=>exact absurd hi (HB _ _ (by omega))
 have bW:∀ i bx,c.heap[i]?=some bx->i=0/\bx=.cells [.d .aH,.d (.int .i64 0),.d (.int .i8 0)]:=fun i bx hi=>by
  rw[hh]at hi
  match i,hi with
  |0,hi=>cases hi;exact⟨rfl,rfl⟩
 have r9:∀ k,k<c.w.heap.size->(∀ i n,c.own i≠some (k,n))->w'.heap[k]?=c.w.heap[k]? := fun k hk hn=>hK.keep k hk (fun e=>hn 0 iH (by rw[e];exact k1)) (by simp);have eb:∀ i n m,c'.own i=some (n,m)->n<c.w.heap.size->∃ m',c.own i=some (n,m'):=fun i n m hi ah=>by
  rcases rH i n m hi with⟨rfl,rfl,rfl⟩|⟨rfl,rfl,rfl⟩
  ·exact⟨_,k1⟩
  ·omega
 have bg:ay.Step c c':=⟨rfl,ho.bQ,hK.os,hK.tape,hK.output,hK.size,r9,eb,fun i bx hi=>by
  obtain⟨rfl,rfl⟩:=bW i bx hi
  exact .inl ⟨_,rfl,rfl,rfl⟩⟩
 have HC:VR c' (.own 1 0) (.slice (some ⟨g2,0,none⟩) 1 cap) := .own 1 0 (t,1) [.int .u8 n] g2 cap rfl rfl
 have aM:aK E.G c':=ho.next bg (fun i n m hi=>by
   rcases rH i n m hi with⟨rfl,rfl,-⟩|⟨rfl,rfl,-⟩
   ·exact⟨Lib.lt_of_heap f1,by show _<2;omega⟩
   ·exact⟨Lib.lt_of_heap d2,by show _<2;omega⟩) (fun i j n m k hi hj=>by
   rcases rH i n m hi with⟨rfl,e1,-⟩|⟨rfl,e1,-⟩<;>rcases rH j n k hj with⟨rfl,e2,-⟩|⟨rfl,e2,-⟩
   ·rfl
   ·exact absurd (e2.symm.trans e1) d7
   ·exact absurd (e1.symm.trans e2) d7
   ·rfl) (fun i bx hi=>by
  right
  match i,hi with
  |0,hi =>
   cases hi;refine⟨b,iH,cs,ty,k1,f1,bP,fun j x v hx hv=>?_⟩
   match j,hx with
   |0,hx=>cases hx;rw[show cs[0]?=_ from f2]at hv;cases hv;exact HC
   |1,hx=>cases hx;rw[show cs[1]?=_ from f3]at hv;cases hv;exact .d _ _ (.int ..)
   |2,hx=>cases hx;rw[show cs[2]?=_ from f4]at hv;cases hv;exact .d _ _ (.int ..)
  |1,hi =>
   cases hi;refine⟨Nat.one_pos,fun i e he=>by rw[List.mem_singleton.1 (List.mem_of_getElem? he)];rfl,.inr ⟨g2,cap,cur,rfl,d2,by rw[Nat.mul_one];exact d5,d3,d4,fun i j e x he hx=>?_⟩⟩
   match i,he with
   |0,he =>
    cases he
    match j,hx with
    |0,hx =>
     cases hx;refine⟨.int .u8 n,?_,rfl,.int ..⟩;have h8:(cur.toList.take 1)[0]?=some (.int .u8 n):=by rw[show cur.toList.take 1=_ from d6];rfl
     simpa using h8)
 refine⟨c',.d .eI,.nilIface,e1,rfl,⟨rfl,rfl⟩,.d _ _ .eI,aM,⟨rfl,hK.os,hK.tape,hK.output,hK.size,r9,eb,fun i bx hi=>?_⟩⟩;obtain⟨rfl,rfl⟩:=bW i bx hi;exact .inl ⟨_,rfl,rfl,rfl⟩
def NI(P:Program)(f:FuncId)(t:TypeId):Prop:=∀ (T:TypeId) (R:Nat->Option Value) (b q g:Nat) (bs:List Value) (s:ByteArray) (w:World),eo T R t b q g bs 0 w->s.size=0 ->
 Calls P f #[.pointer (some ⟨b,q,none⟩),.string s] w fun e w'=>e=.returned (.tuple #[.int .i64 0,.nilIface])/\eo T R t b q g bs 0 w'/\cn b (some g) w w'
theorem XS{E:Env}{f:FuncId}{t:Nat}(hS:NI E.P f t)(fb:lq E.P f){L:List DV}(hL:L≠[])(hc:∀ x∈L,x.cells=[x]) :
  ar E f [.cells [.own 1 0,.d (.int .i64 0),.d (.int .i8 0)],.arr 0 (t,1) L] [.ptr 0 0,.d (.str [])] (fun a h=>a=.aD [.d (.int .i64 0),.d .eI]/\h=[.cells [.own 1 1,.d (.int .i64 0),.d (.int .i8 0)],.arr 1 (t,1) L]):=by
 unfold ar;refine⟨fb,jR rfl,fun c vs h1 h2 h3=>?_⟩;obtain⟨v1,v2,rfl⟩:∃ v1 v2,vs=[v1,v2]:=by
  have:=h3.1
  match vs,this with
  |[a,b],_=>exact⟨a,b,rfl⟩
 have kI:=h3.2 0 _ v1 rfl rfl;have mh:=h3.2 1 _ v2 rfl rfl;obtain rfl:v2=.string ⟨([]:List UInt8).toArray⟩:=by cases mh with|d _ _ h=>cases h;rfl
 obtain⟨b,iH,g,rG,T,bs,rfl,k1,k2,k3,k4,k5⟩:=Dh h1 h2 hL hc kI;refine(hS T _ b 0 g bs ⟨([]:List UInt8).toArray⟩ c.w k4 rfl).mono fun e w' ⟨e1,e3,e4⟩=>?_;obtain⟨c',q1,q2,q3,q4⟩:=Di (M:=L) h1 h2 k1 k2 e3 (.inl rfl) e4 k3 hc k5;refine⟨c',.aD [.d (.int .i64 0),.d .eI],.tuple #[.int .i64 0,.nilIface],e1,q1,⟨rfl,q2⟩,.aD _ _ rfl (fun j x v hx hv=>?_),q3,q4⟩
 match j,hx,hv with
 |0,hx,hv=>cases hx;cases hv;exact .d _ _ (.int ..)
 |1,hx,hv=>cases hx;cases hv;exact .d _ _ .eI
end Go.Proofs.YtfmdaiojokniiaaGreatDoor.P
end
section
namespace Go.Proofs.YtfmdaiojokniiaaGreatDoor.P
open Go Go.ay
set_option maxRecDepth 100000
set_option maxHeartbeats 4000000
theorem XX:NH Tryz.prog 202 5:=XL Tryz.NK
theorem XY:ND Tryz.prog 202 5:=XG Tryz.NK
theorem XZ:NF Tryz.prog 269 5:=XH Tryz.NJ
theorem X0:NI Tryz.prog 269 5:=XM Tryz.NJ
theorem X1:NG Tryz.prog 268 5:=XI Tryz.XW
theorem tz{G:List (Nat × DV)}{s:List AV}{x:Operand}{ds:List DV}(h:aZ G s x (.d (.agg ds))):aZ G s x (.agg (ds.map .d)):=fun c ac h3 h4=>by
 have hv:=h c ac h3 h4;generalize ac.eval x=p at hv ⊢;cases hv with
 |d _ _ hd =>
  cases hd with
  |agg _ vs hlen bH =>
   refine .agg _ vs (by simpa using hlen) fun j y v hy hv=>?_;rw[List.getElem?_map]at hy;cases hq:ds[j]? with
   |none=>rw[hq]at hy;cases hy
   |some z=>rw[hq]at hy;cases hy;exact .d _ _ (bH j z v hq hv)
def eS(L:List DV):Prop:=L≠[]/\∀ x∈L,isByte x
theorem eS.more{L M:List DV}(h:eS L)(k:∀ x∈M,isByte x):eS (L++M):=⟨by simp[h.1],fun x hx=>(List.mem_append.1 hx).elim (h.2 x) (k x)⟩
theorem eS.cells{L:List DV}(h:eS L):∀ x∈L,x.cells=[x]:=fun x hx=>by obtain⟨n,rfl⟩:=h.2 x hx;rfl
theorem ow(n:Int):∀ x∈[DV.int .u8 n],isByte x:=fun x hx=>⟨n,List.mem_singleton.1 hx⟩
def nz(n:Int):List DV:=[56,48,40,32,24,16,8,0].map fun k => .int .u8 (IntKind.u8.wrap (lu .shr .u64 n k))
def il(n:Int):List DV:=[24,16,8,0].map fun k => .int .u8 (IntKind.u8.wrap (lu .shr .i64 n k))
theorem X2(n:Int){k:Nat}(h:k<8):(nz n).take k++[.int .u8 (IntKind.u8.wrap (lu .shr .u64 n (56-8*(k:Int)).toNat))]=(nz n).take (k+1):=by
 match k,h with
 |0,_=>rfl
 |1,_=>rfl
 |2,_=>rfl
 |3,_=>rfl
 |4,_=>rfl
 |5,_=>rfl
 |6,_=>rfl
 |7,_=>rfl
theorem X3(n:Int){k:Nat}(h:k<4):(il n).take k++[.int .u8 (IntKind.u8.wrap (lu .shr .i64 n (24-8*(k:Int)).toNat))]=(il n).take (k+1):=by
 match k,h with
 |0,_=>rfl
 |1,_=>rfl
 |2,_=>rfl
 |3,_=>rfl
theorem HE(n:Int):∀ x∈nz n,isByte x:=fun x hx=>by obtain⟨k,-,rfl⟩:=List.mem_map.1 hx;exact⟨_,rfl⟩
theorem mJ(n:Int):∀ x∈il n,isByte x:=fun x hx=>by obtain⟨k,-,rfl⟩:=List.mem_map.1 hx;exact⟨_,rfl⟩
theorem NL:lq E.P 202:=⟨_,Tryz.func202,by rfl,by decide⟩
theorem NM:lq E.P 269:=⟨_,Tryz.func269,by rfl,by decide⟩
theorem X4:lq E.P 268:=⟨_,Tryz.func268,by rfl,by decide⟩
theorem HF(n:Int){L:List DV}(hL:eS L)(hl:L.length+1<=140737488355328) :
  ar E 202 [.cells [.own 1 0,.d (.int .i64 0),.d (.int .i8 0)],.arr 0 (5,1) L] [.ptr 0 0,.d (.int .u8 n)] (fun a h=>a=.d .eI/\h=[.cells [.own 1 1,.d (.int .i64 0),.d (.int .i8 0)],.arr 1 (5,1) (L++[.int .u8 n])]) :=
 XN XY NL hL.1 hL.cells hl
theorem X5(n:Int) :
  ar E 202 [.cells [.d .aH,.d (.int .i64 0),.d (.int .i8 0)]] [.ptr 0 0,.d (.int .u8 n)] (fun a h=>a=.d .eI/\h=[.cells [.own 1 0,.d (.int .i64 0),.d (.int .i8 0)],.arr 0 (5,1) ([.int .u8 n])]) :=
 XR XX NL
theorem NN{L:List DV}(hL:eS L) :
  ar E 269 [.cells [.own 1 0,.d (.int .i64 0),.d (.int .i8 0)],.arr 0 (5,1) L] [.ptr 0 0,.d (.str [])] (fun a h=>a=.aD [.d (.int .i64 0),.d .eI]/\h=[.cells [.own 1 1,.d (.int .i64 0),.d (.int .i8 0)],.arr 1 (5,1) L]) :=
 XS X0 NM hL.1 hL.cells
theorem NO(s:Text){L:List DV}(hL:eS L)(hs:s≠[])(hl:L.length+s.length<=140737488355328) :
  ar E 269 [.cells [.own 1 0,.d (.int .i64 0),.d (.int .i8 0)],.arr 0 (5,1) L] [.ptr 0 0,.d (.str s)] (fun a h=>a=.aD [.d (.int .i64 s.length),.d .eI]/\h=[.cells [.own 1 1,.d (.int .i64 0),.d (.int .i8 0)],.arr 1 (5,1) (L++s.map kB)]) :=
 XO XZ NM hL.1 hs hL.cells hl
theorem X6(M:List DV){L:List DV}(hL:eS L)(hM:eS M)(hl:L.length+M.length<=140737488355328) :
  ar E 268 [.cells [.own 1 0,.d (.int .i64 0),.d (.int .i8 0)],.arr 0 (5,1) L] [.ptr 0 0,.d (.sl M)] (fun a h=>a=.aD [.d (.int .i64 M.length),.d .eI]/\h=[.cells [.own 1 1,.d (.int .i64 0),.d (.int .i8 0)],.arr 1 (5,1) (L++M)]) :=
 XP X1 X4 hL.1 hM.1 hL.cells hM.cells hl
theorem Dj(n:Int)(L:List DV)(hL:eS L)(hl:L.length+8<=140737488355328):ar E 122 [.cells [.own 1 0,.d (.int .i64 0),.d (.int .i8 0)],.arr 0 (5,1) L] [.ptr 0 0,.d (.int .u64 n)] (fun a b=>a=.aD []/\b=[.cells [.own 1 1,.d (.int .i64 0),.d (.int .i8 0)],.arr 1 (5,1) (L++nz n)]):=by
 refine ar.run ab (fn:=Tryz.f122) Tryz.func122 (body:=Tryz.f122.body.getD .skip) rfl (by decide) 2000 rfl ?_;(conv=>whnf);refine I.loop (κ:=Nat) (rg 4 13) (fun k=>[(4,.d (.int .i64 (56-8*(k:Int))))]) (fun k=>[(0,.cells [.own 1 1,.d (.int .i64 0),.d (.int .i8 0)]),(1,.arr 1 (5,1) (L++(nz n).take k))]) (fun k=>k<=8) (fun k=>8-k) 0 (Nat.zero_le _) ?_ ?_
 ·(conv=>whnf);repeat (first|exact trivial|(refine sI ?_;conv=>whnf))
  refine And.intro (by simp) ?_;exact sZ
 ·intro k hk IH;refine I.head ab Tryz.func122 2000 ?_;(conv=>whnf);refine ai (fun h=>?_) (fun h=>?_)
  ·have ah:k<8:=by simp at h;omega
   have X7:((nz n).take k).length<=7:=by rw[List.length_take];omega
   refine gO Tryz.func122 ?_;refine I.bJ ab bG 2000 (by kernel_rfl) ?_;(conv=>whnf);refine aV (by omega) ?_;refine gD ?_;refine zx (HF _ (hL.more (M:=(nz n).take k) fun x hx=>HE n x (List.mem_of_mem_take hx)) (by rw[List.length_append];omega)) ?_;refine gD ?_;refine And.intro (by kernel_rfl) ?_;(conv=>whnf);refine gO Tryz.func122 ?_;refine I.back (IH (k+1) (by omega) (by omega)) ?_;(conv=>whnf);repeat (first|exact trivial|(refine sI ?_;conv=>whnf))
   refine And.intro (by rw[List.append_assoc,X2 n ah]) ?_;exact sZ
  ·have aA:k=8:=by simp at h;omega
   subst aA;refine gO Tryz.func122 ?_;exact⟨rfl,rfl⟩
theorem AA(n:Int)(L:List DV)(hL:eS L)(hl:L.length+4<=140737488355328):ar E 197 [.cells [.own 1 0,.d (.int .i64 0),.d (.int .i8 0)],.arr 0 (5,1) L] [.ptr 0 0,.d (.int .i64 n)] (fun a b=>a=.aD []/\b=[.cells [.own 1 1,.d (.int .i64 0),.d (.int .i8 0)],.arr 1 (5,1) (L++il n)]):=by
 refine ar.run ab (fn:=Tryz.f197) Tryz.func197 (body:=Tryz.f197.body.getD .skip) rfl (by decide) 2000 rfl ?_;(conv=>whnf);refine I.loop (κ:=Nat) (rg 4 13) (fun k=>[(4,.d (.int .i64 (24-8*(k:Int))))]) (fun k=>[(0,.cells [.own 1 1,.d (.int .i64 0),.d (.int .i8 0)]),(1,.arr 1 (5,1) (L++(il n).take k))]) (fun k=>k<=4) (fun k=>4-k) 0 (Nat.zero_le _) ?_ ?_
 ·(conv=>whnf);repeat (first|exact trivial|(refine sI ?_;conv=>whnf))
  refine And.intro (by simp) ?_;exact sZ
 ·intro k hk IH;refine I.head ab Tryz.func197 2000 ?_;(conv=>whnf);refine ai (fun h=>?_) (fun h=>?_)
  ·have ah:k<4:=by simp at h;omega
   have X7:((il n).take k).length<=3:=by rw[List.length_take];omega
   refine gO Tryz.func197 ?_;refine I.bJ ab bG 2000 (by kernel_rfl) ?_;(conv=>whnf);refine aV (by omega) ?_;refine gD ?_;refine zx (HF _ (hL.more (M:=(il n).take k) fun x hx=>mJ n x (List.mem_of_mem_take hx)) (by rw[List.length_append];omega)) ?_;refine gD ?_;refine And.intro (by kernel_rfl) ?_;(conv=>whnf);refine gO Tryz.func197 ?_;refine I.back (IH (k+1) (by omega) (by omega)) ?_;(conv=>whnf);repeat (first|exact trivial|(refine sI ?_;conv=>whnf))
   refine And.intro (by rw[List.append_assoc,X3 n ah]) ?_;exact sZ
  ·have aA:k=4:=by simp at h;omega
   subst aA;refine gO Tryz.func197 ?_;exact⟨rfl,rfl⟩
theorem rI(n:Int)(L:List DV)(hL:eS L)(hl:L.length+1<=140737488355328):ar E 200 [.cells [.own 1 0,.d (.int .i64 0),.d (.int .i8 0)],.arr 0 (5,1) L] [.ptr 0 0,.d (.int .i64 n)] (fun a b=>a=.aD []/\b=[.cells [.own 1 1,.d (.int .i64 0),.d (.int .i8 0)],.arr 1 (5,1) (L++[.int .u8 (IntKind.u8.wrap n)])]):=by
 refine ar.run ab (fn:=Tryz.f200) Tryz.func200 (body:=Tryz.f200.body.getD .skip) rfl (by decide) 2000 rfl ?_;conv=>whnf
 with_reducible refine aO (HF _ hL hl) ?_
 refine gO Tryz.func200 ?_;exact⟨rfl,rfl⟩
theorem NP(n:Int):ar E 200 [.cells [.d .aH,.d (.int .i64 0),.d (.int .i8 0)]] [.ptr 0 0,.d (.int .i64 n)] (fun a b=>a=.aD []/\b=[.cells [.own 1 0,.d (.int .i64 0),.d (.int .i8 0)],.arr 0 (5,1) ([.int .u8 (IntKind.u8.wrap n)])]):=by
 refine ar.run ab (fn:=Tryz.f200) Tryz.func200 (body:=Tryz.f200.body.getD .skip) rfl (by decide) 2000 rfl ?_;conv=>whnf
 with_reducible refine aO (X5 _) ?_
 refine gO Tryz.func200 ?_;exact⟨rfl,rfl⟩
theorem nA(n:Int)(L:List DV)(hL:eS L)(hl:L.length+8<=140737488355328):ar E 196 [.cells [.own 1 0,.d (.int .i64 0),.d (.int .i8 0)],.arr 0 (5,1) L] [.ptr 0 0,.d (.int .i64 n)] (fun a b=>a=.aD []/\b=[.cells [.own 1 1,.d (.int .i64 0),.d (.int .i8 0)],.arr 1 (5,1) (L++fO n)]):=by
 refine ar.run ab (fn:=Tryz.f196) Tryz.func196 (body:=Tryz.f196.body.getD .skip) rfl (by decide) 2000 rfl ?_;conv=>whnf
 with_reducible refine aO (Dj _ L hL hl) ?_
 refine gO Tryz.func196 ?_;exact⟨rfl,rfl⟩
theorem eS.one(n:Int):eS [DV.int .u8 n]:=⟨by simp,ow n⟩
theorem xW(t:Text)(L:List DV)(hL:eS L)(hl:L.length+(eO t).length<=140737488355328):ar E 199 [.cells [.own 1 0,.d (.int .i64 0),.d (.int .i8 0)],.arr 0 (5,1) L] [.ptr 0 0,.d (.str t)] (fun a b=>a=.aD []/\b=[.cells [.own 1 2,.d (.int .i64 0),.d (.int .i8 0)],.arr 2 (5,1) (L++eO t)]):=by
 rw[mr]at hl;have hM:=hL.more (ow (IntKind.u8.wrap t.length));cases t with
 |nil =>
  refine ar.run ab (fn:=Tryz.f199) Tryz.func199 (body:=Tryz.f199.body.getD .skip) rfl (by decide) 2000 rfl ?_;conv=>whnf
  with_reducible refine aO (rI _ L hL (by omega)) ?_
  refine gO F199 ?_
  with_reducible refine aO (NN hM) ?_
  refine gO F199 ?_;exact⟨rfl,rfl⟩
 |cons c r =>
  refine ar.run ab (fn:=Tryz.f199) Tryz.func199 (body:=Tryz.f199.body.getD .skip) rfl (by decide) 2000 rfl ?_;conv=>whnf
  with_reducible refine aO (rI _ L hL (by omega)) ?_
  refine gO F199 ?_
  with_reducible refine aO (NO (c::r) hM (by simp) (by simp at hl ⊢;omega)) ?_
  refine gO F199 ?_;exact⟨rfl,by rw[List.append_assoc];rfl⟩
theorem X8(t:Text)(hl:(eO t).length<=140737488355328):ar E 199 [.cells [.d .aH,.d (.int .i64 0),.d (.int .i8 0)]] [.ptr 0 0,.d (.str t)] (fun a b=>a=.aD []/\b=[.cells [.own 1 1,.d (.int .i64 0),.d (.int .i8 0)],.arr 1 (5,1) (eO t)]):=by
 rw[mr]at hl;have hM:=eS.one (IntKind.u8.wrap t.length);cases t with
 |nil =>
  refine ar.run ab (fn:=Tryz.f199) Tryz.func199 (body:=Tryz.f199.body.getD .skip) rfl (by decide) 2000 rfl ?_;conv=>whnf
  with_reducible refine aO (NP _) ?_
  refine gO F199 ?_
  with_reducible refine aO (NN hM) ?_
  refine gO F199 ?_;exact⟨rfl,rfl⟩
 |cons c r =>
  refine ar.run ab (fn:=Tryz.f199) Tryz.func199 (body:=Tryz.f199.body.getD .skip) rfl (by decide) 2000 rfl ?_;conv=>whnf
  with_reducible refine aO (NP _) ?_
  refine gO F199 ?_
  with_reducible refine aO (NO (c::r) hM (by simp) (by simp at hl ⊢;omega)) ?_
  refine gO F199 ?_;exact⟨rfl,rfl⟩
theorem eS.text(t:Text):eS (eO t):=⟨by simp[eO],kO _⟩
def jg(q:bB):List DV:=eO q.name++[.int .u8 (IntKind.u8.wrap q.type)]
theorem xX(q:bB):∀ x∈jg q,isByte x:=fun x hx=>(List.mem_append.1 hx).elim (kO _ x) (ow _ x)
theorem NQ(q:bB)(L:List DV)(hL:eS L)(hl:L.length+(jg q).length<=140737488355328):ar E 195 [.cells [.own 1 0,.d (.int .i64 0),.d (.int .i8 0)],.arr 0 (5,1) L] [.ptr 0 0,.d q.enc] (fun a b=>a=.aD []/\b=[.cells [.own 1 3,.d (.int .i64 0),.d (.int .i8 0)],.arr 3 (5,1) (L++jg q)]):=by
 have oR:L.length+(eO q.name).length+1<=140737488355328:=by simp[jg]at hl;omega
 apply ar.kl
 case hk=>rfl
 refine ar.run ab (fn:=Tryz.f195) Tryz.func195 (body:=Tryz.f195.body.getD .skip) rfl (by decide) 2000 rfl ?_;conv=>whnf
 with_reducible refine aO (xW q.name L hL (by omega)) ?_
 refine gO Tryz.func195 ?_
 with_reducible refine aO (rI q.type _ (hL.more (kO _)) (by rw[List.length_append];omega)) ?_
 refine gO Tryz.func195 ?_;exact⟨rfl,by rw[List.append_assoc];rfl⟩
theorem X9(q:bB)(hl:(jg q).length<=140737488355328):ar E 195 [.cells [.d .aH,.d (.int .i64 0),.d (.int .i8 0)]] [.ptr 0 0,.d q.enc] (fun a b=>a=.aD []/\b=[.cells [.own 2 2,.d (.int .i64 0),.d (.int .i8 0)],.cells [.d (.str q.name),.d (.int .i64 q.type)],.arr 2 (5,1) (jg q)]):=by
 have oR:(eO q.name).length+1<=140737488355328:=by simp[jg]at hl;omega
 refine ar.run ab (fn:=Tryz.f195) Tryz.func195 (body:=Tryz.f195.body.getD .skip) rfl (by decide) 2000 rfl ?_;conv=>whnf
 with_reducible refine aO (X8 q.name (by omega)) ?_
 refine gO Tryz.func195 ?_
 with_reducible refine aO (rI q.type _ (eS.text q.name) (by omega)) ?_
 refine gO Tryz.func195 ?_;exact⟨rfl,rfl⟩
def im(g:da):List DV:=eO g.aw++fO g.key++fO g.jV++fO g.cu++fO g.upto++nz g.sum
theorem HG(g:da):∀ x∈im g,isByte x:=fun x hx=>by
 simp only[im,List.mem_append]at hx;rcases hx with((((h|h)|h)|h)|h)|h
 ·exact kO _ x h
 ·exact gb _ x h
 ·exact gb _ x h
 ·exact gb _ x h
 ·exact gb _ x h
 ·exact HE _ x h
def mK(s:cM):List DV:=if s.data=[]then il 0++eO s.name++[.int .u8 (IntKind.u8.wrap s.type)]++fO s.cy else il (mu s).length++mu s
theorem NR(s:cM):∀ x∈mK s,isByte x:=fun x hx=>by
 unfold mK at hx;split at hx<;>simp only[List.mem_append]at hx
 ·rcases hx with((h|h)|h)|h
  ·exact mJ _ x h
  ·exact kO _ x h
  ·exact ow _ x h
  ·exact gb _ x h
 ·exact hx.elim (mJ _ x) (Gd s x)
def iI(s:Signed):List DV:=mK s.set++[.int .u8 (IntKind.u8.wrap s.sigs.length)]++s.sigs.flatMap im
theorem lv{α:Type}{f:α->List DV}{l:List α}(h:∀ y,∀ x∈f y,isByte x):∀ x∈l.flatMap f,isByte x:=fun x hx=>by
 obtain⟨y,-,hy⟩:=List.mem_flatMap.1 hx;exact h y x hy
theorem AB(s:Signed):∀ x∈iI s,isByte x:=fun x hx=>by
 simp only[iI,List.mem_append]at hx;rcases hx with(h|h)|h
 ·exact NR _ x h
 ·exact ow _ x h
 ·exact lv HG x h
theorem AD{α:Type}{f:α->List DV}{l:List α}{k:Nat}{x:α}(hx:l[k]?=some x):((l.take k).flatMap f).length+(f x).length<=(l.flatMap f).length:=by
 have e:l.flatMap f=(l.take (k+1)).flatMap f++(l.drop (k+1)).flatMap f:=by rw[<- List.flatMap_append,List.take_append_drop]
 rw[e,cK hx,List.flatMap_append,List.length_append,List.length_append];simp
theorem AE{α:Type}{f:α->List DV}{l:List α}{k:Nat}{x:α}(hx:l[k]?=some x)(M:List DV):M++(l.take k).flatMap f++f x=M++(l.take (k+1)).flatMap f:=by
 rw[cK hx,List.flatMap_append];simp
theorem eS.set(s:cM):eS (mu s):=⟨by simp[mu,sW,eO],Gd s⟩
theorem NS(s:Signed)(hf:s.set.Fits)(hs:s.set.data=[]\/ef s.set=true)(hg:s.sigs.length<=maxLen)(L:List DV)(hL:eS L)(hl:L.length+(iI s).length<=140737488355328):ar E 198 [.cells [.own 1 0,.d (.int .i64 0),.d (.int .i8 0)],.arr 0 (5,1) L] [.ptr 0 0,.d s.enc] (fun a b=>a=.aD []/\b=[.cells [.own 1 7,.d (.int .i64 0),.d (.int .i8 0)],.arr 7 (5,1) (L++iI s)]):=by
 have hl0:(iI s).length=(mK s.set).length+1+(s.sigs.flatMap im).length:=by simp only[iI,List.length_append,List.length_singleton]
 have oR:L.length+(mK s.set).length+1+(s.sigs.flatMap im).length<=140737488355328:=by omega
 have hM:eS (L++(mK s.set++[.int .u8 (IntKind.u8.wrap s.sigs.length)])):=hL.more fun x hx=>(List.mem_append.1 hx).elim (NR _ x) (ow _ x);have NT:(L++(mK s.set++[DV.int .u8 (IntKind.u8.wrap s.sigs.length)])).length+(s.sigs.flatMap im).length<=140737488355328:=by simp only[List.length_append,List.length_singleton];omega
 obtain⟨M,vH⟩:∃ M,M=L++(mK s.set++[DV.int .u8 (IntKind.u8.wrap s.sigs.length)]):=⟨_,rfl⟩;have gv:L++iI s=M++s.sigs.flatMap im:=by rw[vH];simp[iI]
 rw[<- vH]at hM NT;rw[gv];clear hl gv;obtain⟨⟨sn,st,sl,sd⟩,l⟩:=s;simp only at hf hs hg vH oR NT ⊢;unfold maxLen at hg;apply ar.kl
 case hk=>rfl
 show ar E _ _ [_,.d (DV.agg [.str sn,.int .i64 st,.int .i64 sl,pE sd,pF l])] _;refine ar.run ab (fn:=Tryz.f198) Tryz.func198 (body:=Tryz.f198.body.getD .skip) rfl (by decide) 2000 rfl ?_;(conv=>whnf);by_cases hd:sd=[]
 ·have hb:mK ⟨sn,st,sl,sd⟩=il 0++eO sn++[DV.int .u8 (IntKind.u8.wrap st)]++fO sl:=by unfold mK;rw[if_pos hd]
  rw[hb]at oR vH;simp only[List.length_append,List.length_singleton]at oR;subst hd;refine aU rfl ?_;refine gO F198 ?_
  with_reducible refine aO (AA _ L hL (by have:(il 0).length=4:=rfl;omega)) ?_
  refine gO F198 ?_
  with_reducible refine aO (xW sn _ (hL.more (mJ _)) (by simp;omega)) ?_
  refine gO F198 ?_
  with_reducible refine aO (rI st _ ((hL.more (mJ _)).more (kO _)) (by simp;omega)) ?_
  refine gO F198 ?_
  with_reducible refine aO (nA sl _ (((hL.more (mJ _)).more (kO _)).more (ow _)) (by have:(fO sl).length=8:=rfl;simp;omega)) ?_
  refine gO F198 ?_
  with_reducible refine aO (rI _ _ ((((hL.more (mJ _)).more (kO _)).more (ow _)).more (gb _)) (by simp only[List.length_append,List.length_singleton];omega)) ?_
  refine gO F198 ?_;refine I.loop (κ:=Nat) ([7,9]++rg 55 29) (fun k=>[(55,.d (.int .i64 k))]) (fun k=>[(0,.cells [.own 1 7,.d (.int .i64 0),.d (.int .i8 0)]),(1,.arr 7 (5,1) (M++(l.take k).flatMap im))]) (fun k=>k<=l.length) (fun k=>l.length-k) 0 (Nat.zero_le _) ?_ ?_
  ·(conv=>whnf);repeat (first|exact trivial|(refine sI ?_;conv=>whnf))
   refine And.intro (by rw[vH];simp[hb]) ?_;exact sZ
  intro k hk IH;refine I.head ab F198 2000 ?_;(conv=>whnf);refine ai (fun h5=>?_) (fun h5=>?_)
  ·have ah:k<l.length:=by simpa using h5
   obtain⟨x,hx⟩:=aG ah;have nV:=AD (f:=im) hx;have gP:(im x).length=(eO x.aw).length+40:=by simp only[im,List.length_append,dv];rfl
   have b0:=hM.more (lv (f:=im) (l:=l.take k) HG);have b1:=b0.more (kO x.aw);have b2:=b1.more (gb x.key);have b3:=b2.more (gb x.jV);have b4:=b3.more (gb x.cu);have b5:=b4.more (gb x.upto);refine gO F198 ?_;refine aB (e:=x.enc) (aN hx) rfl ?_;refine gO F198 ?_
   with_reducible refine aO (xW x.aw _ b0 (by simp only[List.length_append];omega)) ?_
   refine gO F198 ?_;refine I.mg ?_;refine I.run ab F198 2000 ?_;(conv=>whnf);refine aU (by decide) ?_;refine gO F198 ?_;refine I.sR ab 0 rfl rfl rfl rfl rfl rfl rfl (tz (aS rfl)) (aS rfl) rfl (by decide) rfl ?_;refine gO F198 ?_
   with_reducible refine aO (nA x.key _ b1 (by simp only[List.length_append,dv];omega)) ?_
   refine gO F198 ?_;refine I.again ?_;refine I.run ab F198 2000 ?_;(conv=>whnf);refine aU (by decide) ?_;refine gO F198 ?_;refine I.sR ab 1 rfl rfl rfl rfl rfl rfl rfl (tz (aS rfl)) (aS rfl) rfl (by decide) rfl ?_;refine gO F198 ?_
   with_reducible refine aO (nA x.jV _ b2 (by simp only[List.length_append,dv];omega)) ?_
   refine gO F198 ?_;refine I.again ?_;refine I.run ab F198 2000 ?_;(conv=>whnf);refine aU (by decide) ?_;refine gO F198 ?_;refine I.sR ab 2 rfl rfl rfl rfl rfl rfl rfl (tz (aS rfl)) (aS rfl) rfl (by decide) rfl ?_;refine gO F198 ?_
   with_reducible refine aO (nA x.cu _ b3 (by simp only[List.length_append,dv];omega)) ?_
   refine gO F198 ?_;refine I.again ?_;refine I.run ab F198 2000 ?_;(conv=>whnf);refine aU (by decide) ?_;refine gO F198 ?_;refine I.sR ab 3 rfl rfl rfl rfl rfl rfl rfl (tz (aS rfl)) (aS rfl) rfl (by decide) rfl ?_;refine gO F198 ?_
   with_reducible refine aO (nA x.upto _ b4 (by simp only[List.length_append,dv];omega)) ?_
   refine gO F198 ?_;refine I.again ?_;refine I.run ab F198 2000 ?_;(conv=>whnf);refine aW (by decide) ?_;refine gO F198 ?_
   with_reducible refine aO (Dj x.sum _ b5 (by simp only[List.length_append,dv];omega)) ?_
   refine gO F198 ?_;refine I.back (IH (k+1) (by omega) (by omega)) ?_;(conv=>whnf);repeat (first|exact trivial|(refine sI ?_;conv=>whnf))
   refine And.intro (by rw[<- AE hx];simp only[im,List.append_assoc]) ?_;exact sZ
  ·have aA:l.length<=k:=by simpa using h5
   rw[List.take_of_length_le aA];refine gO F198 ?_;exact⟨rfl,rfl⟩
 ·have aM:=hs.resolve_left hd;have hb:mK ⟨sn,st,sl,sd⟩=il (mu ⟨sn,st,sl,sd⟩).length++mu ⟨sn,st,sl,sd⟩:=by unfold mK;rw[if_neg hd]
  rw[hb]at oR vH;simp only[List.length_append]at oR;have dA:(il (mu ⟨sn,st,sl,sd⟩).length).length=4:=rfl;refine aW (by simpa using hd) ?_;refine gO F198 ?_
  with_reducible refine ao (Tj ⟨sn,st,sl,sd⟩ hf aM) ?_
  refine gO F198 ?_
  with_reducible refine aO (AA _ L hL (by omega)) ?_
  refine gO F198 ?_
  with_reducible refine aO (X6 (mu ⟨sn,st,sl,sd⟩) (hL.more (mJ _)) (eS.set _) (by simp only[List.length_append];omega)) ?_
  refine gO F198 ?_
  with_reducible refine aO (rI _ _ ((hL.more (mJ _)).more (Gd _)) (by simp only[List.length_append];omega)) ?_
  refine gO F198 ?_;refine I.loop (κ:=Nat) ([7,9]++rg 55 29) (fun k=>[(55,.d (.int .i64 k))]) (fun k=>[(0,.cells [.own 1 7,.d (.int .i64 0),.d (.int .i8 0)]),(1,.arr 7 (5,1) (M++(l.take k).flatMap im))]) (fun k=>k<=l.length) (fun k=>l.length-k) 0 (Nat.zero_le _) ?_ ?_
  ·(conv=>whnf);repeat (first|exact trivial|(refine sI ?_;conv=>whnf))
   refine And.intro (by rw[vH];simp[hb]) ?_;exact sZ
  intro k hk IH;refine I.head ab F198 2000 ?_;(conv=>whnf);refine ai (fun h5=>?_) (fun h5=>?_)
  ·have ah:k<l.length:=by simpa using h5
   obtain⟨x,hx⟩:=aG ah;have nV:=AD (f:=im) hx;have gP:(im x).length=(eO x.aw).length+40:=by simp only[im,List.length_append,dv];rfl
   have b0:=hM.more (lv (f:=im) (l:=l.take k) HG);have b1:=b0.more (kO x.aw);have b2:=b1.more (gb x.key);have b3:=b2.more (gb x.jV);have b4:=b3.more (gb x.cu);have b5:=b4.more (gb x.upto);refine gO F198 ?_;refine aB (e:=x.enc) (aN hx) rfl ?_;refine gO F198 ?_
   with_reducible refine aO (xW x.aw _ b0 (by simp only[List.length_append];omega)) ?_
   refine gO F198 ?_;refine I.mg ?_;refine I.run ab F198 2000 ?_;(conv=>whnf);refine aU (by decide) ?_;refine gO F198 ?_;refine I.sR ab 0 rfl rfl rfl rfl rfl rfl rfl (tz (aS rfl)) (aS rfl) rfl (by decide) rfl ?_;refine gO F198 ?_
   with_reducible refine aO (nA x.key _ b1 (by simp only[List.length_append,dv];omega)) ?_
   refine gO F198 ?_;refine I.again ?_;refine I.run ab F198 2000 ?_;(conv=>whnf);refine aU (by decide) ?_;refine gO F198 ?_;refine I.sR ab 1 rfl rfl rfl rfl rfl rfl rfl (tz (aS rfl)) (aS rfl) rfl (by decide) rfl ?_;refine gO F198 ?_
   with_reducible refine aO (nA x.jV _ b2 (by simp only[List.length_append,dv];omega)) ?_
   refine gO F198 ?_;refine I.again ?_;refine I.run ab F198 2000 ?_;(conv=>whnf);refine aU (by decide) ?_;refine gO F198 ?_;refine I.sR ab 2 rfl rfl rfl rfl rfl rfl rfl (tz (aS rfl)) (aS rfl) rfl (by decide) rfl ?_;refine gO F198 ?_
   with_reducible refine aO (nA x.cu _ b3 (by simp only[List.length_append,dv];omega)) ?_
   refine gO F198 ?_;refine I.again ?_;refine I.run ab F198 2000 ?_;(conv=>whnf);refine aU (by decide) ?_;refine gO F198 ?_;refine I.sR ab 3 rfl rfl rfl rfl rfl rfl rfl (tz (aS rfl)) (aS rfl) rfl (by decide) rfl ?_;refine gO F198 ?_
   with_reducible refine aO (nA x.upto _ b4 (by simp only[List.length_append,dv];omega)) ?_
   refine gO F198 ?_;refine I.again ?_;refine I.run ab F198 2000 ?_;(conv=>whnf);refine aW (by decide) ?_;refine gO F198 ?_
   with_reducible refine aO (Dj x.sum _ b5 (by simp only[List.length_append,dv];omega)) ?_
   refine gO F198 ?_;refine I.back (IH (k+1) (by omega) (by omega)) ?_;(conv=>whnf);repeat (first|exact trivial|(refine sI ?_;conv=>whnf))
   refine And.intro (by rw[<- AE hx];simp only[im,List.append_assoc]) ?_;exact sZ
  ·have aA:l.length<=k:=by simpa using h5
   rw[List.take_of_length_le aA];refine gO F198 ?_;exact⟨rfl,rfl⟩
def Signed.nB(s:Signed):Prop:=s.set.Fits/\(s.set.data=[]\/ef s.set=true)/\s.sigs.length<=maxLen
def kX(l:List Signed):List DV:=il l.length++l.flatMap iI
theorem NU(l:List Signed):∀ x∈kX l,isByte x:=fun x hx=>(List.mem_append.1 hx).elim (mJ _ x) (lv AB x)
theorem gJ(n:Int):(il n).length=4:=rfl
theorem NV(l:List Signed)(hn:l.length<=maxLen)(hf:∀ s∈l,s.nB)(L:List DV)(hL:eS L)(hl:L.length+(kX l).length<=140737488355328):ar E 201 [.cells [.own 1 0,.d (.int .i64 0),.d (.int .i8 0)],.arr 0 (5,1) L] [.ptr 0 0,.d (.sl (l.map Signed.enc))] (fun a b=>a=.aD []/\b=[.cells [.own 1 1,.d (.int .i64 0),.d (.int .i8 0)],.arr 1 (5,1) (L++kX l)]):=by
 unfold maxLen at hn;have hs:(kX l).length=4+(l.flatMap iI).length:=by simp only[kX,List.length_append,gJ]
 have hM:=hL.more (mJ l.length);apply ar.kl
 case hk=>rfl
 refine ar.run ab (fn:=Tryz.f201) Tryz.func201 (body:=Tryz.f201.body.getD .skip) rfl (by decide) 2000 rfl ?_;conv=>whnf
 with_reducible refine aO (AA _ L hL (by omega)) ?_
 refine gO Tryz.func201 ?_;refine I.loop (κ:=Nat) ([5]++rg 12 8) (fun k=>[(12,.d (.int .i64 k))]) (fun k=>[(0,.cells [.own 1 1,.d (.int .i64 0),.d (.int .i8 0)]),(1,.arr 1 (5,1) (L++il l.length++(l.take k).flatMap iI))]) (fun k=>k<=l.length) (fun k=>l.length-k) 0 (Nat.zero_le _) ?_ ?_
 ·(conv=>whnf);repeat (first|exact trivial|(refine sI ?_;conv=>whnf))
  refine And.intro (by simp) ?_;exact sZ
 intro k hk IH;refine I.head ab Tryz.func201 2000 ?_;(conv=>whnf);refine ai (fun h5=>?_) (fun h5=>?_)
 ·have ah:k<l.length:=by simpa using h5
  obtain⟨x,hx⟩:=aG ah;have nV:=AD (f:=iI) hx;obtain⟨f1,f2,f3⟩:=hf x (List.mem_of_getElem? hx);refine gO Tryz.func201 ?_;refine aB (e:=x.enc) (aN hx) rfl ?_;refine gO Tryz.func201 ?_
  with_reducible refine aO (NS x f1 f2 f3 _ (hM.more (lv (f:=iI) (l:=l.take k) AB)) (by simp only[List.length_append,gJ];omega)) ?_
  refine gO Tryz.func201 ?_;refine I.back (IH (k+1) (by omega) (by omega)) ?_;(conv=>whnf);repeat (first|exact trivial|(refine sI ?_;conv=>whnf))
  refine And.intro (AE hx _) ?_;exact sZ
 ·have aA:l.length<=k:=by simpa using h5
  rw[List.take_of_length_le aA];refine gO Tryz.func201 ?_;exact⟨rfl,by simp only[kX,List.append_assoc];rfl⟩
end Go.Proofs.YtfmdaiojokniiaaGreatDoor.P
end
