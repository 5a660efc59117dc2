/- Several texts of mine, one behind the other. Conditions: as each says. -/
import Derived.Test.YtfmdaiojokniiaaGreatDoorV5
import Derived.ChangeArms
import Derived.ProofKit
import Derived.OpenShut
import Derived.Deep.DeepHandedRow
import Derived.Lib.LaidTab
set_option linter.unusedVariables false
set_option linter.unusedSimpArgs false
section
namespace Go.aw
open Go Go.RowKit
def cm (E:Env) (t:Nat):Nat:=match di E.T t with
 |some i=>i.size
 |none=>0
def ia (E:Env) (t:Nat):TK:=match di E.T t with
 |some i=>i.k
 |none => .other
def oy (k:TK) (x:DV):Prop:=match k with
 | .struct _=>∃ cs,x = .agg cs
 |_=>x.cells=[x]
def eK (E:Env):Nat→Nat→List DV→Prop
 | 0,_,_=>False
 |n+1,t,ds=>match ia E t with
  | .bool=>∃ b,ds=[.bool b]
  | .int k=>∃ m,ds=[.int k m]∧(Lit.int k m).wf=true
  | .string=>∃ l:List UInt8,ds=[.str l]∧l.length≤maxLen
  | .slice e=>∃ l:List DV,ds=[.sl l]∧l.length≤maxLen∧∀ x∈l,eK E n e x.cells∧oy (ia E e) x
  | .struct fs=>ds.length=cm E t∧∀ p∈fs,eK E n p.2 ((ds.drop p.1).take (cm E p.2))
  |_=>False
def pH (E:Env):Nat→List (Nat × Nat)→Nat→Bool
 |o,[],n=>Nat.beq o n
 |o,p::l,n=>Nat.beq p.1 o&&pH E (o+cm E p.2) l n
def oz (E:Env):Nat→Nat→Bool
 | 0,_=>false
 |m+1,t=>match di E.T t with
  |none=>false
  |some i=>match i.k with
   | .bool=>Nat.beq i.size 1
   | .int _=>Nat.beq i.size 1
   | .string=>Nat.beq i.size 1
   | .slice e=>Nat.beq i.size 1&&Nat.blt 0 (cm E e)&&oz E m e
   | .struct fs=>pH E 0 fs i.size&&fs.all fun p=>oz E m p.2
   |_=>false
theorem xP {E:Env} (hE:E.OK) {t:Nat} {i:bp} (hi:E.T[t]? = some i):cm E t=E.P.cellsOf t:=by
 obtain ⟨ti,d,g1,g2,g3,g4,-⟩:=cj (hE.types t i hi);simp [cm,dH,hi,Program.cellsOf,g1,g4]
theorem JB {E:Env} {m t:Nat} (h:oz E m t=true):∃ i,E.T[t]? = some i:=by
 cases m with
 |zero=>cases h
 |succ m =>
  unfold oz at h;split at h
  ·cases h
  ·rename_i i hi; rw [dH] at hi; exact ⟨i,hi⟩
theorem JC {E:Env} (hE:E.OK) {m t:Nat} (h:oz E m t=true):cm E t=E.P.cellsOf t:=by
 obtain ⟨i,hi⟩:=JB h;exact xP hE hi
theorem iu.Rb {bad:Nat→Prop} {w:World} {a b:List DV} {u v:List Value} (h1:iu bad w a u) (h2:iu bad w b v):iu bad w (a++b) (u++v):=by
 refine ⟨by simp [h1.1,h2.1],fun j x y hx hy=>?_⟩;rcases Nat.lt_or_ge j a.length with hj | hj
 ·rw [List.getElem?_append_left hj] at hx;rw [List.getElem?_append_left (by rw [← h1.1]; exact hj)] at hy;exact h1.2 j x y hx hy
 ·rw [List.getElem?_append_right hj] at hx;rw [List.getElem?_append_right (by rw [← h1.1]; exact hj),← h1.1] at hy;exact h2.2 _ x y hx hy
section
variable {E:Env} {H:Type} {enc:TypeId × Value→H} {w:World} {held:Bool}
theorem JD {n:Nat} {cs:List Value}:∀ {fs:List (Nat × Nat)} {o tot:Nat},pH E o fs tot=true→cs.length=tot→o≤tot →
  (∀ p∈fs,∃ ds,eK E n p.2 ds∧iu (fun _=>False) w ds ((cs.drop p.1).take (cm E p.2))∧∀ v∈(cs.drop p.1).take (cm E p.2),v.oneCell'=true) →
  (∀ p∈fs,p.1+cm E p.2≤tot) →
  ∃ ds,ds.length=tot - o∧iu (fun _=>False) w ds (cs.drop o)∧(∀ v∈cs.drop o,v.oneCell'=true)∧∀ p∈fs,o≤p.1∧eK E n p.2 ((ds.drop (p.1 - o)).take (cm E p.2))
 | [],o,tot,h,hl,ho,_,_=>by
  obtain rfl:o=tot:=Nat.eq_of_beq_eq_true h;rw [List.drop_of_length_le (by omega)];exact ⟨[],by simp,⟨rfl,fun j x v hx=>by simp at hx⟩,fun v hv=>by simp at hv,fun p hp=>by simp at hp⟩
 |p::fs,o,tot,h,hl,ho,hf,hb=>by
  simp only [pH,Bool.and_eq_true] at h;obtain ⟨h1,h2⟩:=h;have h1:=Nat.eq_of_beq_eq_true h1;have hle:=hb p (List.mem_cons_self ..);rw [h1] at hle;obtain ⟨d1,k1,k2,k3⟩:=hf p (List.mem_cons_self ..);rw [h1] at k2 k3;obtain ⟨d2,q1,q2,q3,q4⟩:=JD h2 hl hle (fun p hp=>hf p (List.mem_cons_of_mem _ hp)) (fun p hp=>hb p (List.mem_cons_of_mem _ hp));have lk:d1.length=cm E p.2:=by rw [k2.1]; simp; omega
  have JE:cs.drop o=(cs.drop o).take (cm E p.2)++cs.drop (o+cm E p.2):=by
   rw [← List.drop_drop,List.take_append_drop]
  refine ⟨d1++d2,by simp [lk,q1]; omega,by rw [JE]; exact k2.Rb q2,fun v hv=>?_,fun p' hp=>?_⟩
  ·rw [JE] at hv;rcases List.mem_append.1 hv with hv | hv
   ·exact k3 v hv
   ·exact q3 v hv
  ·rcases List.mem_cons.1 hp with rfl | hp
   ·refine ⟨by omega,?_⟩;rw [h1,Nat.sub_self,List.drop_zero,List.take_append_of_le_length (by omega),List.take_of_length_le (by omega)];exact k1
   ·obtain ⟨r1,r2⟩:=q4 p' hp;refine ⟨by omega,?_⟩;rw [List.drop_append,List.drop_of_length_le (by omega),List.nil_append,show p'.1 - o - d1.length=p'.1 - (o+cm E p.2) by omega];exact r2
theorem D7:∀ {fs:List (Nat × Nat)} {o tot:Nat},pH E o fs tot=true→o≤tot∧∀ p∈fs,p.1+cm E p.2≤tot
 | [],o,tot,h=>⟨Nat.le_of_eq (Nat.eq_of_beq_eq_true h),fun p hp=>by simp at hp⟩
 |p::fs,o,tot,h=>by
  simp only [pH,Bool.and_eq_true] at h;obtain ⟨h1,h2⟩:=h;have h1:=Nat.eq_of_beq_eq_true h1;obtain ⟨k1,k2⟩:=D7 h2;refine ⟨by omega,fun p' hp=>?_⟩;rcases List.mem_cons.1 hp with rfl | hp
  ·omega
  ·exact k2 p' hp
theorem Rc (hE:E.OK):∀ (fuel m t:Nat) (cs:List Value) (x:DataW H × List MemPlace),oz E m t=true→DataW.trod enc E.P w 0 (fun _=>true) held fuel t cs=some x →
  ∃ ds,eK E fuel t ds∧iu (fun _=>False) w ds cs∧∀ v∈cs,v.oneCell'=true:=by
 intro fuel
 induction fuel with
 |zero=>intro m t cs x _ h; simp [DataW.trod] at h
 |succ fuel ih =>
  intro m t cs x aO h;cases m with
  |zero=>cases aO
  |succ m =>
   unfold oz at aO;split at aO
   ·cases aO
   rename_i i hi;have hk:ia E t=i.k:=by simp [ia,hi]
   have bQ:cm E t=i.size:=by simp [cm,hi]
   rw [dH] at hi;obtain ⟨ti,d,g1,g2,g3,g4,-⟩:=cj (hE.types t i hi);have one:∀ {y:DV} {v:Value},VD (fun _=>False) w y v→v.oneCell'=true→cs=[v]→iu (fun _=>False) w [y] cs∧∀ v∈cs,v.oneCell'=true:=fun {y v} h1 h2 h3=>by
    subst h3;refine ⟨⟨rfl,fun j x u hx hu=>?_⟩,fun u hu=>by simp at hu; subst hu; exact h2⟩;cases j with
    |zero=>simp at hx hu; subst hx; subst hu; exact h1
    |succ j=>simp at hx
   split at aO
   ·rename_i eO;have hd:d = .bool:=by rw [eO] at g3; cases d <;> first | rfl | cases g3
    subst hd;obtain ⟨b,rfl,-⟩:=DataW.trod_bool g2 h;exact ⟨[.bool b],by unfold eK; rw [hk,eO]; exact ⟨b,rfl⟩,one (.bool b) rfl rfl⟩
   ·rename_i k eO;obtain rfl:=tB (eO.symm.trans g3);obtain ⟨n,rfl,-,hw⟩:=DataW.trod_int g2 h;exact ⟨[.int k n],by unfold eK; rw [hk,eO]; exact ⟨n,rfl,hw⟩,one (.int k n) rfl rfl⟩
   ·rename_i eO;obtain rfl:=pX (eO.symm.trans g3);obtain ⟨s,rfl,-,hl⟩:=DataW.trod_string g2 h;refine ⟨[.str s.data.toList],?_,one (v := .string s) ?_ rfl rfl⟩
    ·unfold eK; rw [hk,eO]; exact ⟨_,rfl,by rw [Array.length_toList]; exact hl⟩
    ·have:=VD.str (bad:=fun _=>False) (w:=w) s.data.toList
     simpa using this
   ·rename_i e eO;obtain rfl:=kv (eO.symm.trans g3);simp only [Bool.and_eq_true] at aO;obtain ⟨⟨-,cC⟩,xQ⟩:=aO;have cC:=wg cC;have D8:=JC hE xQ;rcases DataW.trod_slice g2 h with ⟨rfl,-⟩ | ⟨a,len,cap,elems,rest,n,hn,rfl,-,-,Re,D9,dx,D',tE,-⟩
    ·exact ⟨[.sl []],by unfold eK; rw [hk,eO]; exact ⟨[],rfl,Nat.zero_le _,fun x hx=>by simp at hx⟩,one .slnil rfl rfl⟩
    cases hn;obtain ⟨xR,rW⟩:=tE rfl;rw [← D8] at D' rW;have spot:0<cap→a.spot=none:=fun hc=>by
     have cZ:∀ {q:Option (DataW H × List MemPlace)},(w.cells? 0 (a.add 0) (cm E e)).bind (DataW.trod enc E.P w 0 (fun _=>true) held fuel e)=q→q.isSome→a.spot=none:=fun {q} h1 h2=>by
      cases kB:w.cells? 0 (a.add 0) (cm E e) with
      |none=>rw [kB] at h1; subst h1; cases h2
      |some l =>
       obtain ⟨-,hl,cZ⟩:=World.cells?_some kB;have:=cZ 0 cC;rw [List.getElem?_eq_getElem (by omega)] at this;cases hs:a.spot with
       |none=>rfl
       |some k =>
        have jw:((a.add 0).add 0).spot.isSome=true:=by simp [Addr.add,hs]
        simp only [World.cell?,jw,if_true] at this;split at this <;> cases this
     by_cases h0:0<len
     ·have:=D' 0 h0;rw [Nat.zero_mul] at this;exact cZ this (by simp [dx,h0])
     ·obtain rfl:len=0:=by omega
      have:=rW 0 (by omega);rw [Nat.zero_add,Nat.zero_mul] at this;exact cZ this (by simp [xR]; omega)
    by_cases pq:cap=0
    ·subst pq;obtain rfl:len=0:=by omega
     exact ⟨[.sl []],by unfold eK; rw [hk,eO]; exact ⟨[],rfl,Nat.zero_le _,fun x hx=>by simp at hx⟩,one (.jJ a) rfl rfl⟩
    have As:=spot (by omega);obtain ⟨blk,off,sp⟩:=a;cases As;have key:∀ i,∃ x:DV,i<len→eK E fuel e x.cells∧oy (ia E e) x∧x.cells.length=cm E e∧∀ (j:Nat) (y:DV),x.cells[j]? = some y→∃ v,w.cell? ⟨blk,off+(i*cm E e+j),none⟩=some v∧v.oneCell'=true∧VD (fun _=>False) w y v:=fun i=>by
     by_cases hi:i<len
     case neg=>exact ⟨.undef,fun h=>absurd h hi⟩
     have he:=D' i hi;cases kB:w.cells? 0 ((⟨blk,off,none⟩:Addr).add (i*cm E e)) (cm E e) with
     |none=>rw [kB] at he; simp [dx,hi] at he
     |some l =>
      rw [kB] at he;obtain ⟨-,hl,cZ⟩:=World.cells?_some kB;have tQ:DataW.trod enc E.P w 0 (fun _=>true) held fuel e l=some (elems[i]'(by omega)):=by
       rw [← List.getElem?_eq_getElem (by omega)]; exact he
      obtain ⟨ds,k1,k2,k3⟩:=ih m e l _ xQ tQ;have qO:ds.length=cm E e:=by rw [k2.1,hl]
      have JF:∀ (j:Nat) (y:DV),ds[j]? = some y→∃ v,w.cell? ⟨blk,off+(i*cm E e+j),none⟩=some v∧v.oneCell'=true∧VD (fun _=>False) w y v:=fun j y hy=>by
       have hj:=aR hy;have mX:j<l.length:=by rw [← k2.1]; exact hj
       have:=cZ j (by omega);rw [List.getElem?_eq_getElem mX] at this;refine ⟨l[j],?_,k3 _ (List.getElem_mem mX),k2.2 j y _ hy (by simp [mX])⟩;rw [mb,mb,Nat.add_assoc] at this;exact this
      by_cases Ea:∃ fs,ia E e = .struct fs
      ·obtain ⟨fs,ga⟩:=Ea;exact ⟨.agg ds,fun _=>⟨k1,by rw [ga]; exact ⟨ds,rfl⟩,qO,JF⟩⟩
      ·obtain ⟨y,hy,Au⟩:∃ y,ds=[y]∧y.cells=[y]:=by
        unfold eK at k1;cases fuel with
        |zero=>exact k1.elim
        |succ fuel =>
         simp only at k1;split at k1
         ·obtain ⟨b,rfl⟩:=k1; exact ⟨_,rfl,rfl⟩
         ·obtain ⟨b,rfl,-⟩:=k1; exact ⟨_,rfl,rfl⟩
         ·obtain ⟨b,rfl,-⟩:=k1; exact ⟨_,rfl,rfl⟩
         ·obtain ⟨b,rfl,-⟩:=k1; exact ⟨_,rfl,rfl⟩
         ·rename_i fs ga; exact absurd ⟨fs,ga⟩ Ea
         ·exact k1.elim
       subst hy;refine ⟨y,fun _=>⟨by rw [Au]; exact k1,?_,by rw [Au]; exact qO,by rw [Au]; exact JF⟩⟩;unfold oy;split
       ·rename_i fs ga; exact absurd ⟨fs,ga⟩ Ea
       ·exact Au
    let g:Nat→DV:=fun i=>Classical.choose (key i)
    have hg:∀ i,i<len→eK E fuel e (g i).cells∧oy (ia E e) (g i)∧(g i).cells.length=cm E e∧∀ (j:Nat) (y:DV),(g i).cells[j]? = some y→∃ v,w.cell? ⟨blk,off+(i*cm E e+j),none⟩=some v∧v.oneCell'=true∧VD (fun _=>False) w y v:=fun i=>Classical.choose_spec (key i);have dX:∀ (i:Nat) (y:DV),((List.range len).map g)[i]? = some y→i<len∧y=g i:=fun i y hy=>by
     have hi:i<len:=by have:=aR hy; simpa using this
     simp [hi] at hy;exact ⟨hi,hy.symm⟩
    refine ⟨[.sl ((List.range len).map g)],?_,one (v := .slice (some ⟨blk,off,none⟩) len cap) ?_ rfl rfl⟩
    ·unfold eK;rw [hk,eO];refine ⟨_,rfl,by simp; omega,fun x hx=>?_⟩;obtain ⟨i,hi⟩:=List.getElem?_of_mem hx;obtain ⟨h1,rfl⟩:=dX i x hi;exact ⟨(hg i h1).1,(hg i h1).2.1⟩
    ·have:=VD.sl (bad:=fun _=>False) (w:=w) ((List.range len).map g) blk off cap (cm E e) (fun i j=>(w.cell? ⟨blk,off+(i*cm E e+j),none⟩).getD undef) (fun _ h=>h) cC (by simpa using Re)
      (fun i y hy=>by obtain ⟨h1,rfl⟩:=dX i y hy; exact (hg i h1).2.2.1)
      (fun i j y z hy hz=>by obtain ⟨h1,rfl⟩:=dX i y hy; obtain ⟨v,q1,q2,q3⟩:=(hg i h1).2.2.2 j z hz; rw [q1]; rfl)
      (fun i j y z hy hz=>by obtain ⟨h1,rfl⟩:=dX i y hy; obtain ⟨v,q1,q2,q3⟩:=(hg i h1).2.2.2 j z hz; rw [q1]; exact q3)
      (fun i j y z hy hz=>by obtain ⟨h1,rfl⟩:=dX i y hy; obtain ⟨v,q1,q2,q3⟩:=(hg i h1).2.2.2 j z hz; rw [q1]; exact q2)
     simpa using this
   ·rename_i fs eO;obtain ⟨fl,rfl,rfl⟩:=oO (eO.symm.trans g3);simp only [Bool.and_eq_true] at aO;obtain ⟨Av,aW⟩:=aO;obtain ⟨xs,n,hn,-,hlen,iA,hf⟩:=DataW.trod_struct g2 h;cases hn;rw [← xP hE hi,bQ] at hlen;obtain ⟨-,hle⟩:=D7 Av
    obtain ⟨ds,r1,r2,r3,r4⟩:=JD (n:=fuel) (w:=w) (cs:=cs) Av hlen (Nat.zero_le _) (fun p hp=>by
     obtain ⟨f,vZ,rfl⟩:=List.mem_map.1 hp;have xS:=List.all_eq_true.1 aW _ hp;obtain ⟨i',bY⟩:=List.getElem?_of_mem vZ;have XA:fl.toList.toArray[i']? = some f:=by simpa using bY
     have:=hf i' f (by simpa using bY);have aj:i'<xs.length:=by rw [iA]; have:=aR bY; simpa using this
     rw [List.getElem?_eq_getElem aj] at this;obtain ⟨ds,k1,k2,k3⟩:=ih m f.type _ _ xS this;rw [← JC hE xS] at k2 k3
     exact ⟨ds,k1,k2,k3⟩) hle
    rw [List.drop_zero] at r2 r3;refine ⟨ds,?_,r2,r3⟩;unfold eK;rw [hk,eO];exact ⟨by rw [r1,bQ]; rfl,fun p hp=>(r4 p hp).2⟩
   ·cases aO
end
end Go.aw
end
section
namespace Go.aw
open Go Go.RowKit
variable {E:Env} {n t:Nat} {ds:List DV}
structure cJ (E:Env) (t:Nat) {α:Type} (enc:α→DV) (gq:α→Prop):Prop where
 dec:∀ {m ds},eK E m t ds→∃ a,ds=(enc a).cells∧gq a
 elem:∀ {x a},oy (ia E t) x→x.cells=(enc a).cells→x=enc a
variable {α β:Type} {enc:α→DV} {XB:β→DV} {gq:α→Prop} {Aw:β→Prop}
theorem cJ.get (c:cJ E t enc gq) {x:DV} (h:∃ m,eK E m t x.cells) (he:oy (ia E t) x):∃ a,x=enc a∧gq a:=by
 obtain ⟨m,h⟩:=h;obtain ⟨a,h1,h2⟩:=c.dec h;exact ⟨a,c.elem he h1,h2⟩
theorem cJ.of {k:TK} (hk:ia E t=k) (hn:∀ fs,k ≠ .struct fs) (h1:∀ a,(enc a).cells=[enc a]) (h:∀ m ds,eK E (m+1) t ds→∃ a,ds=[enc a]∧gq a):cJ E t enc gq:=by
 refine ⟨fun {m ds} hd=>?_,fun {x a} he hx=>?_⟩
 ·cases m with
  |zero=>exact hd.elim
  |succ m=>obtain ⟨a,h2,h3⟩:=h m ds hd; exact ⟨a,by rw [h1,h2],h3⟩
 ·rw [h1] at hx;rw [hk] at he;unfold oy at he;split at he
  ·exact absurd rfl (hn _)
  ·rw [he] at hx; simpa using hx
theorem cJ.str (hk:ia E t = .string):cJ E t DV.str (fun l=>l.length≤maxLen) := .of hk (by simp) (fun _=>rfl) fun m ds h=>by
 unfold eK at h; rw [hk] at h; exact h
theorem cJ.int {k:IntKind} {g:Int→Prop} (hk:ia E t = .int k) (hg:∀ n,(Lit.int k n).wf=true→g n):cJ E t (DV.int k) g := .of hk (by simp) (fun _=>rfl) fun m ds h=>by
 unfold eK at h; rw [hk] at h; obtain ⟨n,h1,h2⟩:=h; exact ⟨n,h1,hg n h2⟩
theorem cJ.bool (hk:ia E t = .bool):cJ E t DV.bool (fun _=>True) := .of hk (by simp) (fun _=>rfl) fun m ds h=>by
 unfold eK at h; rw [hk] at h; obtain ⟨n,h1⟩:=h; exact ⟨n,h1,trivial⟩
theorem cJ.list (c:cJ E n enc gq):∀ {l:List DV},(∀ x∈l,(∃ m,eK E m n x.cells)∧oy (ia E n) x)→∃ l':List α,l=l'.map enc∧∀ a∈l',gq a
 | [],_=>⟨[],rfl,by simp⟩
 |x::l,h=>by
  obtain ⟨⟨h1,h2⟩,h3⟩:=List.forall_mem_cons.1 h;obtain ⟨a,rfl,ha⟩:=c.get h1 h2;obtain ⟨l',rfl,h4⟩:=cJ.list c h3;exact ⟨a::l',rfl,List.forall_mem_cons.2 ⟨ha,h4⟩⟩
theorem cJ.sl (c:cJ E n enc gq) (hk:ia E t = .slice n):cJ E t (fun l:List α=>DV.sl (l.map enc)) (fun l:List α=>l.length≤maxLen∧∀ x∈l,gq x) := .of hk (by simp) (fun _=>rfl) fun m ds h=>by
 unfold eK at h; rw [hk] at h; obtain ⟨l,h1,h2,h3⟩:=h;obtain ⟨l',rfl,h4⟩:=c.list fun x hx=>⟨⟨m,(h3 x hx).1⟩,(h3 x hx).2⟩;exact ⟨l',h1,by simpa using h2,h4⟩
def kN (E:Env) (fs:List (Nat × Nat)) (off sz:Nat) {α:Type} (en:α→List DV) (gq:α→Prop):Prop:=∀ {m} {ds:List DV},ds.length=sz→(∀ p∈fs,eK E m p.2 ((ds.drop p.1).take (cm E p.2)))→∃ a,ds.drop off=en a∧gq a
variable {off o2 sz:Nat} {fs:List (Nat × Nat)} {en:β→List DV}
theorem cJ.last (c:cJ E t enc gq) (h:off+cm E t=sz):kN E [(off,t)] off sz (fun a=>(enc a).cells) gq:=fun {m ds} hl hf=>by
 have:=hf (off,t) (by simp);rw [List.take_of_length_le (by simp; omega)] at this;exact c.dec this
theorem cJ.cons (c:cJ E t enc gq) (d:kN E fs o2 sz en Aw) (h:off+cm E t=o2):kN E ((off,t)::fs) off sz (fun p=>(enc p.1).cells++en p.2) (fun p:α × β=>gq p.1∧Aw p.2):=fun {m ds} hl hf=>by
 obtain ⟨h1,h2⟩:=List.forall_mem_cons.1 hf;obtain ⟨a,h3,h4⟩:=c.dec h1;obtain ⟨b,h5,h6⟩:=d hl h2;refine ⟨(a,b),?_,h4,h6⟩;show _=(enc a).cells++en b;rw [← h3,← h5,← h,← List.drop_drop,List.take_append_drop]
theorem kN.struct {f:β→α} (d:kN E fs 0 sz en Aw) (hk:ia E t = .struct fs) (hs:cm E t=sz) (he:∀ a,enc (f a) = .agg (en a)) (ha:∀ a,∃ cs,enc a = .agg cs) (hg:∀ a,Aw a→gq (f a)):cJ E t enc gq:=by
 refine ⟨fun {m ds} h=>?_,fun {x a} h1 h2=>?_⟩
 ·cases m with
  |zero=>exact h.elim
  |succ m =>
   unfold eK at h; rw [hk] at h;obtain ⟨a,h3,h4⟩:=d (by rw [h.1,hs]) h.2;exact ⟨f a,by rw [he]; exact h3,hg a h4⟩
 ·rw [hk] at h1;obtain ⟨cs,rfl⟩:∃ cs,x = .agg cs:=h1;obtain ⟨Of,h3⟩:=ha a;rw [h3] at h2 ⊢;cases h2;rfl
def Eb (E:Env) (t:Nat) (x:DV):Prop:=(∃ m,eK E m t x.cells)∧oy (ia E t) x
theorem Rf (hE:E.OK) {H:Type} {enc:TypeId × Value→H} {W:World} {base m:Nat} {v:Value} {d:DataW H} {p:List MemPlace} {held:Bool} (aO:oz E m t=true) (hv:Value.okWide E.P W .any base t v) (h:DataW.Trod enc E.P W 0 (fun _=>true) held t v d p):∃ x,VD (fun _=>False) W x v∧Eb E t x:=by
 obtain ⟨fuel,h⟩:=h;obtain ⟨ds,h1,h2,h3⟩:=Rc hE fuel m t _ _ aO h;obtain ⟨i,hi⟩:=JB aO;obtain ⟨ti,dd,g1,g2,g3,g4,-⟩:=cj (hE.types t i hi);have hk:ia E t=tk dd:=by simp [ia,dH,hi,g3]
 by_cases hs:∃ fs,dd = .struct fs
 ·obtain ⟨fs,rfl⟩:=hs;simp only [Value.okWide,g2] at hv;obtain ⟨cs,rfl,-,-⟩:=hv;refine ⟨.agg ds,.agg ds cs (by simpa [Value.cells] using h2.1) (fun j x v hx hv=>h2.2 j x v hx (by simpa [Value.cells] using hv)),⟨fuel,h1⟩,?_⟩;rw [hk];exact ⟨ds,rfl⟩
 ·have bX:∃ y,ds=[y]∧y.cells=[y]:=by
   cases fuel with
   |zero=>exact h1.elim
   |succ fuel =>
    unfold eK at h1;split at h1
    ·obtain ⟨b,rfl⟩:=h1; exact ⟨_,rfl,rfl⟩
    ·obtain ⟨b,rfl,-⟩:=h1; exact ⟨_,rfl,rfl⟩
    ·obtain ⟨b,rfl,-⟩:=h1; exact ⟨_,rfl,rfl⟩
    ·obtain ⟨b,rfl,-⟩:=h1; exact ⟨_,rfl,rfl⟩
    ·rename_i fs ga;rw [hk] at ga;exact absurd (by cases dd <;> first | exact ⟨_,rfl⟩ | (cases ga; done)) hs
    ·exact h1.elim
  obtain ⟨y,rfl,hy⟩:=bX;have eV:∀ cs,v ≠ .agg cs:=fun cs e=>by
   subst e;have Da:∀ n e',dd ≠ .array n e':=fun n e' e=>by
    subst e;cases fuel with
    |zero=>exact h1.elim
    |succ fuel=>unfold eK at h1; rw [hk] at h1; exact h1
   unfold Value.okWide at hv;rw [g2] at hv;cases dd <;> first
    |exact absurd ⟨_,rfl⟩ hs
    |exact absurd rfl (Da _ _)
    |(simp [Cell.okWide,Cell.ok,g2] at hv; done)
  have Rg:v.cells.toList=[v]:=by
   cases v <;> first | rfl | exact absurd rfl (eV _)
  rw [Rg] at h2;refine ⟨y,h2.2 0 y v rfl rfl,⟨fuel,by rw [hy]; exact h1⟩,?_⟩;unfold oy;split
  ·rename_i fs ga;rw [hk] at ga;exact absurd (by cases dd <;> first | exact ⟨_,rfl⟩ | (cases ga; done)) hs
  ·exact hy
def sU (E:Env):List Nat→List DV→Prop
 | [],xs=>xs=[]
 |t::ts,x::xs=>Eb E t x∧sU E ts xs
 |_::_,[]=>False
theorem JG (hE:E.OK) {H:Type} {enc:TypeId × Value→H} {W:World} {base m:Nat} {held:Bool}:∀ {ts:List Nat} {vs:List Value} {ds:List (DataW H)} {ps:List MemPlace},ts.all (oz E m)=true →
  (∀ (j:Nat) t v,ts[j]? = some t→vs[j]? = some v→Value.okWide E.P W .any base t v)→DataW.TrodAll enc E.P W 0 (fun _=>true) held ts vs ds ps→∃ xs,iu (fun _=>False) W xs vs∧sU E ts xs
 | [],vs,ds,ps,_,_,h=>by
  obtain ⟨rfl,-,-⟩:=ChangeShapes.trodAll_nil h;exact ⟨[],⟨rfl,fun j x v hx=>by simp at hx⟩,rfl⟩
 |t::ts,vs,ds,ps,aO,hv,h=>by
  obtain ⟨v,JI,d,JJ,p,q,rfl,rfl,rfl,h1,h2⟩:=ChangeShapes.trodAll_cons h;simp only [List.all_cons,Bool.and_eq_true] at aO;obtain ⟨x,k1,k2⟩:=Rf hE aO.1 (hv 0 t v rfl rfl) h1;obtain ⟨xs,q1,q2⟩:=JG hE aO.2 (fun j t v ht eL=>hv (j+1) t v (by simpa using ht) (by simpa using eL)) h2;refine ⟨x::xs,⟨by simp [q1.1],fun j y u hy hu=>?_⟩,k2,q2⟩;cases j with
  |zero=>simp at hy hu; subst hy; subst hu; exact k1
  |succ j=>exact q1.2 j y u (by simpa using hy) (by simpa using hu)
end Go.aw
end
section
namespace Go.Proofs.YtfmdaiojokniiaaGreatDoor.P
open Go Go.aw
set_option maxRecDepth 100000
def Ec (n:Int):Prop:=0≤n∧n≤18446744073709551615
def U8 (n:Int):Prop:=0≤n∧n≤255
theorem Rh {n:Int} (h:(Lit.int .i64 n).wf=true):dD n:=by
 simp [Lit.wf,IntKind.min,IntKind.max,IntKind.signed,IntKind.bits] at h; exact h
theorem Ri {n:Int} (h:(Lit.int .u64 n).wf=true):Ec n:=by
 simp [Lit.wf,IntKind.min,IntKind.max,IntKind.signed,IntKind.bits] at h; exact h
theorem Rj {n:Int} (h:(Lit.int .u8 n).wf=true):U8 n:=by
 simp [Lit.wf,IntKind.min,IntKind.max,IntKind.signed,IntKind.bits] at h; exact h
theorem uY:cJ E 9 DV.str (fun l=>l.length≤maxLen):=cJ.str (by kernel_rfl)
theorem gI:cJ E 3 (DV.int .i64) dD:=cJ.int (by kernel_rfl) fun _=>Rh
theorem Rk:cJ E 188 (DV.int .u64) Ec:=cJ.int (by kernel_rfl) fun _=>Ri
theorem Rl:cJ E 5 (DV.int .u8) U8:=cJ.int (by kernel_rfl) fun _=>Rj
theorem Rm:cJ E 27 (fun l:List Int=>DV.sl (l.map (DV.int .i64))) (fun l=>l.length≤maxLen∧∀ x∈l,dD x):=gI.sl (by kernel_rfl)
def Datum.Good (a:Datum):Prop:=(a.text.length≤maxLen)∧(dD a.n)∧(dD a.m)
theorem Rn:cJ E 131 Datum.enc Datum.Good:=kN.struct (f:=fun p:Text × Int × Int=>⟨p.1,p.2.1,p.2.2⟩) (uY.cons (gI.cons (gI.last rfl) rfl) rfl) (by kernel_rfl) rfl (fun _=>rfl) (fun _=>⟨_,rfl⟩) fun _ h=>h
theorem Ro:cJ E 24 (fun l:List Datum=>DV.sl (l.map Datum.enc)) (fun l=>l.length≤maxLen∧∀ x∈l,x.Good):=Rn.sl (by kernel_rfl)
def cS.Good (a:cS):Prop:=(a.name.length≤maxLen)∧(dD a.type)∧(dD a.cD)∧(a.data.length≤maxLen∧∀ x∈a.data,x.Good)
theorem JK:cJ E 26 cS.enc cS.Good:=kN.struct (f:=fun p:Text × Int × Int × List Datum=>⟨p.1,p.2.1,p.2.2.1,p.2.2.2⟩) (uY.cons (gI.cons (gI.cons (Ro.last rfl) rfl) rfl) rfl) (by kernel_rfl) rfl (fun _=>rfl) (fun _=>⟨_,rfl⟩) fun _ h=>h
def cX.Good (a:cX):Prop:=(a.az.length≤maxLen)∧(dD a.key)∧(dD a.mz)∧(dD a.bM)∧(dD a.upto)∧(Ec a.sum)
theorem Rp:cJ E 190 cX.enc cX.Good:=kN.struct (f:=fun p:Text × Int × Int × Int × Int × Int=>⟨p.1,p.2.1,p.2.2.1,p.2.2.2.1,p.2.2.2.2.1,p.2.2.2.2.2⟩) (uY.cons (gI.cons (gI.cons (gI.cons (gI.cons (Rk.last rfl) rfl) rfl) rfl) rfl) rfl) (by kernel_rfl) rfl (fun _=>rfl) (fun _=>⟨_,rfl⟩) fun _ h=>h
theorem Rq:cJ E 100 (fun l:List cX=>DV.sl (l.map cX.enc)) (fun l=>l.length≤maxLen∧∀ x∈l,x.Good):=Rp.sl (by kernel_rfl)
def Signed.Good (a:Signed):Prop:=(a.set.Good)∧(a.sigs.length≤maxLen∧∀ x∈a.sigs,x.Good)
theorem Rr:cJ E 102 Signed.enc Signed.Good:=kN.struct (f:=fun p:cS × List cX=>⟨p.1,p.2⟩) (JK.cons (Rq.last rfl) rfl) (by kernel_rfl) rfl (fun _=>rfl) (fun _=>⟨_,rfl⟩) fun _ h=>h
theorem Rs:cJ E 37 (fun l:List Signed=>DV.sl (l.map Signed.enc)) (fun l=>l.length≤maxLen∧∀ x∈l,x.Good):=Rr.sl (by kernel_rfl)
def aG.Good (a:aG):Prop:=(a.ah.length≤maxLen)∧(a.ab.length≤maxLen∧∀ x∈a.ab,x.Good)
theorem Rt:cJ E 59 aG.enc aG.Good:=kN.struct (f:=fun p:Text × List Signed=>⟨p.1,p.2⟩) (uY.cons (Rs.last rfl) rfl) (by kernel_rfl) rfl (fun _=>rfl) (fun _=>⟨_,rfl⟩) fun _ h=>h
def bj.Good (a:bj):Prop:=(a.name.length≤maxLen)∧(dD a.type)
theorem Ru:cJ E 36 bj.enc bj.Good:=kN.struct (f:=fun p:Text × Int=>⟨p.1,p.2⟩) (uY.cons (gI.last rfl) rfl) (by kernel_rfl) rfl (fun _=>rfl) (fun _=>⟨_,rfl⟩) fun _ h=>h
def dC.Good (a:dC):Prop:=(dD a.kind)∧(a.ab.length≤maxLen∧∀ x∈a.ab,x.Good)∧(a.cut.length≤maxLen)
structure Host where
 name:Text
 addr:Int
 owner:Int
 deriving DecidableEq
@[reducible] def Host.enc (a : Host) : DV := .agg [.str a.name, .int .i64 a.addr, .int .i64 a.owner]
def Host.Good (a:Host):Prop:=(a.name.length≤maxLen)∧(dD a.addr)∧(dD a.owner)
theorem Rv:cJ E 84 Host.enc Host.Good:=kN.struct (f:=fun p:Text × Int × Int=>⟨p.1,p.2.1,p.2.2⟩) (uY.cons (gI.cons (gI.last rfl) rfl) rfl) (by kernel_rfl) rfl (fun _=>rfl) (fun _=>⟨_,rfl⟩) fun _ h=>h
theorem Rw:cJ E 22 (fun l:List Host=>DV.sl (l.map Host.enc)) (fun l=>l.length≤maxLen∧∀ x∈l,x.Good):=Rv.sl (by kernel_rfl)
structure aS where
 host:Int
 bM:Int
 upto:Int
 az:aG
 deriving DecidableEq
@[reducible] def aS.enc (a : aS) : DV := .agg [.int .i64 a.host, .int .i64 a.bM, .int .i64 a.upto, .str a.az.ah, .sl (a.az.ab.map Signed.enc)]
def aS.Good (a:aS):Prop:=(dD a.host)∧(dD a.bM)∧(dD a.upto)∧(a.az.Good)
theorem Rx:cJ E 68 aS.enc aS.Good:=kN.struct (f:=fun p:Int × Int × Int × aG=>⟨p.1,p.2.1,p.2.2.1,p.2.2.2⟩) (gI.cons (gI.cons (gI.cons (Rt.last rfl) rfl) rfl) rfl) (by kernel_rfl) rfl (fun _=>rfl) (fun _=>⟨_,rfl⟩) fun _ h=>h
theorem Ry:cJ E 23 (fun l:List aS=>DV.sl (l.map aS.enc)) (fun l=>l.length≤maxLen∧∀ x∈l,x.Good):=Rx.sl (by kernel_rfl)
structure bo where
 host:Int
 az:aG
 deriving DecidableEq
@[reducible] def bo.enc (a : bo) : DV := .agg [.int .i64 a.host, .str a.az.ah, .sl (a.az.ab.map Signed.enc)]
def bo.Good (a:bo):Prop:=(dD a.host)∧(a.az.Good)
structure bJ where
 aA:List Host
 aB:List aS
 anchor:cS
 hints:List Int
 bS:Int
 fin:Int
 deriving DecidableEq
@[reducible] def bJ.enc (a : bJ) : DV := .agg [.sl (a.aA.map Host.enc), .sl (a.aB.map aS.enc), .str a.anchor.name, .int .i64 a.anchor.type, .int .i64 a.anchor.cD, .sl (a.anchor.data.map Datum.enc), .sl (a.hints.map (.int .i64)), .int .i64 a.bS, .int .i64 a.fin]
def bJ.Good (a:bJ):Prop:=(a.aA.length≤maxLen∧∀ x∈a.aA,x.Good)∧(a.aB.length≤maxLen∧∀ x∈a.aB,x.Good)∧(a.anchor.Good)∧(a.hints.length≤maxLen∧∀ x∈a.hints,dD x)∧(dD a.bS)∧(dD a.fin)
theorem Rz:cJ E 29 bJ.enc bJ.Good:=kN.struct (f:=fun p:List Host × List aS × cS × List Int × Int × Int=>⟨p.1,p.2.1,p.2.2.1,p.2.2.2.1,p.2.2.2.2.1,p.2.2.2.2.2⟩) (Rw.cons (Ry.cons (JK.cons (Rm.cons (gI.cons (gI.last rfl) rfl) rfl) rfl) rfl) rfl) (by kernel_rfl) rfl (fun _=>rfl) (fun _=>⟨_,rfl⟩) fun _ h=>h
structure oA where
 du:List bo
 deriving DecidableEq
@[reducible] def oA.enc (a : oA) : DV := .agg [.sl (a.du.map bo.enc)]
def oA.Good (a:oA):Prop:=(a.du.length≤maxLen∧∀ x∈a.du,x.Good)
structure Step where
 time:Int
 dV:oA
 deriving DecidableEq
@[reducible] def Step.enc (a : Step) : DV := .agg [.int .i64 a.time, .sl (a.dV.du.map bo.enc)]
def Step.Good (a:Step):Prop:=(dD a.time)∧(a.dV.Good)
structure jE where
 aA:List Host
 da:List bo
 anchor:cS
 hints:List Int
 deriving DecidableEq
@[reducible] def jE.enc (a : jE) : DV := .agg [.sl (a.aA.map Host.enc), .sl (a.da.map bo.enc), .str a.anchor.name, .int .i64 a.anchor.type, .int .i64 a.anchor.cD, .sl (a.anchor.data.map Datum.enc), .sl (a.hints.map (.int .i64))]
def jE.Good (a:jE):Prop:=(a.aA.length≤maxLen∧∀ x∈a.aA,x.Good)∧(a.da.length≤maxLen∧∀ x∈a.da,x.Good)∧(a.anchor.Good)∧(a.hints.length≤maxLen∧∀ x∈a.hints,dD x)
structure Claim where
 host:Int
 time:Int
 az:aG
 deriving DecidableEq
@[reducible] def Claim.enc (a : Claim) : DV := .agg [.int .i64 a.host, .int .i64 a.time, .str a.az.ah, .sl (a.az.ab.map Signed.enc)]
def Claim.Good (a:Claim):Prop:=(dD a.host)∧(dD a.time)∧(a.az.Good)
structure Entry where
 signed:Signed
 az:Text
 upto:Int
 deriving DecidableEq
@[reducible] def Entry.enc (a : Entry) : DV := .agg [.str a.signed.set.name, .int .i64 a.signed.set.type, .int .i64 a.signed.set.cD, .sl (a.signed.set.data.map Datum.enc), .sl (a.signed.sigs.map cX.enc), .str a.az, .int .i64 a.upto]
def Entry.Good (a:Entry):Prop:=(a.signed.Good)∧(a.az.length≤maxLen)∧(dD a.upto)
structure Cache where
 list:List Entry
 deriving DecidableEq
@[reducible] def Cache.enc (a : Cache) : DV := .agg [.sl (a.list.map Entry.enc)]
def Cache.Good (a:Cache):Prop:=(a.list.length≤maxLen∧∀ x∈a.list,x.Good)
structure sV where
 kind:Int
 q:bj
 ab:List Signed
 deriving DecidableEq
@[reducible] def sV.enc (a : sV) : DV := .agg [.int .i64 a.kind, .str a.q.name, .int .i64 a.q.type, .sl (a.ab.map Signed.enc)]
def sV.Good (a:sV):Prop:=(dD a.kind)∧(a.q.Good)∧(a.ab.length≤maxLen∧∀ x∈a.ab,x.Good)
structure dF where
 time:Int
 addr:Int
 q:bj
 answer:dC
 deriving DecidableEq
@[reducible] def dF.enc (a : dF) : DV := .agg [.int .i64 a.time, .int .i64 a.addr, .str a.q.name, .int .i64 a.q.type, .int .i64 a.answer.kind, .sl (a.answer.ab.map Signed.enc), .str a.answer.cut]
def dF.Good (a:dF):Prop:=(dD a.time)∧(dD a.addr)∧(a.q.Good)∧(a.answer.Good)
structure pI where
 q:bj
 time:Int
 cache:Cache
 heard:List dF
 result:sV
 deriving DecidableEq
@[reducible] def pI.enc (a : pI) : DV := .agg [.str a.q.name, .int .i64 a.q.type, .int .i64 a.time, .sl (a.cache.list.map Entry.enc), .sl (a.heard.map dF.enc), .int .i64 a.result.kind, .str a.result.q.name, .int .i64 a.result.q.type, .sl (a.result.ab.map Signed.enc)]
def pI.Good (a:pI):Prop:=(a.q.Good)∧(dD a.time)∧(a.cache.Good)∧(a.heard.length≤maxLen∧∀ x∈a.heard,x.Good)∧(a.result.Good)
structure qW where
 before:bJ
 steps:List Step
 ib:List Claim
 uZ:List pI
 deriving DecidableEq
@[reducible] def qW.enc (a : qW) : DV := .agg [.sl (a.before.aA.map Host.enc), .sl (a.before.aB.map aS.enc), .str a.before.anchor.name, .int .i64 a.before.anchor.type, .int .i64 a.before.anchor.cD, .sl (a.before.anchor.data.map Datum.enc), .sl (a.before.hints.map (.int .i64)), .int .i64 a.before.bS, .int .i64 a.before.fin, .sl (a.steps.map Step.enc), .sl (a.ib.map Claim.enc), .sl (a.uZ.map pI.enc)]
def qW.Good (a:qW):Prop:=(a.before.Good)∧(a.steps.length≤maxLen∧∀ x∈a.steps,x.Good)∧(a.ib.length≤maxLen∧∀ x∈a.ib,x.Good)∧(a.uZ.length≤maxLen∧∀ x∈a.uZ,x.Good)
end Go.Proofs.YtfmdaiojokniiaaGreatDoor.P
end
section
namespace Go.aw
open Go Go.RowKit
def jF {H:Type}:Nat→DataW H→Option (List Value)
 | 0,_=>none
 |_+1,.lit (.int k n)=>some [.int k n]
 |_+1,.lit (.bool b)=>some [.bool b]
 |_+1,.lit (.string s)=>some [.string ⟨s.toArray⟩]
 |n+1,.agg ps=>(ps.mapM (jF n)).map List.flatten
 |_+1,_=>none
def pt (E:Env):Nat→Nat→Bool
 | 0,_=>false
 |m+1,t=>match di E.T t with
  |none=>false
  |some i=>match i.k with
   | .bool=>Nat.beq i.size 1
   | .int _=>Nat.beq i.size 1
   | .string=>Nat.beq i.size 1
   | .array n e=>Nat.beq i.size (n*cm E e)&&pt E m e
   | .struct fs=>pH E 0 fs i.size&&fs.all fun p=>pt E m p.2
   |_=>false
theorem RA {E:Env} {m t:Nat} (h:pt E m t=true):∃ i,E.T[t]? = some i:=by
 cases m with
 |zero=>cases h
 |succ m =>
  unfold pt at h;split at h
  ·cases h
  ·rename_i i hi; rw [dH] at hi; exact ⟨i,hi⟩
theorem JL {E:Env} (hE:E.OK) {m t:Nat} (h:pt E m t=true):cm E t=E.P.cellsOf t:=by
 obtain ⟨i,hi⟩:=RA h;exact xP hE hi
section
variable {H:Type}
theorem Ed {n:Nat} {cs:List Value}:∀ {L:List (Nat × Nat)} {xs:List (DataW H × List MemPlace)} {o tot:Nat},xs.length=L.length→cs.length=tot →
  (∀ (i:Nat) (p:Nat × Nat),L[i]? = some p→p.1=o+((L.take i).map (·.2)).sum∧p.1+p.2≤tot)→o+(L.map (·.2)).sum=tot →
  (∀ (i:Nat) (p:Nat × Nat) (y:DataW H × List MemPlace),L[i]? = some p→xs[i]? = some y→jF n y.1=some ((cs.drop p.1).take p.2)) →
  ∃ ls,(xs.map (·.1)).mapM (jF n)=some ls∧ls.flatten=cs.drop o
 | [],[],o,tot,_,hc,_,hs,_=>⟨[],rfl,by rw [List.drop_of_length_le (by simp at hs; omega)]; rfl⟩
 |p::L,y::xs,o,tot,hl,hc,ho,hs,hx=>by
  have h0:=ho 0 p rfl;simp at h0;have hy:=hx 0 p y rfl rfl;simp only [List.map_cons,List.sum_cons] at hs
  obtain ⟨ls,k1,k2⟩:=Ed (n:=n) (cs:=cs) (L:=L) (xs:=xs) (o:=o+p.2) (tot:=tot) (by simpa using hl) hc (fun i q hq=>by
   have:=ho (i+1) q (by simpa using hq);simp only [List.take_succ_cons,List.map_cons,List.sum_cons] at this
   omega) (by omega) (fun i q z hq hz=>hx (i+1) q z (by simpa using hq) (by simpa using hz))
  refine ⟨(cs.drop p.1).take p.2::ls,?_,?_⟩
  ·simp only [List.map_cons,List.mapM_cons,hy,k1];rfl
  ·rw [List.flatten_cons,k2,h0.1,← List.drop_drop,List.take_append_drop]
 | [],_::_,_,_,h,_,_,_,_=>by simp at h
 |_::_,[],_,_,h,_,_,_,_=>by simp at h
variable {E:Env} {enc:TypeId × Value→H} {w:World} {held:Bool} {sp:Nat→Bool}
theorem JM:∀ {fs:List (Nat × Nat)} {o tot:Nat},pH E o fs tot=true→o+((fs.map fun p=>(p.1,cm E p.2)).map (·.2)).sum=tot ∧
  ∀ (i:Nat) (p:Nat × Nat),(fs.map fun p=>(p.1,cm E p.2))[i]? = some p→p.1=o+(((fs.map fun p=>(p.1,cm E p.2)).take i).map (·.2)).sum∧p.1+p.2≤tot
 | [],o,tot,h=>⟨by simpa using Nat.eq_of_beq_eq_true h,fun i p hp=>by simp at hp⟩
 |q::fs,o,tot,h=>by
  have hle:=(D7 h).2 q (List.mem_cons_self ..);simp only [pH,Bool.and_eq_true] at h;obtain ⟨h1,h2⟩:=h;have h1:=Nat.eq_of_beq_eq_true h1;obtain ⟨k1,k2⟩:=JM h2;refine ⟨by simp only [List.map_cons,List.sum_cons]; omega,fun i p hp=>?_⟩;cases i with
  |zero=>simp at hp; subst hp; simp; omega
  |succ i =>
   have:=k2 i p (by simpa using hp);simp only [List.map_cons,List.take_succ_cons,List.sum_cons];omega
theorem RB (hE:E.OK):∀ (fuel m t:Nat) (cs:List Value) (x:DataW H × List MemPlace),pt E m t=true→DataW.trod enc E.P w 0 sp held fuel t cs=some x→jF fuel x.1=some cs:=by
 intro fuel
 induction fuel with
 |zero=>intro m t cs x _ h; simp [DataW.trod] at h
 |succ fuel ih =>
  intro m t cs x aO h;cases m with
  |zero=>cases aO
  |succ m =>
   unfold pt at aO;split at aO
   ·cases aO
   rename_i i hi;have bQ:cm E t=i.size:=by simp [cm,hi]
   rw [dH] at hi;obtain ⟨ti,d,g1,g2,g3,g4,-⟩:=cj (hE.types t i hi);split at aO
   ·rename_i eO;have hd:d = .bool:=by rw [eO] at g3; cases d <;> first | rfl | cases g3
    subst hd;obtain ⟨b,rfl,rfl⟩:=DataW.trod_bool g2 h;rfl
   ·rename_i k eO;obtain rfl:=tB (eO.symm.trans g3);obtain ⟨n,rfl,rfl,hw⟩:=DataW.trod_int g2 h;rfl
   ·rename_i eO;obtain rfl:=pX (eO.symm.trans g3);obtain ⟨s,rfl,rfl,hl⟩:=DataW.trod_string g2 h;rfl
   ·rename_i n e eO;obtain rfl:=vJ (eO.symm.trans g3);simp only [Bool.and_eq_true] at aO;obtain ⟨hs,xQ⟩:=aO;have hs:=Nat.eq_of_beq_eq_true hs;obtain ⟨xs,k,hk,rfl,hlen,iA,hf⟩:=DataW.trod_array g2 h;cases hk;have D8:=JL hE xQ;rw [← xP hE hi,bQ,hs] at hlen;rw [← D8] at hf;have hL:∀ (i:Nat) (p:Nat × Nat),((List.range n).map fun i=>(i*cm E e,cm E e))[i]? = some p→i<n∧p=(i*cm E e,cm E e):=fun i p hp=>by
     have hi:i<n:=by have:=aR hp; simpa using this
     simp [hi] at hp;exact ⟨hi,hp.symm⟩
    have JN:∀ k,(((List.range n).map fun i=>(i*cm E e,cm E e)).take k).map (·.2)=List.replicate (min k n) (cm E e):=fun k=>by
     apply List.ext_getElem
     ·simp
     ·intro j h1 h2; simp
    obtain ⟨ls,k1,k2⟩:=Ed (n:=fuel) (cs:=cs) (L:=(List.range n).map fun i=>(i*cm E e,cm E e)) (xs:=xs) (o:=0) (tot:=n*cm E e) (by simp [iA]) hlen (fun i p hp=>by
     obtain ⟨h1,rfl⟩:=hL i p hp;rw [JN,List.sum_replicate_nat,Nat.min_eq_left (by omega)];refine ⟨by simp,?_⟩;have:(i+1)*cm E e≤n*cm E e:=Nat.mul_le_mul_right _ h1;rw [Nat.add_mul,Nat.one_mul] at this;exact this) (by
      have:=JN n;rw [List.take_of_length_le (by simp)] at this;rw [this,List.sum_replicate_nat,Nat.min_self,Nat.zero_add]) (fun i p y hp hy=>by
     obtain ⟨h1,rfl⟩:=hL i p hp;have:=hf i h1;rw [hy] at this
     exact ih m e _ _ xQ this)
    rw [List.drop_zero] at k2;simp only [jF,k1,Option.map_some,k2]
   ·rename_i fs eO;obtain ⟨fl,rfl,rfl⟩:=oO (eO.symm.trans g3);simp only [Bool.and_eq_true] at aO;obtain ⟨Av,aW⟩:=aO;obtain ⟨xs,n,hn,rfl,hlen,iA,hf⟩:=DataW.trod_struct g2 h;cases hn;rw [← xP hE hi,bQ] at hlen;obtain ⟨s1,s2⟩:=JM Av
    obtain ⟨ls,k1,k2⟩:=Ed (n:=fuel) (cs:=cs) (xs:=xs) (by simp [iA]) hlen s2 s1 (fun i p y hp hy=>by
     simp only [List.map_map,List.getElem?_map,Option.map_eq_some_iff] at hp;obtain ⟨f,iL,rfl⟩:=hp;have xS:=List.all_eq_true.1 aW (f.offset,f.type) (List.mem_map.2 ⟨f,List.mem_of_getElem? iL,rfl⟩);have:=hf i f (by simpa using iL);rw [hy,← JL hE xS] at this
     exact ih m _ _ _ xS this)
    rw [List.drop_zero] at k2;simp only [jF,k1,Option.map_some,k2]
   ·cases aO
end
def sW:List DV→List Value→Bool
 | [],[]=>true
 | .int k n::l,.int k' m::r=>IntKind.same k k'&&decide (n=m)&&sW l r
 | .bool a::l,.bool b::r=>(a==b)&&sW l r
 | .str a::l,.string b::r=>decide (b=⟨a.toArray⟩)&&sW l r
 |_,_=>false
theorem JO {bad:Nat→Prop} {w:World}:∀ {ds:List DV} {vs:List Value},sW ds vs=true→iu bad w ds vs
 | [],[],_=>⟨rfl,fun j x v hx=>by simp at hx⟩
 |d::ds,v::vs,h=>by
  have key:VD bad w d v∧sW ds vs=true:=by
   unfold sW at h;split at h
   ·rename_i e1 e2; cases e1
   ·rename_i e1 e2;cases e1; cases e2;simp only [Bool.and_eq_true,decide_eq_true_eq] at h;obtain ⟨⟨h1,rfl⟩,h3⟩:=h;obtain rfl:=pW h1;exact ⟨.int _ _,h3⟩
   ·rename_i e1 e2;cases e1; cases e2;simp only [Bool.and_eq_true,beq_iff_eq] at h;obtain ⟨rfl,h3⟩:=h;exact ⟨.bool _,h3⟩
   ·rename_i e1 e2;cases e1; cases e2;simp only [Bool.and_eq_true,decide_eq_true_eq] at h;obtain ⟨rfl,h3⟩:=h;exact ⟨.str _,h3⟩
   ·cases h
  have ih:=JO (bad:=bad) (w:=w) key.2;refine ⟨by simp [ih.1],fun j x u hx hu=>?_⟩;cases j with
  |zero=>simp at hx hu; subst hx; subst hu; exact key.1
  |succ j=>exact ih.2 j x u (by simpa using hx) (by simpa using hu)
 | [],_::_,h=>by cases h
 |d::_,[],h=>by cases d <;> cases h
theorem JP {P:Program} {w:World} {name:String} {d:DataW Unit}:∀ {laid:List (String × DataW Unit)} {ps:List MemPlace},DataW.LaidVars P w laid ps→(name,d)∈laid →
  ∃ g t cs fuel p,P.globalNamed name=some g∧(P.globals[g]?).map (·.type)=some t∧w.var? P name=some cs∧DataW.trod (fun _=>()) P w 0 (fun _=>true) false fuel t cs.toList=some (d,p)
 | [],_,_,h=>by simp at h
 |(n,d')::r,ps,hv,h=>by
  obtain ⟨g,t,cs,fuel,p,q,h1,h2,h3,h4,h5,-⟩:=hv;rcases List.mem_cons.1 h with h | h
  ·cases h; exact ⟨g,t,cs,fuel,p,h1,h2,h3,h4⟩
  ·exact JP h5 h
theorem RC {H:Type}:∀ {n:Nat} {d:DataW H} {cs:List Value},jF n d=some cs→jF (n+1) d=some cs:=by
 intro n
 induction n with
 |zero=>intro d cs h; cases h
 |succ n ih =>
  intro d cs h;unfold jF at h;split at h
  ·cases h
  ·exact h
  ·exact h
  ·exact h
  ·rename_i m ps e;cases e;simp only [Option.map_eq_some_iff] at h;obtain ⟨ls,h1,rfl⟩:=h;have:∀ {ps:List (DataW H)} {ls:List (List Value)},ps.mapM (jF n)=some ls→ps.mapM (jF (n+1))=some ls:=by
    intro ps
    induction ps with
    |nil=>intro ls h; exact h
    |cons p ps RE =>
     intro ls h;simp only [List.mapM_cons,Option.bind_eq_bind,Option.bind_eq_some_iff] at h ⊢;obtain ⟨a,h1,b,h2,h3⟩:=h;exact ⟨a,ih h1,b,RE h2,h3⟩
   have e2:=this h1;show (ps.mapM (jF (n+1))).map List.flatten=_;rw [e2];rfl
  ·cases h
theorem Ee {H:Type} {n:Nat} {d:DataW H} {cs:List Value} (h:jF n d=some cs):∀ k,jF (n+k) d=some cs
 | 0=>h
 |k+1=>RC (Ee h k)
theorem RF {E:Env} (hE:E.OK) {W:World} {laid:List (String × DataW Unit)} {name:String} {g t m n:Nat} {d:DataW Unit} {e:DV} {vs:List Value} (hl:laidMet E.P laid W) (hm:(name,d)∈laid) (hg:E.P.globalNamed name=some g) (ht:(E.P.globals[g]?).map (·.type)=some t)
  (aO:pt E m t=true) (hv:jF n d=some vs) (he:sW e.cells vs=true) (aJ:e.cells≠[]) {ax:Nat→Prop} (rK:¬ ax g):VR ⟨fun _=>none,[],ax,W⟩ (.bE e 0) (.pointer (some ⟨g,0,none⟩)):=by
 obtain ⟨ps,RG,-,-⟩:=hl;obtain ⟨g',t',cs,fuel,p,h1,h2,h3,h4⟩:=JP RG hm;rw [hg] at h1; cases h1;rw [ht] at h2; cases h2;have h5:=RB hE fuel m t _ _ aO h4;have h6:vs=cs.toList:=by
  have a:=Ee hv fuel;have b:=Ee h5 n;rw [Nat.add_comm] at b;exact Option.some.inj (a.symm.trans b)
 have gC:=JO (bad:=ax) (w:=W) he;rw [h6] at gC;have cZ:∀ (j:Nat) (v:Value),cs.toList[j]? = some v→W.cell? ⟨g,0+j,none⟩=some v:=fun j v hj=>by
  rw [Nat.zero_add];have:=World.var?_cell hg h3 j;rw [this]
  simpa using hj
 have dX:∀ (j:Nat) (x:DV),e.cells[j]? = some x→∃ v,cs.toList[j]? = some v:=fun j x hx=>by
  have:=aR hx;rw [gC.1] at this;exact ⟨cs.toList[j],by simp [this]⟩
 have:=VR.bE (c:=⟨fun _=>none,[],ax,W⟩) e 0 g 0 (fun j=>(cs.toList[j]?).getD undef) (fun hb=>rK (rH.1 hb)) aJ (fun j x hx=>by
   obtain ⟨v,hv⟩:=dX j x hx;rw [hv];exact cZ j v hv) (fun j x hx=>by
   obtain ⟨v,hv⟩:=dX j x hx;rw [hv]
   exact rI (gC.2 j x v hx hv))
 exact this
end Go.aw
end
section
namespace Go.Proofs.YtfmdaiojokniiaaGreatDoor
open Go.ChangeShapes Go.WideShapes Go.ChangeAt Go.RowKit
theorem Tryz.own:ownKnob Tryz.prog.godebug=none:=by kernel_rfl
theorem Tryz.laidOut:laidOutB Tryz.prog=true:=by kernel_rfl
theorem Ext.trodAll {H:Type} {enc:TypeId × Value→H} {P:Program} (hl:laidOutB P=true) {W W':World} (hx:Ext W W') :
  ∀ {ts:List TypeId} {vs:List Value} {ds:List (DataW H)} {ps:List MemPlace},(∀ t∈ts,P.readableRec t=true∧t<P.types.size)→(∀ x∈ps,x.block<W.heap.size) →
   DataW.TrodAll enc P W 0 (fun _=>true) true ts vs ds ps→DataW.TrodAll enc P W' 0 (fun b=>decide (b<W.heap.size)) true ts vs ds ps
 | [],_,_,_,_,_,h=>by
  obtain ⟨rfl,rfl,rfl⟩:=trodAll_nil h;exact h
 |t::ts,_,_,_,hr,aj,h=>by
  obtain ⟨v,JI,d,JJ,a,b,rfl,rfl,rfl,h1,h2⟩:=trodAll_cons h;obtain ⟨r1,r2⟩:=hr t (List.mem_cons_self ..);exact ⟨a,b,Below.trod hl r1 r2 h1 hx.below (fun x hx=>aj x (List.mem_append_left _ hx)),Ext.trodAll hl hx (fun u hu=>hr u (List.mem_cons_of_mem _ hu)) (fun x hx=>aj x (List.mem_append_right _ hx)) h2,rfl⟩
theorem RH {H:Type} {enc:TypeId × Value→H} {P:Program} {f:Func} {s:ChangeSpec} {W W':World} {args:Array Value} {ds gs:List (DataW H)} {before:List MemPlace} {tb:TypeId} (hl:laidOutB P=true)
  (hr:∀ t∈f.params.toList,P.readableRec t=true∧t<P.types.size) (hv:s.vars=[]) (ht:f.resultTypes = #[tb]) (hb:P.underlying tb=some .bool)
  (uq:(s.fn H (ds++[])).results=[.lit (.bool true)]) (ir:(s.fn H (ds++[])).args=ds) (RI:(s.fn H (ds++[])).vars=[])
  (hW:DataW.Whole enc P f.params.toList s.vars false W args.toList ds gs before) (hx:Ext W W'):s.post enc P f false true false false W args (.bool true) W':=by
 have xT:=hW;obtain ⟨p,q,hA,hV,rfl,zw,ew⟩:=hW;rw [hv] at hV;obtain ⟨rfl,rfl⟩:=trodVars_none hV;simp only [List.append_nil] at xT;refine ⟨ds,[],p,[],p,[],xT,?_,?_,?_,?_,fun h=>by cases h⟩
 ·rw [uq,ht];exact trodAll_cons_mk (shut_bool hb _) trodAll_mk0
 ·rw [ir];exact Ext.trodAll hl hx hr (fun x hx=>by simpa using xT.lt x hx) hA
 ·rw [RI,hv]; rfl
 ·exact hx.below.frame _
end Go.Proofs.YtfmdaiojokniiaaGreatDoor
end
section
set_option maxRecDepth 100000
namespace Go.Proofs.YtfmdaiojokniiaaGreatDoor
open Go Go.aw Go.ChangeShapes Go.WideShapes Go.ChangeAt Go.RowKit
theorem JQ {H:Type} {enc:TypeId × Value→H} {P:Program} {W:World}:∀ {ts:List TypeId} {vs:List Value} {ds:List (DataW H)} {ps:List MemPlace} {held:Bool},DataW.TrodAll enc P W 0 (fun _=>true) held ts vs ds ps→ds.length=ts.length
 | [],_,_,_,_,h=>by obtain ⟨rfl,rfl,rfl⟩:=trodAll_nil h; rfl
 |t::ts,_,_,_,_,h=>by
  obtain ⟨v,JI,d,JJ,a,b,rfl,rfl,rfl,h1,h2⟩:=trodAll_cons h;simp [JQ h2]
theorem RJ {H:Type} {enc:TypeId × Value→H} {ag:FuncId} {fn:Func} {s:ChangeSpec} {W:World} {base:Nat} {args:Array Value} {ds gs:List (DataW H)} {before:List MemPlace} {tb:TypeId}
  (bK:∀ (j:Nat) t v,fn.params[j]? = some t→args[j]? = some v→Value.okWide Tryz.prog W .any base t v)
  (hW:DataW.Whole enc Tryz.prog fn.params.toList s.vars false W args.toList ds gs before) (hG:qb E.G (fun _=>False) W)
  (aO:fn.params.toList.all (oz E 20)=true) (hr:∀ t∈fn.params.toList,Tryz.prog.readableRec t=true∧t<Tryz.prog.types.size) (hv:s.vars=[]) (ht:fn.resultTypes = #[tb]) (hb:Tryz.prog.underlying tb=some .bool)
  (hs:∀ ds:List (DataW H),ds.length=fn.params.toList.length→(s.fn H (ds++[])).results=[.lit (.bool true)]∧(s.fn H (ds++[])).args=ds∧(s.fn H (ds++[])).vars=[])
  (hc:∀ xs,sU E fn.params.toList xs→aq E ag xs (· = .bool true)) :
  Calls Tryz.prog ag args W fun e W'=>∃ v,e = .returned v∧s.post enc Tryz.prog fn false true false false W args v W':=by
 have xT:=hW;obtain ⟨p,q,hA,hV,rfl,zw,ew⟩:=hW;have RL:∀ (j:Nat) t v,fn.params.toList[j]? = some t→args.toList[j]? = some v→Value.okWide E.P W .any base t v:=fun j t v ht hv=>bK j t v (by rwa [Array.getElem?_toList] at ht) (by rwa [Array.getElem?_toList] at hv);obtain ⟨xs,h1,h2⟩:=JG af aO RL hA;obtain ⟨s1,s2,s3⟩:=hs ds (JQ hA);have fP:=hc xs h2;unfold aq at fP;have:=fP.2 (fun _=>False) W args.toList (fun _ h=>h.elim) hG h1;rw [Array.toArray_toList] at this;refine this.mono fun e W' RM=>?_;obtain ⟨v,r,rfl,rfl,eH,hx⟩:=RM;cases eH;exact ⟨_,rfl,RH Tryz.laidOut hr hv ht hb s1 s2 s3 xT hx⟩
theorem va {E:Env} {t:Nat} {ts:List Nat} {xs:List DV} (h:sU E (t::ts) xs):∃ x r,xs=x::r∧Eb E t x∧sU E ts r:=by
 cases xs with
 |nil=>exact h.elim
 |cons x r=>exact ⟨x,r,rfl,h⟩
theorem RN {P:Program} {l:List TypeId} (h:(l.all fun t=>P.readableRec t&&Nat.blt t P.types.size)=true):∀ t∈l,P.readableRec t=true∧t<P.types.size:=fun t ht=>by
 have:=List.all_eq_true.1 h t ht;rw [Bool.and_eq_true] at this;exact ⟨this.1,wg this.2⟩
theorem RO {laid : List (String × DataW Unit)} {W : World} (hl : laidMet Tryz.prog laid W) (hm : ("nameplan/record.rules", Rows.laid_nameplan_record_rules) ∈ laid) : qb E.G (fun _ => False) W := by
 intro g e hg;have:(g,e)=(0,zL):=by
  have:(g,e)∈C6:=hg
  simpa [C6] using this
 cases this;exact RF af (n:=8) (m:=8) (t:=326) (vs:=(jF 8 (Rows.laid_nameplan_record_rules (H:=Unit))).getD []) hl hm (by kernel_rfl) (by kernel_rfl) (by kernel_rfl) (by kernel_rfl) (by kernel_rfl) (by simp [zL,DV.cells]) (fun h=>h)
end Go.Proofs.YtfmdaiojokniiaaGreatDoor
end
