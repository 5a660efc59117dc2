/- Several texts of mine, one behind the other. Conditions: as each says. -/
import Derived.Test.YtfmdaiojokniiaaGreatDoorY8
import Derived.ChangeArms
import Derived.ProofKit
import Derived.OpenShut
import Derived.Deep.DeepHandedRow
import Derived.Lib.LaidTab
set_option linter.unusedVariables false
set_option linter.unusedSimpArgs false
section
namespace Go.ax
open Go Go.RowKit
def cn (E:Env) (t:Nat):Nat:=match dc E.T t with
 |some i=>i.size
 |none=>0
def gT (E:Env) (t:Nat):TK:=match dc E.T t with
 |some i=>i.k
 |none => .other
def nV (k:TK) (x:DV):Prop:=match k with
 | .struct _=>∃ cs,x = .agg cs
 |_=>x.cells=[x]
def eD (E:Env):Nat→Nat→List DV→Prop
 | 0,_,_=>False
 |n+1,t,ds=>match gT E t with
  | .bool=>∃ b,ds=[.bool b]
  | .int k=>∃ m,ds=[.int k m]∧(Lit.int k m).wf=true
  | .string=>∃ l:List UInt8,ds=[.str l]∧l.length≤maxLen
  | .slice e=>∃ l:List DV,ds=[.sl l]∧l.length≤maxLen∧∀ x∈l,eD E n e x.cells∧nV (gT E e) x
  | .struct fs=>ds.length=cn E t∧∀ p∈fs,eD E n p.2 ((ds.drop p.1).take (cn E p.2))
  |_=>False
def pb (E:Env):Nat→List (Nat × Nat)→Nat→Bool
 |o,[],n=>Nat.beq o n
 |o,p::l,n=>Nat.beq p.1 o&&pb E (o+cn E p.2) l n
def nW (E:Env):Nat→Nat→Bool
 | 0,_=>false
 |m+1,t=>match dc E.T t with
  |none=>false
  |some i=>match i.k with
   | .bool=>Nat.beq i.size 1
   | .int _=>Nat.beq i.size 1
   | .string=>Nat.beq i.size 1
   | .slice e=>Nat.beq i.size 1&&Nat.blt 0 (cn E e)&&nW E m e
   | .struct fs=>pb E 0 fs i.size&&fs.all fun p=>nW E m p.2
   |_=>false
theorem xo {E:Env} (hE:E.OK) {t:Nat} {i:bk} (hi:E.T[t]? = some i):cn E t=E.P.cellsOf t:=by
 obtain ⟨ti,d,g1,g2,g3,g4,-⟩:=cm (hE.types t i hi);simp [cn,dC,hi,Program.cellsOf,g1,g4]
theorem I3 {E:Env} {m t:Nat} (h:nW E m t=true):∃ i,E.T[t]? = some i:=by
 cases m with
 |zero=>cases h
 |succ m =>
  unfold nW at h;split at h
  ·cases h
  ·rename_i i hi; rw [dC] at hi; exact ⟨i,hi⟩
theorem I4 {E:Env} (hE:E.OK) {m t:Nat} (h:nW E m t=true):cn E t=E.P.cellsOf t:=by
 obtain ⟨i,hi⟩:=I3 h;exact xo hE hi
theorem iC.Qk {bad:Nat→Prop} {w:World} {a b:List DV} {u v:List Value} (h1:iC bad w a u) (h2:iC bad w b v):iC bad w (a++b) (u++v):=by
 refine ⟨by simp [h1.1,h2.1],fun j x y hx hy=>?_⟩;rcases Nat.lt_or_ge j a.length with hj | hj
 ·rw [List.getElem?_append_left hj] at hx;rw [List.getElem?_append_left (by rw [← h1.1]; exact hj)] at hy;exact h1.2 j x y hx hy
 ·rw [List.getElem?_append_right hj] at hx;rw [List.getElem?_append_right (by rw [← h1.1]; exact hj),← h1.1] at hy;exact h2.2 _ x y hx hy
section
variable {E:Env} {H:Type} {enc:TypeId × Value→H} {w:World} {held:Bool}
theorem I5 {n:Nat} {cs:List Value}:∀ {fs:List (Nat × Nat)} {o tot:Nat},pb E o fs tot=true→cs.length=tot→o≤tot →
  (∀ p∈fs,∃ ds,eD E n p.2 ds∧iC (fun _=>False) w ds ((cs.drop p.1).take (cn E p.2))∧∀ v∈(cs.drop p.1).take (cn E p.2),v.oneCell'=true) →
  (∀ p∈fs,p.1+cn E p.2≤tot) →
  ∃ ds,ds.length=tot - o∧iC (fun _=>False) w ds (cs.drop o)∧(∀ v∈cs.drop o,v.oneCell'=true)∧∀ p∈fs,o≤p.1∧eD E n p.2 ((ds.drop (p.1 - o)).take (cn E p.2))
 | [],o,tot,h,hl,ho,_,_=>by
  obtain rfl:o=tot:=Nat.eq_of_beq_eq_true h;rw [List.drop_of_length_le (by omega)];exact ⟨[],by simp,⟨rfl,fun j x v hx=>by simp at hx⟩,fun v hv=>by simp at hv,fun p hp=>by simp at hp⟩
 |p::fs,o,tot,h,hl,ho,hf,hb=>by
  simp only [pb,Bool.and_eq_true] at h;obtain ⟨h1,h2⟩:=h;have h1:=Nat.eq_of_beq_eq_true h1;have hle:=hb p (List.mem_cons_self ..);rw [h1] at hle;obtain ⟨d1,k1,k2,k3⟩:=hf p (List.mem_cons_self ..);rw [h1] at k2 k3;obtain ⟨d2,q1,q2,q3,q4⟩:=I5 h2 hl hle (fun p hp=>hf p (List.mem_cons_of_mem _ hp)) (fun p hp=>hb p (List.mem_cons_of_mem _ hp));have kQ:d1.length=cn E p.2:=by rw [k2.1]; simp; omega
  have I6:cs.drop o=(cs.drop o).take (cn E p.2)++cs.drop (o+cn E p.2):=by
   rw [← List.drop_drop,List.take_append_drop]
  refine ⟨d1++d2,by simp [kQ,q1]; omega,by rw [I6]; exact k2.Qk q2,fun v hv=>?_,fun p' hp=>?_⟩
  ·rw [I6] at hv;rcases List.mem_append.1 hv with hv | hv
   ·exact k3 v hv
   ·exact q3 v hv
  ·rcases List.mem_cons.1 hp with rfl | hp
   ·refine ⟨by omega,?_⟩;rw [h1,Nat.sub_self,List.drop_zero,List.take_append_of_le_length (by omega),List.take_of_length_le (by omega)];exact k1
   ·obtain ⟨r1,r2⟩:=q4 p' hp;refine ⟨by omega,?_⟩;rw [List.drop_append,List.drop_of_length_le (by omega),List.nil_append,show p'.1 - o - d1.length=p'.1 - (o+cn E p.2) by omega];exact r2
theorem DG:∀ {fs:List (Nat × Nat)} {o tot:Nat},pb E o fs tot=true→o≤tot∧∀ p∈fs,p.1+cn E p.2≤tot
 | [],o,tot,h=>⟨Nat.le_of_eq (Nat.eq_of_beq_eq_true h),fun p hp=>by simp at hp⟩
 |p::fs,o,tot,h=>by
  simp only [pb,Bool.and_eq_true] at h;obtain ⟨h1,h2⟩:=h;have h1:=Nat.eq_of_beq_eq_true h1;obtain ⟨k1,k2⟩:=DG h2;refine ⟨by omega,fun p' hp=>?_⟩;rcases List.mem_cons.1 hp with rfl | hp
  ·omega
  ·exact k2 p' hp
theorem Ql (hE:E.OK):∀ (fuel m t:Nat) (cs:List Value) (x:DataW H × List MemPlace),nW E m t=true→DataW.trod enc E.P w 0 (fun _=>true) held fuel t cs=some x →
  ∃ ds,eD E fuel t ds∧iC (fun _=>False) w ds cs∧∀ v∈cs,v.oneCell'=true:=by
 intro fuel
 induction fuel with
 |zero=>intro m t cs x _ h; simp [DataW.trod] at h
 |succ fuel ih =>
  intro m t cs x aM h;cases m with
  |zero=>cases aM
  |succ m =>
   unfold nW at aM;split at aM
   ·cases aM
   rename_i i hi;have hk:gT E t=i.k:=by simp [gT,hi]
   have bY:cn E t=i.size:=by simp [cn,hi]
   rw [dC] at hi;obtain ⟨ti,d,g1,g2,g3,g4,-⟩:=cm (hE.types t i hi);have one:∀ {y:DV} {v:Value},VD (fun _=>False) w y v→v.oneCell'=true→cs=[v]→iC (fun _=>False) w [y] cs∧∀ v∈cs,v.oneCell'=true:=fun {y v} h1 h2 h3=>by
    subst h3;refine ⟨⟨rfl,fun j x u hx hu=>?_⟩,fun u hu=>by simp at hu; subst hu; exact h2⟩;cases j with
    |zero=>simp at hx hu; subst hx; subst hu; exact h1
    |succ j=>simp at hx
   split at aM
   ·rename_i eI;have hd:d = .bool:=by rw [eI] at g3; cases d <;> first | rfl | cases g3
    subst hd;obtain ⟨b,rfl,-⟩:=DataW.trod_bool g2 h;exact ⟨[.bool b],by unfold eD; rw [hk,eI]; exact ⟨b,rfl⟩,one (.bool b) rfl rfl⟩
   ·rename_i k eI;obtain rfl:=sX (eI.symm.trans g3);obtain ⟨n,rfl,-,hw⟩:=DataW.trod_int g2 h;exact ⟨[.int k n],by unfold eD; rw [hk,eI]; exact ⟨n,rfl,hw⟩,one (.int k n) rfl rfl⟩
   ·rename_i eI;obtain rfl:=py (eI.symm.trans g3);obtain ⟨s,rfl,-,hl⟩:=DataW.trod_string g2 h;refine ⟨[.str s.data.toList],?_,one (v := .string s) ?_ rfl rfl⟩
    ·unfold eD; rw [hk,eI]; exact ⟨_,rfl,by rw [Array.length_toList]; exact hl⟩
    ·have:=VD.str (bad:=fun _=>False) (w:=w) s.data.toList
     simpa using this
   ·rename_i e eI;obtain rfl:=kg (eI.symm.trans g3);simp only [Bool.and_eq_true] at aM;obtain ⟨⟨-,cA⟩,xp⟩:=aM;have cA:=vK cA;have DH:=I4 hE xp;rcases DataW.trod_slice g2 h with ⟨rfl,-⟩ | ⟨a,len,cap,elems,rest,n,hn,rfl,-,-,Qm,Wa,dv,DI,s5,-⟩
    ·exact ⟨[.sl []],by unfold eD; rw [hk,eI]; exact ⟨[],rfl,Nat.zero_le _,fun x hx=>by simp at hx⟩,one .slnil rfl rfl⟩
    cases hn;obtain ⟨xq,rv⟩:=s5 rfl;rw [← DH] at DI rv;have spot:0<cap→a.spot=none:=fun hc=>by
     have dq:∀ {q:Option (DataW H × List MemPlace)},(w.cells? 0 (a.add 0) (cn E e)).bind (DataW.trod enc E.P w 0 (fun _=>true) held fuel e)=q→q.isSome→a.spot=none:=fun {q} h1 h2=>by
      cases kn:w.cells? 0 (a.add 0) (cn E e) with
      |none=>rw [kn] at h1; subst h1; cases h2
      |some l =>
       obtain ⟨-,hl,dq⟩:=World.cells?_some kn;have:=dq 0 cA;rw [List.getElem?_eq_getElem (by omega)] at this;cases hs:a.spot with
       |none=>rfl
       |some k =>
        have jo:((a.add 0).add 0).spot.isSome=true:=by simp [Addr.add,hs]
        simp only [World.cell?,jo,if_true] at this;split at this <;> cases this
     by_cases h0:0<len
     ·have:=DI 0 h0;rw [Nat.zero_mul] at this;exact dq this (by simp [dv,h0])
     ·obtain rfl:len=0:=by omega
      have:=rv 0 (by omega);rw [Nat.zero_add,Nat.zero_mul] at this;exact dq this (by simp [xq]; omega)
    by_cases oU:cap=0
    ·subst oU;obtain rfl:len=0:=by omega
     exact ⟨[.sl []],by unfold eD; rw [hk,eI]; exact ⟨[],rfl,Nat.zero_le _,fun x hx=>by simp at hx⟩,one (.jB a) rfl rfl⟩
    have zY:=spot (by omega);obtain ⟨blk,off,sp⟩:=a;cases zY;have key:∀ i,∃ x:DV,i<len→eD E fuel e x.cells∧nV (gT E e) x∧x.cells.length=cn E e∧∀ (j:Nat) (y:DV),x.cells[j]? = some y→∃ v,w.cell? ⟨blk,off+(i*cn E e+j),none⟩=some v∧v.oneCell'=true∧VD (fun _=>False) w y v:=fun i=>by
     by_cases hi:i<len
     case neg=>exact ⟨.undef,fun h=>absurd h hi⟩
     have he:=DI i hi;cases kn:w.cells? 0 ((⟨blk,off,none⟩:Addr).add (i*cn E e)) (cn E e) with
     |none=>rw [kn] at he; simp [dv,hi] at he
     |some l =>
      rw [kn] at he;obtain ⟨-,hl,dq⟩:=World.cells?_some kn;have tr:DataW.trod enc E.P w 0 (fun _=>true) held fuel e l=some (elems[i]'(by omega)):=by
       rw [← List.getElem?_eq_getElem (by omega)]; exact he
      obtain ⟨ds,k1,k2,k3⟩:=ih m e l _ xp tr;have qi:ds.length=cn E e:=by rw [k2.1,hl]
      have I7:∀ (j:Nat) (y:DV),ds[j]? = some y→∃ v,w.cell? ⟨blk,off+(i*cn E e+j),none⟩=some v∧v.oneCell'=true∧VD (fun _=>False) w y v:=fun j y hy=>by
       have hj:=aT hy;have nn:j<l.length:=by rw [← k2.1]; exact hj
       have:=dq j (by omega);rw [List.getElem?_eq_getElem nn] at this;refine ⟨l[j],?_,k3 _ (List.getElem_mem nn),k2.2 j y _ hy (by simp [nn])⟩;rw [lK,lK,Nat.add_assoc] at this;exact this
      by_cases DJ:∃ fs,gT E e = .struct fs
      ·obtain ⟨fs,fS⟩:=DJ;exact ⟨.agg ds,fun _=>⟨k1,by rw [fS]; exact ⟨ds,rfl⟩,qi,I7⟩⟩
      ·obtain ⟨y,hy,zZ⟩:∃ y,ds=[y]∧y.cells=[y]:=by
        unfold eD at k1;cases fuel with
        |zero=>exact k1.elim
        |succ fuel =>
         simp only at k1;split at k1
         ·obtain ⟨b,rfl⟩:=k1; exact ⟨_,rfl,rfl⟩
         ·obtain ⟨b,rfl,-⟩:=k1; exact ⟨_,rfl,rfl⟩
         ·obtain ⟨b,rfl,-⟩:=k1; exact ⟨_,rfl,rfl⟩
         ·obtain ⟨b,rfl,-⟩:=k1; exact ⟨_,rfl,rfl⟩
         ·rename_i fs fS; exact absurd ⟨fs,fS⟩ DJ
         ·exact k1.elim
       subst hy;refine ⟨y,fun _=>⟨by rw [zZ]; exact k1,?_,by rw [zZ]; exact qi,by rw [zZ]; exact I7⟩⟩;unfold nV;split
       ·rename_i fs fS; exact absurd ⟨fs,fS⟩ DJ
       ·exact zZ
    let g:Nat→DV:=fun i=>Classical.choose (key i)
    have hg:∀ i,i<len→eD E fuel e (g i).cells∧nV (gT E e) (g i)∧(g i).cells.length=cn E e∧∀ (j:Nat) (y:DV),(g i).cells[j]? = some y→∃ v,w.cell? ⟨blk,off+(i*cn E e+j),none⟩=some v∧v.oneCell'=true∧VD (fun _=>False) w y v:=fun i=>Classical.choose_spec (key i);have dX:∀ (i:Nat) (y:DV),((List.range len).map g)[i]? = some y→i<len∧y=g i:=fun i y hy=>by
     have hi:i<len:=by have:=aT hy; simpa using this
     simp [hi] at hy;exact ⟨hi,hy.symm⟩
    refine ⟨[.sl ((List.range len).map g)],?_,one (v := .slice (some ⟨blk,off,none⟩) len cap) ?_ rfl rfl⟩
    ·unfold eD;rw [hk,eI];refine ⟨_,rfl,by simp; omega,fun x hx=>?_⟩;obtain ⟨i,hi⟩:=List.getElem?_of_mem hx;obtain ⟨h1,rfl⟩:=dX i x hi;exact ⟨(hg i h1).1,(hg i h1).2.1⟩
    ·have:=VD.sl (bad:=fun _=>False) (w:=w) ((List.range len).map g) blk off cap (cn E e) (fun i j=>(w.cell? ⟨blk,off+(i*cn E e+j),none⟩).getD undef) (fun _ h=>h) cA (by simpa using Qm)
      (fun i y hy=>by obtain ⟨h1,rfl⟩:=dX i y hy; exact (hg i h1).2.2.1)
      (fun i j y z hy hz=>by obtain ⟨h1,rfl⟩:=dX i y hy; obtain ⟨v,q1,q2,q3⟩:=(hg i h1).2.2.2 j z hz; rw [q1]; rfl)
      (fun i j y z hy hz=>by obtain ⟨h1,rfl⟩:=dX i y hy; obtain ⟨v,q1,q2,q3⟩:=(hg i h1).2.2.2 j z hz; rw [q1]; exact q3)
      (fun i j y z hy hz=>by obtain ⟨h1,rfl⟩:=dX i y hy; obtain ⟨v,q1,q2,q3⟩:=(hg i h1).2.2.2 j z hz; rw [q1]; exact q2)
     simpa using this
   ·rename_i fs eI;obtain ⟨fl,rfl,rfl⟩:=om (eI.symm.trans g3);simp only [Bool.and_eq_true] at aM;obtain ⟨z6,aH⟩:=aM;obtain ⟨xs,n,hn,-,hlen,im,hf⟩:=DataW.trod_struct g2 h;cases hn;rw [← xo hE hi,bY] at hlen;obtain ⟨-,hle⟩:=DG z6
    obtain ⟨ds,r1,r2,r3,r4⟩:=I5 (n:=fuel) (w:=w) (cs:=cs) z6 hlen (Nat.zero_le _) (fun p hp=>by
     obtain ⟨f,vE,rfl⟩:=List.mem_map.1 hp;have xr:=List.all_eq_true.1 aH _ hp;obtain ⟨i',bV⟩:=List.getElem?_of_mem vE;have Wb:fl.toList.toArray[i']? = some f:=by simpa using bV
     have:=hf i' f (by simpa using bV);have ai:i'<xs.length:=by rw [im]; have:=aT bV; simpa using this
     rw [List.getElem?_eq_getElem ai] at this;obtain ⟨ds,k1,k2,k3⟩:=ih m f.type _ _ xr this;rw [← I4 hE xr] at k2 k3
     exact ⟨ds,k1,k2,k3⟩) hle
    rw [List.drop_zero] at r2 r3;refine ⟨ds,?_,r2,r3⟩;unfold eD;rw [hk,eI];exact ⟨by rw [r1,bY]; rfl,fun p hp=>(r4 p hp).2⟩
   ·cases aM
end
end Go.ax
end
section
namespace Go.ax
open Go Go.RowKit
variable {E:Env} {n t:Nat} {ds:List DV}
structure bU (E:Env) (t:Nat) {α:Type} (enc:α→DV) (gb:α→Prop):Prop where
 dec:∀ {m ds},eD E m t ds→∃ a,ds=(enc a).cells∧gb a
 elem:∀ {x a},nV (gT E t) x→x.cells=(enc a).cells→x=enc a
variable {α β:Type} {enc:α→DV} {Wc:β→DV} {gb:α→Prop} {z7:β→Prop}
theorem bU.get (c:bU E t enc gb) {x:DV} (h:∃ m,eD E m t x.cells) (he:nV (gT E t) x):∃ a,x=enc a∧gb a:=by
 obtain ⟨m,h⟩:=h;obtain ⟨a,h1,h2⟩:=c.dec h;exact ⟨a,c.elem he h1,h2⟩
theorem bU.of {k:TK} (hk:gT E t=k) (hn:∀ fs,k ≠ .struct fs) (h1:∀ a,(enc a).cells=[enc a]) (h:∀ m ds,eD E (m+1) t ds→∃ a,ds=[enc a]∧gb a):bU E t enc gb:=by
 refine ⟨fun {m ds} hd=>?_,fun {x a} he hx=>?_⟩
 ·cases m with
  |zero=>exact hd.elim
  |succ m=>obtain ⟨a,h2,h3⟩:=h m ds hd; exact ⟨a,by rw [h1,h2],h3⟩
 ·rw [h1] at hx;rw [hk] at he;unfold nV at he;split at he
  ·exact absurd rfl (hn _)
  ·rw [he] at hx; simpa using hx
theorem bU.str (hk:gT E t = .string):bU E t DV.str (fun l=>l.length≤maxLen) := .of hk (by simp) (fun _=>rfl) fun m ds h=>by
 unfold eD at h; rw [hk] at h; exact h
theorem bU.int {k:IntKind} {g:Int→Prop} (hk:gT E t = .int k) (hg:∀ n,(Lit.int k n).wf=true→g n):bU E t (DV.int k) g := .of hk (by simp) (fun _=>rfl) fun m ds h=>by
 unfold eD at h; rw [hk] at h; obtain ⟨n,h1,h2⟩:=h; exact ⟨n,h1,hg n h2⟩
theorem bU.bool (hk:gT E t = .bool):bU E t DV.bool (fun _=>True) := .of hk (by simp) (fun _=>rfl) fun m ds h=>by
 unfold eD at h; rw [hk] at h; obtain ⟨n,h1⟩:=h; exact ⟨n,h1,trivial⟩
theorem bU.list (c:bU E n enc gb):∀ {l:List DV},(∀ x∈l,(∃ m,eD E m n x.cells)∧nV (gT E n) x)→∃ l':List α,l=l'.map enc∧∀ a∈l',gb a
 | [],_=>⟨[],rfl,by simp⟩
 |x::l,h=>by
  obtain ⟨⟨h1,h2⟩,h3⟩:=List.forall_mem_cons.1 h;obtain ⟨a,rfl,ha⟩:=c.get h1 h2;obtain ⟨l',rfl,h4⟩:=bU.list c h3;exact ⟨a::l',rfl,List.forall_mem_cons.2 ⟨ha,h4⟩⟩
theorem bU.sl (c:bU E n enc gb) (hk:gT E t = .slice n):bU E t (fun l:List α=>DV.sl (l.map enc)) (fun l:List α=>l.length≤maxLen∧∀ x∈l,gb x) := .of hk (by simp) (fun _=>rfl) fun m ds h=>by
 unfold eD at h; rw [hk] at h; obtain ⟨l,h1,h2,h3⟩:=h;obtain ⟨l',rfl,h4⟩:=c.list fun x hx=>⟨⟨m,(h3 x hx).1⟩,(h3 x hx).2⟩;exact ⟨l',h1,by simpa using h2,h4⟩
def ff (E:Env) (fs:List (Nat × Nat)) (off sz:Nat) {α:Type} (en:α→List DV) (gb:α→Prop):Prop:=∀ {m} {ds:List DV},ds.length=sz→(∀ p∈fs,eD E m p.2 ((ds.drop p.1).take (cn E p.2)))→∃ a,ds.drop off=en a∧gb a
variable {off o2 sz:Nat} {fs:List (Nat × Nat)} {en:β→List DV}
theorem bU.last (c:bU E t enc gb) (h:off+cn E t=sz):ff E [(off,t)] off sz (fun a=>(enc a).cells) gb:=fun {m ds} hl hf=>by
 have:=hf (off,t) (by simp);rw [List.take_of_length_le (by simp; omega)] at this;exact c.dec this
theorem bU.cons (c:bU E t enc gb) (d:ff E fs o2 sz en z7) (h:off+cn E t=o2):ff E ((off,t)::fs) off sz (fun p=>(enc p.1).cells++en p.2) (fun p:α × β=>gb p.1∧z7 p.2):=fun {m ds} hl hf=>by
 obtain ⟨h1,h2⟩:=List.forall_mem_cons.1 hf;obtain ⟨a,h3,h4⟩:=c.dec h1;obtain ⟨b,h5,h6⟩:=d hl h2;refine ⟨(a,b),?_,h4,h6⟩;show _=(enc a).cells++en b;rw [← h3,← h5,← h,← List.drop_drop,List.take_append_drop]
theorem ff.struct {f:β→α} (d:ff E fs 0 sz en z7) (hk:gT E t = .struct fs) (hs:cn E t=sz) (he:∀ a,enc (f a) = .agg (en a)) (ha:∀ a,∃ cs,enc a = .agg cs) (hg:∀ a,z7 a→gb (f a)):bU E t enc gb:=by
 refine ⟨fun {m ds} h=>?_,fun {x a} h1 h2=>?_⟩
 ·cases m with
  |zero=>exact h.elim
  |succ m =>
   unfold eD at h; rw [hk] at h;obtain ⟨a,h3,h4⟩:=d (by rw [h.1,hs]) h.2;exact ⟨f a,by rw [he]; exact h3,hg a h4⟩
 ·rw [hk] at h1;obtain ⟨cs,rfl⟩:∃ cs,x = .agg cs:=h1;obtain ⟨Nq,h3⟩:=ha a;rw [h3] at h2 ⊢;cases h2;rfl
def DK (E:Env) (t:Nat) (x:DV):Prop:=(∃ m,eD E m t x.cells)∧nV (gT E t) x
theorem Qn (hE:E.OK) {H:Type} {enc:TypeId × Value→H} {W:World} {base m:Nat} {v:Value} {d:DataW H} {p:List MemPlace} {held:Bool} (aM:nW E m t=true) (hv:Value.okWide E.P W .any base t v) (h:DataW.Trod enc E.P W 0 (fun _=>true) held t v d p):∃ x,VD (fun _=>False) W x v∧DK E t x:=by
 obtain ⟨fuel,h⟩:=h;obtain ⟨ds,h1,h2,h3⟩:=Ql hE fuel m t _ _ aM h;obtain ⟨i,hi⟩:=I3 aM;obtain ⟨ti,dd,g1,g2,g3,g4,-⟩:=cm (hE.types t i hi);have hk:gT E t=tk dd:=by simp [gT,dC,hi,g3]
 by_cases hs:∃ fs,dd = .struct fs
 ·obtain ⟨fs,rfl⟩:=hs;simp only [Value.okWide,g2] at hv;obtain ⟨cs,rfl,-,-⟩:=hv;refine ⟨.agg ds,.agg ds cs (by simpa [Value.cells] using h2.1) (fun j x v hx hv=>h2.2 j x v hx (by simpa [Value.cells] using hv)),⟨fuel,h1⟩,?_⟩;rw [hk];exact ⟨ds,rfl⟩
 ·have bZ:∃ y,ds=[y]∧y.cells=[y]:=by
   cases fuel with
   |zero=>exact h1.elim
   |succ fuel =>
    unfold eD at h1;split at h1
    ·obtain ⟨b,rfl⟩:=h1; exact ⟨_,rfl,rfl⟩
    ·obtain ⟨b,rfl,-⟩:=h1; exact ⟨_,rfl,rfl⟩
    ·obtain ⟨b,rfl,-⟩:=h1; exact ⟨_,rfl,rfl⟩
    ·obtain ⟨b,rfl,-⟩:=h1; exact ⟨_,rfl,rfl⟩
    ·rename_i fs fS;rw [hk] at fS;exact absurd (by cases dd <;> first | exact ⟨_,rfl⟩ | (cases fS; done)) hs
    ·exact h1.elim
  obtain ⟨y,rfl,hy⟩:=bZ;have eN:∀ cs,v ≠ .agg cs:=fun cs e=>by
   subst e;have CK:∀ n e',dd ≠ .array n e':=fun n e' e=>by
    subst e;cases fuel with
    |zero=>exact h1.elim
    |succ fuel=>unfold eD at h1; rw [hk] at h1; exact h1
   unfold Value.okWide at hv;rw [g2] at hv;cases dd <;> first
    |exact absurd ⟨_,rfl⟩ hs
    |exact absurd rfl (CK _ _)
    |(simp [Cell.okWide,Cell.ok,g2] at hv; done)
  have Qo:v.cells.toList=[v]:=by
   cases v <;> first | rfl | exact absurd rfl (eN _)
  rw [Qo] at h2;refine ⟨y,h2.2 0 y v rfl rfl,⟨fuel,by rw [hy]; exact h1⟩,?_⟩;unfold nV;split
  ·rename_i fs fS;rw [hk] at fS;exact absurd (by cases dd <;> first | exact ⟨_,rfl⟩ | (cases fS; done)) hs
  ·exact hy
def sm (E:Env):List Nat→List DV→Prop
 | [],xs=>xs=[]
 |t::ts,x::xs=>DK E t x∧sm E ts xs
 |_::_,[]=>False
theorem I8 (hE:E.OK) {H:Type} {enc:TypeId × Value→H} {W:World} {base m:Nat} {held:Bool}:∀ {ts:List Nat} {vs:List Value} {ds:List (DataW H)} {ps:List MemPlace},ts.all (nW E m)=true →
  (∀ (j:Nat) t v,ts[j]? = some t→vs[j]? = some v→Value.okWide E.P W .any base t v)→DataW.TrodAll enc E.P W 0 (fun _=>true) held ts vs ds ps→∃ xs,iC (fun _=>False) W xs vs∧sm E ts xs
 | [],vs,ds,ps,_,_,h=>by
  obtain ⟨rfl,-,-⟩:=ChangeShapes.trodAll_nil h;exact ⟨[],⟨rfl,fun j x v hx=>by simp at hx⟩,rfl⟩
 |t::ts,vs,ds,ps,aM,hv,h=>by
  obtain ⟨v,I9,d,I',p,q,rfl,rfl,rfl,h1,h2⟩:=ChangeShapes.trodAll_cons h;simp only [List.all_cons,Bool.and_eq_true] at aM;obtain ⟨x,k1,k2⟩:=Qn hE aM.1 (hv 0 t v rfl rfl) h1;obtain ⟨xs,q1,q2⟩:=I8 hE aM.2 (fun j t v ht eF=>hv (j+1) t v (by simpa using ht) (by simpa using eF)) h2;refine ⟨x::xs,⟨by simp [q1.1],fun j y u hy hu=>?_⟩,k2,q2⟩;cases j with
  |zero=>simp at hy hu; subst hy; subst hu; exact k1
  |succ j=>exact q1.2 j y u (by simpa using hy) (by simpa using hu)
end Go.ax
end
section
namespace Go.Proofs.YtfmdaiojokniiaaGreatDoor.P
open Go Go.ax
set_option maxRecDepth 100000
def DL (n:Int):Prop:=0≤n∧n≤18446744073709551615
def U8 (n:Int):Prop:=0≤n∧n≤255
theorem Qp {n:Int} (h:(Lit.int .i64 n).wf=true):dQ n:=by
 simp [Lit.wf,IntKind.min,IntKind.max,IntKind.signed,IntKind.bits] at h; exact h
theorem Qq {n:Int} (h:(Lit.int .u64 n).wf=true):DL n:=by
 simp [Lit.wf,IntKind.min,IntKind.max,IntKind.signed,IntKind.bits] at h; exact h
theorem Qr {n:Int} (h:(Lit.int .u8 n).wf=true):U8 n:=by
 simp [Lit.wf,IntKind.min,IntKind.max,IntKind.signed,IntKind.bits] at h; exact h
theorem qu:bU E 9 DV.str (fun l=>l.length≤maxLen):=bU.str (by kernel_rfl)
theorem eL:bU E 3 (DV.int .i64) dQ:=bU.int (by kernel_rfl) fun _=>Qp
theorem Qs:bU E 188 (DV.int .u64) DL:=bU.int (by kernel_rfl) fun _=>Qq
theorem Qt:bU E 5 (DV.int .u8) U8:=bU.int (by kernel_rfl) fun _=>Qr
theorem Qu:bU E 27 (fun l:List Int=>DV.sl (l.map (DV.int .i64))) (fun l=>l.length≤maxLen∧∀ x∈l,dQ x):=eL.sl (by kernel_rfl)
def Datum.Good (a:Datum):Prop:=(a.text.length≤maxLen)∧(dQ a.n)∧(dQ a.m)
theorem Qv:bU E 131 Datum.enc Datum.Good:=ff.struct (f:=fun p:Text × Int × Int=>⟨p.1,p.2.1,p.2.2⟩) (qu.cons (eL.cons (eL.last rfl) rfl) rfl) (by kernel_rfl) rfl (fun _=>rfl) (fun _=>⟨_,rfl⟩) fun _ h=>h
theorem Qw:bU E 24 (fun l:List Datum=>DV.sl (l.map Datum.enc)) (fun l=>l.length≤maxLen∧∀ x∈l,x.Good):=Qv.sl (by kernel_rfl)
def cP.Good (a:cP):Prop:=(a.name.length≤maxLen)∧(dQ a.type)∧(dQ a.cD)∧(a.data.length≤maxLen∧∀ x∈a.data,x.Good)
theorem Ja:bU E 26 cP.enc cP.Good:=ff.struct (f:=fun p:Text × Int × Int × List Datum=>⟨p.1,p.2.1,p.2.2.1,p.2.2.2⟩) (qu.cons (eL.cons (eL.cons (Qw.last rfl) rfl) rfl) rfl) (by kernel_rfl) rfl (fun _=>rfl) (fun _=>⟨_,rfl⟩) fun _ h=>h
def da.Good (a:da):Prop:=(a.az.length≤maxLen)∧(dQ a.key)∧(dQ a.l6)∧(dQ a.cj)∧(dQ a.upto)∧(DL a.sum)
theorem Qx:bU E 190 da.enc da.Good:=ff.struct (f:=fun p:Text × Int × Int × Int × Int × Int=>⟨p.1,p.2.1,p.2.2.1,p.2.2.2.1,p.2.2.2.2.1,p.2.2.2.2.2⟩) (qu.cons (eL.cons (eL.cons (eL.cons (eL.cons (Qs.last rfl) rfl) rfl) rfl) rfl) rfl) (by kernel_rfl) rfl (fun _=>rfl) (fun _=>⟨_,rfl⟩) fun _ h=>h
theorem Qy:bU E 100 (fun l:List da=>DV.sl (l.map da.enc)) (fun l=>l.length≤maxLen∧∀ x∈l,x.Good):=Qx.sl (by kernel_rfl)
def Signed.Good (a:Signed):Prop:=(a.set.Good)∧(a.sigs.length≤maxLen∧∀ x∈a.sigs,x.Good)
theorem Jb:bU E 102 Signed.enc Signed.Good:=ff.struct (f:=fun p:cP × List da=>⟨p.1,p.2⟩) (Ja.cons (Qy.last rfl) rfl) (by kernel_rfl) rfl (fun _=>rfl) (fun _=>⟨_,rfl⟩) fun _ h=>h
theorem DM:bU E 37 (fun l:List Signed=>DV.sl (l.map Signed.enc)) (fun l=>l.length≤maxLen∧∀ x∈l,x.Good):=Jb.sl (by kernel_rfl)
def aR.Good (a:aR):Prop:=(a.aj.length≤maxLen)∧(a.ab.length≤maxLen∧∀ x∈a.ab,x.Good)
theorem DN:bU E 59 aR.enc aR.Good:=ff.struct (f:=fun p:Text × List Signed=>⟨p.1,p.2⟩) (qu.cons (DM.last rfl) rfl) (by kernel_rfl) rfl (fun _=>rfl) (fun _=>⟨_,rfl⟩) fun _ h=>h
def bw.Good (a:bw):Prop:=(a.name.length≤maxLen)∧(dQ a.type)
theorem DO:bU E 36 bw.enc bw.Good:=ff.struct (f:=fun p:Text × Int=>⟨p.1,p.2⟩) (qu.cons (eL.last rfl) rfl) (by kernel_rfl) rfl (fun _=>rfl) (fun _=>⟨_,rfl⟩) fun _ h=>h
def dP.Good (a:dP):Prop:=(dQ a.kind)∧(a.ab.length≤maxLen∧∀ x∈a.ab,x.Good)∧(a.cut.length≤maxLen)
theorem Qz:bU E 39 dP.enc dP.Good:=ff.struct (f:=fun p:Int × List Signed × Text=>⟨p.1,p.2.1,p.2.2⟩) (eL.cons (DM.cons (qu.last rfl) rfl) rfl) (by kernel_rfl) rfl (fun _=>rfl) (fun _=>⟨_,rfl⟩) fun _ h=>h
structure Host where
 name:Text
 addr:Int
 owner:Int
 deriving DecidableEq
@[reducible] def Host.enc (a : Host) : DV := .agg [.str a.name, .int .i64 a.addr, .int .i64 a.owner]
def Host.Good (a:Host):Prop:=(a.name.length≤maxLen)∧(dQ a.addr)∧(dQ a.owner)
theorem QA:bU E 84 Host.enc Host.Good:=ff.struct (f:=fun p:Text × Int × Int=>⟨p.1,p.2.1,p.2.2⟩) (qu.cons (eL.cons (eL.last rfl) rfl) rfl) (by kernel_rfl) rfl (fun _=>rfl) (fun _=>⟨_,rfl⟩) fun _ h=>h
theorem QB:bU E 22 (fun l:List Host=>DV.sl (l.map Host.enc)) (fun l=>l.length≤maxLen∧∀ x∈l,x.Good):=QA.sl (by kernel_rfl)
structure a7 where
 host:Int
 cj:Int
 upto:Int
 az:aR
 deriving DecidableEq
@[reducible] def a7.enc (a : a7) : DV := .agg [.int .i64 a.host, .int .i64 a.cj, .int .i64 a.upto, .str a.az.aj, .sl (a.az.ab.map Signed.enc)]
def a7.Good (a:a7):Prop:=(dQ a.host)∧(dQ a.cj)∧(dQ a.upto)∧(a.az.Good)
theorem QC:bU E 68 a7.enc a7.Good:=ff.struct (f:=fun p:Int × Int × Int × aR=>⟨p.1,p.2.1,p.2.2.1,p.2.2.2⟩) (eL.cons (eL.cons (eL.cons (DN.last rfl) rfl) rfl) rfl) (by kernel_rfl) rfl (fun _=>rfl) (fun _=>⟨_,rfl⟩) fun _ h=>h
theorem QD:bU E 23 (fun l:List a7=>DV.sl (l.map a7.enc)) (fun l=>l.length≤maxLen∧∀ x∈l,x.Good):=QC.sl (by kernel_rfl)
structure bz where
 host:Int
 az:aR
 deriving DecidableEq
@[reducible] def bz.enc (a : bz) : DV := .agg [.int .i64 a.host, .str a.az.aj, .sl (a.az.ab.map Signed.enc)]
def bz.Good (a:bz):Prop:=(dQ a.host)∧(a.az.Good)
theorem QE:bU E 61 bz.enc bz.Good:=ff.struct (f:=fun p:Int × aR=>⟨p.1,p.2⟩) (eL.cons (DN.last rfl) rfl) (by kernel_rfl) rfl (fun _=>rfl) (fun _=>⟨_,rfl⟩) fun _ h=>h
theorem QF:bU E 53 (fun l:List bz=>DV.sl (l.map bz.enc)) (fun l=>l.length≤maxLen∧∀ x∈l,x.Good):=QE.sl (by kernel_rfl)
structure ca where
 aA:List Host
 aI:List a7
 anchor:cP
 hints:List Int
 bT:Int
 fin:Int
 deriving DecidableEq
@[reducible] def ca.enc (a : ca) : DV := .agg [.sl (a.aA.map Host.enc), .sl (a.aI.map a7.enc), .str a.anchor.name, .int .i64 a.anchor.type, .int .i64 a.anchor.cD, .sl (a.anchor.data.map Datum.enc), .sl (a.hints.map (.int .i64)), .int .i64 a.bT, .int .i64 a.fin]
def ca.Good (a:ca):Prop:=(a.aA.length≤maxLen∧∀ x∈a.aA,x.Good)∧(a.aI.length≤maxLen∧∀ x∈a.aI,x.Good)∧(a.anchor.Good)∧(a.hints.length≤maxLen∧∀ x∈a.hints,dQ x)∧(dQ a.bT)∧(dQ a.fin)
theorem QG:bU E 29 ca.enc ca.Good:=ff.struct (f:=fun p:List Host × List a7 × cP × List Int × Int × Int=>⟨p.1,p.2.1,p.2.2.1,p.2.2.2.1,p.2.2.2.2.1,p.2.2.2.2.2⟩) (QB.cons (QD.cons (Ja.cons (Qu.cons (eL.cons (eL.last rfl) rfl) rfl) rfl) rfl) rfl) (by kernel_rfl) rfl (fun _=>rfl) (fun _=>⟨_,rfl⟩) fun _ h=>h
structure jv where
 di:List bz
 deriving DecidableEq
@[reducible] def jv.enc (a : jv) : DV := .agg [.sl (a.di.map bz.enc)]
def jv.Good (a:jv):Prop:=(a.di.length≤maxLen∧∀ x∈a.di,x.Good)
theorem QH:bU E 55 jv.enc jv.Good:=ff.struct (f:=fun p:List bz=>⟨p⟩) (QF.last rfl) (by kernel_rfl) rfl (fun _=>rfl) (fun _=>⟨_,rfl⟩) fun _ h=>h
structure Step where
 time:Int
 cR:jv
 deriving DecidableEq
@[reducible] def Step.enc (a : Step) : DV := .agg [.int .i64 a.time, .sl (a.cR.di.map bz.enc)]
def Step.Good (a:Step):Prop:=(dQ a.time)∧(a.cR.Good)
theorem QI:bU E 57 Step.enc Step.Good:=ff.struct (f:=fun p:Int × jv=>⟨p.1,p.2⟩) (eL.cons (QH.last rfl) rfl) (by kernel_rfl) rfl (fun _=>rfl) (fun _=>⟨_,rfl⟩) fun _ h=>h
theorem QJ:bU E 30 (fun l:List Step=>DV.sl (l.map Step.enc)) (fun l=>l.length≤maxLen∧∀ x∈l,x.Good):=QI.sl (by kernel_rfl)
structure mT where
 aA:List Host
 jw:List bz
 anchor:cP
 hints:List Int
 deriving DecidableEq
@[reducible] def mT.enc (a : mT) : DV := .agg [.sl (a.aA.map Host.enc), .sl (a.jw.map bz.enc), .str a.anchor.name, .int .i64 a.anchor.type, .int .i64 a.anchor.cD, .sl (a.anchor.data.map Datum.enc), .sl (a.hints.map (.int .i64))]
def mT.Good (a:mT):Prop:=(a.aA.length≤maxLen∧∀ x∈a.aA,x.Good)∧(a.jw.length≤maxLen∧∀ x∈a.jw,x.Good)∧(a.anchor.Good)∧(a.hints.length≤maxLen∧∀ x∈a.hints,dQ x)
structure Claim where
 host:Int
 time:Int
 az:aR
 deriving DecidableEq
@[reducible] def Claim.enc (a : Claim) : DV := .agg [.int .i64 a.host, .int .i64 a.time, .str a.az.aj, .sl (a.az.ab.map Signed.enc)]
def Claim.Good (a:Claim):Prop:=(dQ a.host)∧(dQ a.time)∧(a.az.Good)
theorem Jc:bU E 63 Claim.enc Claim.Good:=ff.struct (f:=fun p:Int × Int × aR=>⟨p.1,p.2.1,p.2.2⟩) (eL.cons (eL.cons (DN.last rfl) rfl) rfl) (by kernel_rfl) rfl (fun _=>rfl) (fun _=>⟨_,rfl⟩) fun _ h=>h
theorem QK:bU E 31 (fun l:List Claim=>DV.sl (l.map Claim.enc)) (fun l=>l.length≤maxLen∧∀ x∈l,x.Good):=Jc.sl (by kernel_rfl)
structure Entry where
 signed:Signed
 az:Text
 upto:Int
 deriving DecidableEq
@[reducible] def Entry.enc (a : Entry) : DV := .agg [.str a.signed.set.name, .int .i64 a.signed.set.type, .int .i64 a.signed.set.cD, .sl (a.signed.set.data.map Datum.enc), .sl (a.signed.sigs.map da.enc), .str a.az, .int .i64 a.upto]
def Entry.Good (a:Entry):Prop:=(a.signed.Good)∧(a.az.length≤maxLen)∧(dQ a.upto)
theorem QL:bU E 241 Entry.enc Entry.Good:=ff.struct (f:=fun p:Signed × Text × Int=>⟨p.1,p.2.1,p.2.2⟩) (Jb.cons (qu.cons (eL.last rfl) rfl) rfl) (by kernel_rfl) rfl (fun _=>rfl) (fun _=>⟨_,rfl⟩) fun _ h=>h
theorem QM:bU E 91 (fun l:List Entry=>DV.sl (l.map Entry.enc)) (fun l=>l.length≤maxLen∧∀ x∈l,x.Good):=QL.sl (by kernel_rfl)
structure Cache where
 list:List Entry
 deriving DecidableEq
@[reducible] def Cache.enc (a : Cache) : DV := .agg [.sl (a.list.map Entry.enc)]
def Cache.Good (a:Cache):Prop:=(a.list.length≤maxLen∧∀ x∈a.list,x.Good)
theorem QN:bU E 93 Cache.enc Cache.Good:=ff.struct (f:=fun p:List Entry=>⟨p⟩) (QM.last rfl) (by kernel_rfl) rfl (fun _=>rfl) (fun _=>⟨_,rfl⟩) fun _ h=>h
structure ml where
 kind:Int
 q:bw
 ab:List Signed
 deriving DecidableEq
@[reducible] def ml.enc (a : ml) : DV := .agg [.int .i64 a.kind, .str a.q.name, .int .i64 a.q.type, .sl (a.ab.map Signed.enc)]
def ml.Good (a:ml):Prop:=(dQ a.kind)∧(a.q.Good)∧(a.ab.length≤maxLen∧∀ x∈a.ab,x.Good)
theorem QO:bU E 96 ml.enc ml.Good:=ff.struct (f:=fun p:Int × bw × List Signed=>⟨p.1,p.2.1,p.2.2⟩) (eL.cons (DO.cons (DM.last rfl) rfl) rfl) (by kernel_rfl) rfl (fun _=>rfl) (fun _=>⟨_,rfl⟩) fun _ h=>h
structure dS where
 time:Int
 addr:Int
 q:bw
 answer:dP
 deriving DecidableEq
@[reducible] def dS.enc (a : dS) : DV := .agg [.int .i64 a.time, .int .i64 a.addr, .str a.q.name, .int .i64 a.q.type, .int .i64 a.answer.kind, .sl (a.answer.ab.map Signed.enc), .str a.answer.cut]
def dS.Good (a:dS):Prop:=(dQ a.time)∧(dQ a.addr)∧(a.q.Good)∧(a.answer.Good)
theorem QP:bU E 41 dS.enc dS.Good:=ff.struct (f:=fun p:Int × Int × bw × dP=>⟨p.1,p.2.1,p.2.2.1,p.2.2.2⟩) (eL.cons (eL.cons (DO.cons (Qz.last rfl) rfl) rfl) rfl) (by kernel_rfl) rfl (fun _=>rfl) (fun _=>⟨_,rfl⟩) fun _ h=>h
theorem QQ:bU E 94 (fun l:List dS=>DV.sl (l.map dS.enc)) (fun l=>l.length≤maxLen∧∀ x∈l,x.Good):=QP.sl (by kernel_rfl)
structure fq where
 q:bw
 time:Int
 cache:Cache
 heard:List dS
 result:ml
 deriving DecidableEq
@[reducible] def fq.enc (a : fq) : DV := .agg [.str a.q.name, .int .i64 a.q.type, .int .i64 a.time, .sl (a.cache.list.map Entry.enc), .sl (a.heard.map dS.enc), .int .i64 a.result.kind, .str a.result.q.name, .int .i64 a.result.q.type, .sl (a.result.ab.map Signed.enc)]
def fq.Good (a:fq):Prop:=(a.q.Good)∧(dQ a.time)∧(a.cache.Good)∧(a.heard.length≤maxLen∧∀ x∈a.heard,x.Good)∧(a.result.Good)
theorem QR:bU E 98 fq.enc fq.Good:=ff.struct (f:=fun p:bw × Int × Cache × List dS × ml=>⟨p.1,p.2.1,p.2.2.1,p.2.2.2.1,p.2.2.2.2⟩) (DO.cons (eL.cons (QN.cons (QQ.cons (QO.last rfl) rfl) rfl) rfl) rfl) (by kernel_rfl) rfl (fun _=>rfl) (fun _=>⟨_,rfl⟩) fun _ h=>h
theorem QS:bU E 32 (fun l:List fq=>DV.sl (l.map fq.enc)) (fun l=>l.length≤maxLen∧∀ x∈l,x.Good):=QR.sl (by kernel_rfl)
structure fL where
 before:ca
 steps:List Step
 cw:List Claim
 iW:List fq
 deriving DecidableEq
@[reducible] def fL.enc (a : fL) : DV := .agg [.sl (a.before.aA.map Host.enc), .sl (a.before.aI.map a7.enc), .str a.before.anchor.name, .int .i64 a.before.anchor.type, .int .i64 a.before.anchor.cD, .sl (a.before.anchor.data.map Datum.enc), .sl (a.before.hints.map (.int .i64)), .int .i64 a.before.bT, .int .i64 a.before.fin, .sl (a.steps.map Step.enc), .sl (a.cw.map Claim.enc), .sl (a.iW.map fq.enc)]
def fL.Good (a:fL):Prop:=(a.before.Good)∧(a.steps.length≤maxLen∧∀ x∈a.steps,x.Good)∧(a.cw.length≤maxLen∧∀ x∈a.cw,x.Good)∧(a.iW.length≤maxLen∧∀ x∈a.iW,x.Good)
theorem QT:bU E 34 fL.enc fL.Good:=ff.struct (f:=fun p:ca × List Step × List Claim × List fq=>⟨p.1,p.2.1,p.2.2.1,p.2.2.2⟩) (QG.cons (QJ.cons (QK.cons (QS.last rfl) rfl) rfl) rfl) (by kernel_rfl) rfl (fun _=>rfl) (fun _=>⟨_,rfl⟩) fun _ h=>h
end Go.Proofs.YtfmdaiojokniiaaGreatDoor.P
end
section
namespace Go.ax
open Go Go.RowKit
def jx {H:Type}:Nat→DataW H→Option (List Value)
 | 0,_=>none
 |_+1,.lit (.int k n)=>some [.int k n]
 |_+1,.lit (.bool b)=>some [.bool b]
 |_+1,.lit (.string s)=>some [.string ⟨s.toArray⟩]
 |n+1,.agg ps=>(ps.mapM (jx n)).map List.flatten
 |_+1,_=>none
def oW (E:Env):Nat→Nat→Bool
 | 0,_=>false
 |m+1,t=>match dc E.T t with
  |none=>false
  |some i=>match i.k with
   | .bool=>Nat.beq i.size 1
   | .int _=>Nat.beq i.size 1
   | .string=>Nat.beq i.size 1
   | .array n e=>Nat.beq i.size (n*cn E e)&&oW E m e
   | .struct fs=>pb E 0 fs i.size&&fs.all fun p=>oW E m p.2
   |_=>false
theorem QU {E:Env} {m t:Nat} (h:oW E m t=true):∃ i,E.T[t]? = some i:=by
 cases m with
 |zero=>cases h
 |succ m =>
  unfold oW at h;split at h
  ·cases h
  ·rename_i i hi; rw [dC] at hi; exact ⟨i,hi⟩
theorem Jd {E:Env} (hE:E.OK) {m t:Nat} (h:oW E m t=true):cn E t=E.P.cellsOf t:=by
 obtain ⟨i,hi⟩:=QU h;exact xo hE hi
section
variable {H:Type}
theorem DP {n:Nat} {cs:List Value}:∀ {L:List (Nat × Nat)} {xs:List (DataW H × List MemPlace)} {o tot:Nat},xs.length=L.length→cs.length=tot →
  (∀ (i:Nat) (p:Nat × Nat),L[i]? = some p→p.1=o+((L.take i).map (·.2)).sum∧p.1+p.2≤tot)→o+(L.map (·.2)).sum=tot →
  (∀ (i:Nat) (p:Nat × Nat) (y:DataW H × List MemPlace),L[i]? = some p→xs[i]? = some y→jx n y.1=some ((cs.drop p.1).take p.2)) →
  ∃ ls,(xs.map (·.1)).mapM (jx n)=some ls∧ls.flatten=cs.drop o
 | [],[],o,tot,_,hc,_,hs,_=>⟨[],rfl,by rw [List.drop_of_length_le (by simp at hs; omega)]; rfl⟩
 |p::L,y::xs,o,tot,hl,hc,ho,hs,hx=>by
  have h0:=ho 0 p rfl;simp at h0;have hy:=hx 0 p y rfl rfl;simp only [List.map_cons,List.sum_cons] at hs
  obtain ⟨ls,k1,k2⟩:=DP (n:=n) (cs:=cs) (L:=L) (xs:=xs) (o:=o+p.2) (tot:=tot) (by simpa using hl) hc (fun i q hq=>by
   have:=ho (i+1) q (by simpa using hq);simp only [List.take_succ_cons,List.map_cons,List.sum_cons] at this
   omega) (by omega) (fun i q z hq hz=>hx (i+1) q z (by simpa using hq) (by simpa using hz))
  refine ⟨(cs.drop p.1).take p.2::ls,?_,?_⟩
  ·simp only [List.map_cons,List.mapM_cons,hy,k1];rfl
  ·rw [List.flatten_cons,k2,h0.1,← List.drop_drop,List.take_append_drop]
 | [],_::_,_,_,h,_,_,_,_=>by simp at h
 |_::_,[],_,_,h,_,_,_,_=>by simp at h
variable {E:Env} {enc:TypeId × Value→H} {w:World} {held:Bool} {sp:Nat→Bool}
theorem Je:∀ {fs:List (Nat × Nat)} {o tot:Nat},pb E o fs tot=true→o+((fs.map fun p=>(p.1,cn E p.2)).map (·.2)).sum=tot ∧
  ∀ (i:Nat) (p:Nat × Nat),(fs.map fun p=>(p.1,cn E p.2))[i]? = some p→p.1=o+(((fs.map fun p=>(p.1,cn E p.2)).take i).map (·.2)).sum∧p.1+p.2≤tot
 | [],o,tot,h=>⟨by simpa using Nat.eq_of_beq_eq_true h,fun i p hp=>by simp at hp⟩
 |q::fs,o,tot,h=>by
  have hle:=(DG h).2 q (List.mem_cons_self ..);simp only [pb,Bool.and_eq_true] at h;obtain ⟨h1,h2⟩:=h;have h1:=Nat.eq_of_beq_eq_true h1;obtain ⟨k1,k2⟩:=Je h2;refine ⟨by simp only [List.map_cons,List.sum_cons]; omega,fun i p hp=>?_⟩;cases i with
  |zero=>simp at hp; subst hp; simp; omega
  |succ i =>
   have:=k2 i p (by simpa using hp);simp only [List.map_cons,List.take_succ_cons,List.sum_cons];omega
theorem QV (hE:E.OK):∀ (fuel m t:Nat) (cs:List Value) (x:DataW H × List MemPlace),oW E m t=true→DataW.trod enc E.P w 0 sp held fuel t cs=some x→jx fuel x.1=some cs:=by
 intro fuel
 induction fuel with
 |zero=>intro m t cs x _ h; simp [DataW.trod] at h
 |succ fuel ih =>
  intro m t cs x aM h;cases m with
  |zero=>cases aM
  |succ m =>
   unfold oW at aM;split at aM
   ·cases aM
   rename_i i hi;have bY:cn E t=i.size:=by simp [cn,hi]
   rw [dC] at hi;obtain ⟨ti,d,g1,g2,g3,g4,-⟩:=cm (hE.types t i hi);split at aM
   ·rename_i eI;have hd:d = .bool:=by rw [eI] at g3; cases d <;> first | rfl | cases g3
    subst hd;obtain ⟨b,rfl,rfl⟩:=DataW.trod_bool g2 h;rfl
   ·rename_i k eI;obtain rfl:=sX (eI.symm.trans g3);obtain ⟨n,rfl,rfl,hw⟩:=DataW.trod_int g2 h;rfl
   ·rename_i eI;obtain rfl:=py (eI.symm.trans g3);obtain ⟨s,rfl,rfl,hl⟩:=DataW.trod_string g2 h;rfl
   ·rename_i n e eI;obtain rfl:=vj (eI.symm.trans g3);simp only [Bool.and_eq_true] at aM;obtain ⟨hs,xp⟩:=aM;have hs:=Nat.eq_of_beq_eq_true hs;obtain ⟨xs,k,hk,rfl,hlen,im,hf⟩:=DataW.trod_array g2 h;cases hk;have DH:=Jd hE xp;rw [← xo hE hi,bY,hs] at hlen;rw [← DH] at hf;have hL:∀ (i:Nat) (p:Nat × Nat),((List.range n).map fun i=>(i*cn E e,cn E e))[i]? = some p→i<n∧p=(i*cn E e,cn E e):=fun i p hp=>by
     have hi:i<n:=by have:=aT hp; simpa using this
     simp [hi] at hp;exact ⟨hi,hp.symm⟩
    have Jf:∀ k,(((List.range n).map fun i=>(i*cn E e,cn E e)).take k).map (·.2)=List.replicate (min k n) (cn E e):=fun k=>by
     apply List.ext_getElem
     ·simp
     ·intro j h1 h2; simp
    obtain ⟨ls,k1,k2⟩:=DP (n:=fuel) (cs:=cs) (L:=(List.range n).map fun i=>(i*cn E e,cn E e)) (xs:=xs) (o:=0) (tot:=n*cn E e) (by simp [im]) hlen (fun i p hp=>by
     obtain ⟨h1,rfl⟩:=hL i p hp;rw [Jf,List.sum_replicate_nat,Nat.min_eq_left (by omega)];refine ⟨by simp,?_⟩;have:(i+1)*cn E e≤n*cn E e:=Nat.mul_le_mul_right _ h1;rw [Nat.add_mul,Nat.one_mul] at this;exact this) (by
      have:=Jf n;rw [List.take_of_length_le (by simp)] at this;rw [this,List.sum_replicate_nat,Nat.min_self,Nat.zero_add]) (fun i p y hp hy=>by
     obtain ⟨h1,rfl⟩:=hL i p hp;have:=hf i h1;rw [hy] at this
     exact ih m e _ _ xp this)
    rw [List.drop_zero] at k2;simp only [jx,k1,Option.map_some,k2]
   ·rename_i fs eI;obtain ⟨fl,rfl,rfl⟩:=om (eI.symm.trans g3);simp only [Bool.and_eq_true] at aM;obtain ⟨z6,aH⟩:=aM;obtain ⟨xs,n,hn,rfl,hlen,im,hf⟩:=DataW.trod_struct g2 h;cases hn;rw [← xo hE hi,bY] at hlen;obtain ⟨s1,s2⟩:=Je z6
    obtain ⟨ls,k1,k2⟩:=DP (n:=fuel) (cs:=cs) (xs:=xs) (by simp [im]) hlen s2 s1 (fun i p y hp hy=>by
     simp only [List.map_map,List.getElem?_map,Option.map_eq_some_iff] at hp;obtain ⟨f,iA,rfl⟩:=hp;have xr:=List.all_eq_true.1 aH (f.offset,f.type) (List.mem_map.2 ⟨f,List.mem_of_getElem? iA,rfl⟩);have:=hf i f (by simpa using iA);rw [hy,← Jd hE xr] at this
     exact ih m _ _ _ xr this)
    rw [List.drop_zero] at k2;simp only [jx,k1,Option.map_some,k2]
   ·cases aM
end
def sn:List DV→List Value→Bool
 | [],[]=>true
 | .int k n::l,.int k' m::r=>IntKind.same k k'&&decide (n=m)&&sn l r
 | .bool a::l,.bool b::r=>(a==b)&&sn l r
 | .str a::l,.string b::r=>decide (b=⟨a.toArray⟩)&&sn l r
 |_,_=>false
theorem Jg {bad:Nat→Prop} {w:World}:∀ {ds:List DV} {vs:List Value},sn ds vs=true→iC bad w ds vs
 | [],[],_=>⟨rfl,fun j x v hx=>by simp at hx⟩
 |d::ds,v::vs,h=>by
  have key:VD bad w d v∧sn ds vs=true:=by
   unfold sn at h;split at h
   ·rename_i e1 e2; cases e1
   ·rename_i e1 e2;cases e1; cases e2;simp only [Bool.and_eq_true,decide_eq_true_eq] at h;obtain ⟨⟨h1,rfl⟩,h3⟩:=h;obtain rfl:=px h1;exact ⟨.int _ _,h3⟩
   ·rename_i e1 e2;cases e1; cases e2;simp only [Bool.and_eq_true,beq_iff_eq] at h;obtain ⟨rfl,h3⟩:=h;exact ⟨.bool _,h3⟩
   ·rename_i e1 e2;cases e1; cases e2;simp only [Bool.and_eq_true,decide_eq_true_eq] at h;obtain ⟨rfl,h3⟩:=h;exact ⟨.str _,h3⟩
   ·cases h
  have ih:=Jg (bad:=bad) (w:=w) key.2;refine ⟨by simp [ih.1],fun j x u hx hu=>?_⟩;cases j with
  |zero=>simp at hx hu; subst hx; subst hu; exact key.1
  |succ j=>exact ih.2 j x u (by simpa using hx) (by simpa using hu)
 | [],_::_,h=>by cases h
 |d::_,[],h=>by cases d <;> cases h
theorem Jh {P:Program} {w:World} {name:String} {d:DataW Unit}:∀ {laid:List (String × DataW Unit)} {ps:List MemPlace},DataW.LaidVars P w laid ps→(name,d)∈laid →
  ∃ g t cs fuel p,P.globalNamed name=some g∧(P.globals[g]?).map (·.type)=some t∧w.var? P name=some cs∧DataW.trod (fun _=>()) P w 0 (fun _=>true) false fuel t cs.toList=some (d,p)
 | [],_,_,h=>by simp at h
 |(n,d')::r,ps,hv,h=>by
  obtain ⟨g,t,cs,fuel,p,q,h1,h2,h3,h4,h5,-⟩:=hv;rcases List.mem_cons.1 h with h | h
  ·cases h; exact ⟨g,t,cs,fuel,p,h1,h2,h3,h4⟩
  ·exact Jh h5 h
theorem QW {H:Type}:∀ {n:Nat} {d:DataW H} {cs:List Value},jx n d=some cs→jx (n+1) d=some cs:=by
 intro n
 induction n with
 |zero=>intro d cs h; cases h
 |succ n ih =>
  intro d cs h;unfold jx at h;split at h
  ·cases h
  ·exact h
  ·exact h
  ·exact h
  ·rename_i m ps e;cases e;simp only [Option.map_eq_some_iff] at h;obtain ⟨ls,h1,rfl⟩:=h;have:∀ {ps:List (DataW H)} {ls:List (List Value)},ps.mapM (jx n)=some ls→ps.mapM (jx (n+1))=some ls:=by
    intro ps
    induction ps with
    |nil=>intro ls h; exact h
    |cons p ps QX =>
     intro ls h;simp only [List.mapM_cons,Option.bind_eq_bind,Option.bind_eq_some_iff] at h ⊢;obtain ⟨a,h1,b,h2,h3⟩:=h;exact ⟨a,ih h1,b,QX h2,h3⟩
   have e2:=this h1;show (ps.mapM (jx (n+1))).map List.flatten=_;rw [e2];rfl
  ·cases h
theorem DQ {H:Type} {n:Nat} {d:DataW H} {cs:List Value} (h:jx n d=some cs):∀ k,jx (n+k) d=some cs
 | 0=>h
 |k+1=>QW (DQ h k)
theorem QY {E:Env} (hE:E.OK) {W:World} {laid:List (String × DataW Unit)} {name:String} {g t m n:Nat} {d:DataW Unit} {e:DV} {vs:List Value} (hl:laidMet E.P laid W) (hm:(name,d)∈laid) (hg:E.P.globalNamed name=some g) (ht:(E.P.globals[g]?).map (·.type)=some t)
  (aM:oW E m t=true) (hv:jx n d=some vs) (he:sn e.cells vs=true) (aJ:e.cells≠[]) {ay:Nat→Prop} (vz:¬ ay g):VR ⟨fun _=>none,[],ay,W⟩ (.bJ e 0) (.pointer (some ⟨g,0,none⟩)):=by
 obtain ⟨ps,QZ,-,-⟩:=hl;obtain ⟨g',t',cs,fuel,p,h1,h2,h3,h4⟩:=Jh QZ hm;rw [hg] at h1; cases h1;rw [ht] at h2; cases h2;have h5:=QV hE fuel m t _ _ aM h4;have h6:vs=cs.toList:=by
  have a:=DQ hv fuel;have b:=DQ h5 n;rw [Nat.add_comm] at b;exact Option.some.inj (a.symm.trans b)
 have gm:=Jg (bad:=ay) (w:=W) he;rw [h6] at gm;have dq:∀ (j:Nat) (v:Value),cs.toList[j]? = some v→W.cell? ⟨g,0+j,none⟩=some v:=fun j v hj=>by
  rw [Nat.zero_add];have:=World.var?_cell hg h3 j;rw [this]
  simpa using hj
 have dX:∀ (j:Nat) (x:DV),e.cells[j]? = some x→∃ v,cs.toList[j]? = some v:=fun j x hx=>by
  have:=aT hx;rw [gm.1] at this;exact ⟨cs.toList[j],by simp [this]⟩
 have:=VR.bJ (c:=⟨fun _=>none,[],ay,W⟩) e 0 g 0 (fun j=>(cs.toList[j]?).getD undef) (fun hb=>vz (ta.1 hb)) aJ (fun j x hx=>by
   obtain ⟨v,hv⟩:=dX j x hx;rw [hv];exact dq j v hv) (fun j x hx=>by
   obtain ⟨v,hv⟩:=dX j x hx;rw [hv]
   exact tc (gm.2 j x v hx hv))
 exact this
end Go.ax
end
section
namespace Go.Proofs.YtfmdaiojokniiaaGreatDoor
open Go.ChangeShapes Go.WideShapes Go.ChangeAt Go.RowKit
theorem Tryz.own:ownKnob Tryz.prog.godebug=none:=by kernel_rfl
theorem Tryz.laidOut:laidOutB Tryz.prog=true:=by kernel_rfl
theorem Ext.trodAll {H:Type} {enc:TypeId × Value→H} {P:Program} (hl:laidOutB P=true) {W W':World} (hx:Ext W W') :
  ∀ {ts:List TypeId} {vs:List Value} {ds:List (DataW H)} {ps:List MemPlace},(∀ t∈ts,P.readableRec t=true∧t<P.types.size)→(∀ x∈ps,x.block<W.heap.size) →
   DataW.TrodAll enc P W 0 (fun _=>true) true ts vs ds ps→DataW.TrodAll enc P W' 0 (fun b=>decide (b<W.heap.size)) true ts vs ds ps
 | [],_,_,_,_,_,h=>by
  obtain ⟨rfl,rfl,rfl⟩:=trodAll_nil h;exact h
 |t::ts,_,_,_,hr,ai,h=>by
  obtain ⟨v,I9,d,I',a,b,rfl,rfl,rfl,h1,h2⟩:=trodAll_cons h;obtain ⟨r1,r2⟩:=hr t (List.mem_cons_self ..);exact ⟨a,b,Below.trod hl r1 r2 h1 hx.below (fun x hx=>ai x (List.mem_append_left _ hx)),Ext.trodAll hl hx (fun u hu=>hr u (List.mem_cons_of_mem _ hu)) (fun x hx=>ai x (List.mem_append_right _ hx)) h2,rfl⟩
theorem Q0 {H:Type} {enc:TypeId × Value→H} {P:Program} {f:Func} {s:ChangeSpec} {W W':World} {args:Array Value} {ds gs:List (DataW H)} {before:List MemPlace} {tb:TypeId} (hl:laidOutB P=true)
  (hr:∀ t∈f.params.toList,P.readableRec t=true∧t<P.types.size) (hv:s.vars=[]) (ht:f.resultTypes = #[tb]) (hb:P.underlying tb=some .bool)
  (tR:(s.fn H (ds++[])).results=[.lit (.bool true)]) (ib:(s.fn H (ds++[])).args=ds) (Q1:(s.fn H (ds++[])).vars=[])
  (hW:DataW.Whole enc P f.params.toList s.vars false W args.toList ds gs before) (hx:Ext W W'):s.post enc P f false true false false W args (.bool true) W':=by
 have xt:=hW;obtain ⟨p,q,hA,hV,rfl,yW,dg⟩:=hW;rw [hv] at hV;obtain ⟨rfl,rfl⟩:=trodVars_none hV;simp only [List.append_nil] at xt;refine ⟨ds,[],p,[],p,[],xt,?_,?_,?_,?_,fun h=>by cases h⟩
 ·rw [tR,ht];exact trodAll_cons_mk (shut_bool hb _) trodAll_mk0
 ·rw [ib];exact Ext.trodAll hl hx hr (fun x hx=>by simpa using xt.lt x hx) hA
 ·rw [Q1,hv]; rfl
 ·exact hx.below.frame _
end Go.Proofs.YtfmdaiojokniiaaGreatDoor
end
section
set_option maxRecDepth 100000
namespace Go.Proofs.YtfmdaiojokniiaaGreatDoor
open Go Go.ax Go.ChangeShapes Go.WideShapes Go.ChangeAt Go.RowKit
theorem Ji {H:Type} {enc:TypeId × Value→H} {P:Program} {W:World}:∀ {ts:List TypeId} {vs:List Value} {ds:List (DataW H)} {ps:List MemPlace} {held:Bool},DataW.TrodAll enc P W 0 (fun _=>true) held ts vs ds ps→ds.length=ts.length
 | [],_,_,_,_,h=>by obtain ⟨rfl,rfl,rfl⟩:=trodAll_nil h; rfl
 |t::ts,_,_,_,_,h=>by
  obtain ⟨v,I9,d,I',a,b,rfl,rfl,rfl,h1,h2⟩:=trodAll_cons h;simp [Ji h2]
theorem Q2 {H:Type} {enc:TypeId × Value→H} {ag:FuncId} {fn:Func} {s:ChangeSpec} {W:World} {base:Nat} {args:Array Value} {ds gs:List (DataW H)} {before:List MemPlace} {tb:TypeId}
  (bD:∀ (j:Nat) t v,fn.params[j]? = some t→args[j]? = some v→Value.okWide Tryz.prog W .any base t v)
  (hW:DataW.Whole enc Tryz.prog fn.params.toList s.vars false W args.toList ds gs before) (hG:qU E.G (fun _=>False) W)
  (aM:fn.params.toList.all (nW E 20)=true) (hr:∀ t∈fn.params.toList,Tryz.prog.readableRec t=true∧t<Tryz.prog.types.size) (hv:s.vars=[]) (ht:fn.resultTypes = #[tb]) (hb:Tryz.prog.underlying tb=some .bool)
  (hs:∀ ds:List (DataW H),ds.length=fn.params.toList.length→(s.fn H (ds++[])).results=[.lit (.bool true)]∧(s.fn H (ds++[])).args=ds∧(s.fn H (ds++[])).vars=[])
  (hc:∀ xs,sm E fn.params.toList xs→aq E ag xs (· = .bool true)) :
  Calls Tryz.prog ag args W fun e W'=>∃ v,e = .returned v∧s.post enc Tryz.prog fn false true false false W args v W':=by
 have xt:=hW;obtain ⟨p,q,hA,hV,rfl,yW,dg⟩:=hW;have Q3:∀ (j:Nat) t v,fn.params.toList[j]? = some t→args.toList[j]? = some v→Value.okWide E.P W .any base t v:=fun j t v ht hv=>bD j t v (by rwa [Array.getElem?_toList] at ht) (by rwa [Array.getElem?_toList] at hv);obtain ⟨xs,h1,h2⟩:=I8 af aM Q3 hA;obtain ⟨s1,s2,s3⟩:=hs ds (Ji hA);have gK:=hc xs h2;unfold aq at gK;have:=gK.2 (fun _=>False) W args.toList (fun _ h=>h.elim) hG h1;rw [Array.toArray_toList] at this;refine this.mono fun e W' Q4=>?_;obtain ⟨v,r,rfl,rfl,fw,hx⟩:=Q4;cases fw;exact ⟨_,rfl,Q0 Tryz.laidOut hr hv ht hb s1 s2 s3 xt hx⟩
theorem DR {E:Env} {t:Nat} {ts:List Nat} {xs:List DV} (h:sm E (t::ts) xs):∃ x r,xs=x::r∧DK E t x∧sm E ts r:=by
 cases xs with
 |nil=>exact h.elim
 |cons x r=>exact ⟨x,r,rfl,h⟩
theorem Q5 {P:Program} {l:List TypeId} (h:(l.all fun t=>P.readableRec t&&Nat.blt t P.types.size)=true):∀ t∈l,P.readableRec t=true∧t<P.types.size:=fun t ht=>by
 have:=List.all_eq_true.1 h t ht;rw [Bool.and_eq_true] at this;exact ⟨this.1,vK this.2⟩
theorem Q6 {laid : List (String × DataW Unit)} {W : World} (hl : laidMet Tryz.prog laid W) (hm : ("nameplan/record.rules", Rows.laid_nameplan_record_rules) ∈ laid) : qU E.G (fun _ => False) W := by
 intro g e hg;have:(g,e)=(0,zg):=by
  have:(g,e)∈CF:=hg
  simpa [CF] using this
 cases this;exact QY af (n:=8) (m:=8) (t:=326) (vs:=(jx 8 (Rows.laid_nameplan_record_rules (H:=Unit))).getD []) hl hm (by kernel_rfl) (by kernel_rfl) (by kernel_rfl) (by kernel_rfl) (by kernel_rfl) (by simp [zg,DV.cells]) (fun h=>h)
end Go.Proofs.YtfmdaiojokniiaaGreatDoor
end
