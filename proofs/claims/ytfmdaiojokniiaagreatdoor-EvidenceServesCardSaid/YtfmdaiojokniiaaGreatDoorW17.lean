/- Several texts of mine, one behind the other. Conditions: as each says. -/
import Derived.Test.YtfmdaiojokniiaaGreatDoorW5
import Derived.ChangeArms
import Derived.ProofKit
import Derived.OpenShut
import Derived.Deep.DeepHandedRow
import Derived.Lib.LaidTab
set_option linter.unusedVariables false
set_option linter.unusedSimpArgs false
section
namespace Go.aw
open Go Go.RowKit
def cm (E:Env) (t:Nat):Nat:=match db E.T t with
 |some i=>i.size
 |none=>0
def gK (E:Env) (t:Nat):TK:=match db E.T t with
 |some i=>i.k
 |none => .other
def nD (k:TK) (x:DV):Prop:=match k with
 | .struct _=>∃ cs,x = .agg cs
 |_=>x.cells=[x]
def ey (E:Env):Nat→Nat→List DV→Prop
 | 0,_,_=>False
 |n+1,t,ds=>match gK E t with
  | .bool=>∃ b,ds=[.bool b]
  | .int k=>∃ m,ds=[.int k m]∧(Lit.int k m).wf=true
  | .string=>∃ l:List UInt8,ds=[.str l]∧l.length≤maxLen
  | .slice e=>∃ l:List DV,ds=[.sl l]∧l.length≤maxLen∧∀ x∈l,ey E n e x.cells∧nD (gK E e) x
  | .struct fs=>ds.length=cm E t∧∀ p∈fs,ey E n p.2 ((ds.drop p.1).take (cm E p.2))
  |_=>False
def oO (E:Env):Nat→List (Nat × Nat)→Nat→Bool
 |o,[],n=>Nat.beq o n
 |o,p::l,n=>Nat.beq p.1 o&&oO E (o+cm E p.2) l n
def nE (E:Env):Nat→Nat→Bool
 | 0,_=>false
 |m+1,t=>match db E.T t with
  |none=>false
  |some i=>match i.k with
   | .bool=>Nat.beq i.size 1
   | .int _=>Nat.beq i.size 1
   | .string=>Nat.beq i.size 1
   | .slice e=>Nat.beq i.size 1&&Nat.blt 0 (cm E e)&&nE E m e
   | .struct fs=>oO E 0 fs i.size&&fs.all fun p=>nE E m p.2
   |_=>false
theorem wU {E:Env} (hE:E.OK) {t:Nat} {i:bh} (hi:E.T[t]? = some i):cm E t=E.P.cellsOf t:=by
 obtain ⟨ti,d,g1,g2,g3,g4,-⟩:=cg (hE.types t i hi);simp [cm,dA,hi,Program.cellsOf,g1,g4]
theorem Ii {E:Env} {m t:Nat} (h:nE E m t=true):∃ i,E.T[t]? = some i:=by
 cases m with
 |zero=>cases h
 |succ m =>
  unfold nE at h;split at h
  ·cases h
  ·rename_i i hi; rw [dA] at hi; exact ⟨i,hi⟩
theorem Ij {E:Env} (hE:E.OK) {m t:Nat} (h:nE E m t=true):cm E t=E.P.cellsOf t:=by
 obtain ⟨i,hi⟩:=Ii h;exact wU hE hi
theorem gV.PJ {bad:Nat→Prop} {w:World} {a b:List DV} {u v:List Value} (h1:gV bad w a u) (h2:gV bad w b v):gV bad w (a++b) (u++v):=by
 refine ⟨by simp [h1.1,h2.1],fun j x y hx hy=>?_⟩;rcases Nat.lt_or_ge j a.length with hj | hj
 ·rw [List.getElem?_append_left hj] at hx;rw [List.getElem?_append_left (by rw [← h1.1]; exact hj)] at hy;exact h1.2 j x y hx hy
 ·rw [List.getElem?_append_right hj] at hx;rw [List.getElem?_append_right (by rw [← h1.1]; exact hj),← h1.1] at hy;exact h2.2 _ x y hx hy
section
variable {E:Env} {H:Type} {enc:TypeId × Value→H} {w:World} {held:Bool}
theorem Ik {n:Nat} {cs:List Value}:∀ {fs:List (Nat × Nat)} {o tot:Nat},oO E o fs tot=true→cs.length=tot→o≤tot →
  (∀ p∈fs,∃ ds,ey E n p.2 ds∧gV (fun _=>False) w ds ((cs.drop p.1).take (cm E p.2))∧∀ v∈(cs.drop p.1).take (cm E p.2),v.oneCell'=true) →
  (∀ p∈fs,p.1+cm E p.2≤tot) →
  ∃ ds,ds.length=tot - o∧gV (fun _=>False) w ds (cs.drop o)∧(∀ v∈cs.drop o,v.oneCell'=true)∧∀ p∈fs,o≤p.1∧ey E n p.2 ((ds.drop (p.1 - o)).take (cm E p.2))
 | [],o,tot,h,hl,ho,_,_=>by
  obtain rfl:o=tot:=Nat.eq_of_beq_eq_true h;rw [List.drop_of_length_le (by omega)];exact ⟨[],by simp,⟨rfl,fun j x v hx=>by simp at hx⟩,fun v hv=>by simp at hv,fun p hp=>by simp at hp⟩
 |p::fs,o,tot,h,hl,ho,hf,hb=>by
  simp only [oO,Bool.and_eq_true] at h;obtain ⟨h1,h2⟩:=h;have h1:=Nat.eq_of_beq_eq_true h1;have hle:=hb p (List.mem_cons_self ..);rw [h1] at hle;obtain ⟨d1,k1,k2,k3⟩:=hf p (List.mem_cons_self ..);rw [h1] at k2 k3;obtain ⟨d2,q1,q2,q3,q4⟩:=Ik h2 hl hle (fun p hp=>hf p (List.mem_cons_of_mem _ hp)) (fun p hp=>hb p (List.mem_cons_of_mem _ hp));have ky:d1.length=cm E p.2:=by rw [k2.1]; simp; omega
  have Il:cs.drop o=(cs.drop o).take (cm E p.2)++cs.drop (o+cm E p.2):=by
   rw [← List.drop_drop,List.take_append_drop]
  refine ⟨d1++d2,by simp [ky,q1]; omega,by rw [Il]; exact k2.PJ q2,fun v hv=>?_,fun p' hp=>?_⟩
  ·rw [Il] at hv;rcases List.mem_append.1 hv with hv | hv
   ·exact k3 v hv
   ·exact q3 v hv
  ·rcases List.mem_cons.1 hp with rfl | hp
   ·refine ⟨by omega,?_⟩;rw [h1,Nat.sub_self,List.drop_zero,List.take_append_of_le_length (by omega),List.take_of_length_le (by omega)];exact k1
   ·obtain ⟨r1,r2⟩:=q4 p' hp;refine ⟨by omega,?_⟩;rw [List.drop_append,List.drop_of_length_le (by omega),List.nil_append,show p'.1 - o - d1.length=p'.1 - (o+cm E p.2) by omega];exact r2
theorem C':∀ {fs:List (Nat × Nat)} {o tot:Nat},oO E o fs tot=true→o≤tot∧∀ p∈fs,p.1+cm E p.2≤tot
 | [],o,tot,h=>⟨Nat.le_of_eq (Nat.eq_of_beq_eq_true h),fun p hp=>by simp at hp⟩
 |p::fs,o,tot,h=>by
  simp only [oO,Bool.and_eq_true] at h;obtain ⟨h1,h2⟩:=h;have h1:=Nat.eq_of_beq_eq_true h1;obtain ⟨k1,k2⟩:=C' h2;refine ⟨by omega,fun p' hp=>?_⟩;rcases List.mem_cons.1 hp with rfl | hp
  ·omega
  ·exact k2 p' hp
theorem PK (hE:E.OK):∀ (fuel m t:Nat) (cs:List Value) (x:DataW H × List MemPlace),nE E m t=true→DataW.trod enc E.P w 0 (fun _=>true) held fuel t cs=some x →
  ∃ ds,ey E fuel t ds∧gV (fun _=>False) w ds cs∧∀ v∈cs,v.oneCell'=true:=by
 intro fuel
 induction fuel with
 |zero=>intro m t cs x _ h; simp [DataW.trod] at h
 |succ fuel ih =>
  intro m t cs x aJ h;cases m with
  |zero=>cases aJ
  |succ m =>
   unfold nE at aJ;split at aJ
   ·cases aJ
   rename_i i hi;have hk:gK E t=i.k:=by simp [gK,hi]
   have bK:cm E t=i.size:=by simp [cm,hi]
   rw [dA] at hi;obtain ⟨ti,d,g1,g2,g3,g4,-⟩:=cg (hE.types t i hi);have one:∀ {y:DV} {v:Value},VD (fun _=>False) w y v→v.oneCell'=true→cs=[v]→gV (fun _=>False) w [y] cs∧∀ v∈cs,v.oneCell'=true:=fun {y v} h1 h2 h3=>by
    subst h3;refine ⟨⟨rfl,fun j x u hx hu=>?_⟩,fun u hu=>by simp at hu; subst hu; exact h2⟩;cases j with
    |zero=>simp at hx hu; subst hx; subst hu; exact h1
    |succ j=>simp at hx
   split at aJ
   ·rename_i eD;have hd:d = .bool:=by rw [eD] at g3; cases d <;> first | rfl | cases g3
    subst hd;obtain ⟨b,rfl,-⟩:=DataW.trod_bool g2 h;exact ⟨[.bool b],by unfold ey; rw [hk,eD]; exact ⟨b,rfl⟩,one (.bool b) rfl rfl⟩
   ·rename_i k eD;obtain rfl:=sB (eD.symm.trans g3);obtain ⟨n,rfl,-,hw⟩:=DataW.trod_int g2 h;exact ⟨[.int k n],by unfold ey; rw [hk,eD]; exact ⟨n,rfl,hw⟩,one (.int k n) rfl rfl⟩
   ·rename_i eD;obtain rfl:=o6 (eD.symm.trans g3);obtain ⟨s,rfl,-,hl⟩:=DataW.trod_string g2 h;refine ⟨[.str s.data.toList],?_,one (v := .string s) ?_ rfl rfl⟩
    ·unfold ey; rw [hk,eD]; exact ⟨_,rfl,by rw [Array.length_toList]; exact hl⟩
    ·have:=VD.str (bad:=fun _=>False) (w:=w) s.data.toList
     simpa using this
   ·rename_i e eD;obtain rfl:=jO (eD.symm.trans g3);simp only [Bool.and_eq_true] at aJ;obtain ⟨⟨-,cB⟩,wV⟩:=aJ;have cB:=vc cB;have Da:=Ij hE wV;rcases DataW.trod_slice g2 h with ⟨rfl,-⟩ | ⟨a,len,cap,elems,rest,n,hn,rfl,-,-,PL,Db,dB,Dc,sF,-⟩
    ·exact ⟨[.sl []],by unfold ey; rw [hk,eD]; exact ⟨[],rfl,Nat.zero_le _,fun x hx=>by simp at hx⟩,one .slnil rfl rfl⟩
    cases hn;obtain ⟨wW,qT⟩:=sF rfl;rw [← Da] at Dc qT;have spot:0<cap→a.spot=none:=fun hc=>by
     have cT:∀ {q:Option (DataW H × List MemPlace)},(w.cells? 0 (a.add 0) (cm E e)).bind (DataW.trod enc E.P w 0 (fun _=>true) held fuel e)=q→q.isSome→a.spot=none:=fun {q} h1 h2=>by
      cases jT:w.cells? 0 (a.add 0) (cm E e) with
      |none=>rw [jT] at h1; subst h1; cases h2
      |some l =>
       obtain ⟨-,hl,cT⟩:=World.cells?_some jT;have:=cT 0 cB;rw [List.getElem?_eq_getElem (by omega)] at this;cases hs:a.spot with
       |none=>rfl
       |some k =>
        have iS:((a.add 0).add 0).spot.isSome=true:=by simp [Addr.add,hs]
        simp only [World.cell?,iS,if_true] at this;split at this <;> cases this
     by_cases h0:0<len
     ·have:=Dc 0 h0;rw [Nat.zero_mul] at this;exact cT this (by simp [dB,h0])
     ·obtain rfl:len=0:=by omega
      have:=qT 0 (by omega);rw [Nat.zero_add,Nat.zero_mul] at this;exact cT this (by simp [wW]; omega)
    by_cases wD:cap=0
    ·subst wD;obtain rfl:len=0:=by omega
     exact ⟨[.sl []],by unfold ey; rw [hk,eD]; exact ⟨[],rfl,Nat.zero_le _,fun x hx=>by simp at hx⟩,one (.ji a) rfl rfl⟩
    have zq:=spot (by omega);obtain ⟨blk,off,sp⟩:=a;cases zq;have key:∀ i,∃ x:DV,i<len→ey E fuel e x.cells∧nD (gK E e) x∧x.cells.length=cm E e∧∀ (j:Nat) (y:DV),x.cells[j]? = some y→∃ v,w.cell? ⟨blk,off+(i*cm E e+j),none⟩=some v∧v.oneCell'=true∧VD (fun _=>False) w y v:=fun i=>by
     by_cases hi:i<len
     case neg=>exact ⟨.undef,fun h=>absurd h hi⟩
     have he:=Dc i hi;cases jT:w.cells? 0 ((⟨blk,off,none⟩:Addr).add (i*cm E e)) (cm E e) with
     |none=>rw [jT] at he; simp [dB,hi] at he
     |some l =>
      rw [jT] at he;obtain ⟨-,hl,cT⟩:=World.cells?_some jT;have sR:DataW.trod enc E.P w 0 (fun _=>true) held fuel e l=some (elems[i]'(by omega)):=by
       rw [← List.getElem?_eq_getElem (by omega)]; exact he
      obtain ⟨ds,k1,k2,k3⟩:=ih m e l _ wV sR;have tX:ds.length=cm E e:=by rw [k2.1,hl]
      have Im:∀ (j:Nat) (y:DV),ds[j]? = some y→∃ v,w.cell? ⟨blk,off+(i*cm E e+j),none⟩=some v∧v.oneCell'=true∧VD (fun _=>False) w y v:=fun j y hy=>by
       have hj:=aP hy;have lk:j<l.length:=by rw [← k2.1]; exact hj
       have:=cT j (by omega);rw [List.getElem?_eq_getElem lk] at this;refine ⟨l[j],?_,k3 _ (List.getElem_mem lk),k2.2 j y _ hy (by simp [lk])⟩;rw [lj,lj,Nat.add_assoc] at this;exact this
      by_cases Dd:∃ fs,gK E e = .struct fs
      ·obtain ⟨fs,gw⟩:=Dd;exact ⟨.agg ds,fun _=>⟨k1,by rw [gw]; exact ⟨ds,rfl⟩,tX,Im⟩⟩
      ·obtain ⟨y,hy,zr⟩:∃ y,ds=[y]∧y.cells=[y]:=by
        unfold ey at k1;cases fuel with
        |zero=>exact k1.elim
        |succ fuel =>
         simp only at k1;split at k1
         ·obtain ⟨b,rfl⟩:=k1; exact ⟨_,rfl,rfl⟩
         ·obtain ⟨b,rfl,-⟩:=k1; exact ⟨_,rfl,rfl⟩
         ·obtain ⟨b,rfl,-⟩:=k1; exact ⟨_,rfl,rfl⟩
         ·obtain ⟨b,rfl,-⟩:=k1; exact ⟨_,rfl,rfl⟩
         ·rename_i fs gw; exact absurd ⟨fs,gw⟩ Dd
         ·exact k1.elim
       subst hy;refine ⟨y,fun _=>⟨by rw [zr]; exact k1,?_,by rw [zr]; exact tX,by rw [zr]; exact Im⟩⟩;unfold nD;split
       ·rename_i fs gw; exact absurd ⟨fs,gw⟩ Dd
       ·exact zr
    let g:Nat→DV:=fun i=>Classical.choose (key i)
    have hg:∀ i,i<len→ey E fuel e (g i).cells∧nD (gK E e) (g i)∧(g i).cells.length=cm E e∧∀ (j:Nat) (y:DV),(g i).cells[j]? = some y→∃ v,w.cell? ⟨blk,off+(i*cm E e+j),none⟩=some v∧v.oneCell'=true∧VD (fun _=>False) w y v:=fun i=>Classical.choose_spec (key i);have dQ:∀ (i:Nat) (y:DV),((List.range len).map g)[i]? = some y→i<len∧y=g i:=fun i y hy=>by
     have hi:i<len:=by have:=aP hy; simpa using this
     simp [hi] at hy;exact ⟨hi,hy.symm⟩
    refine ⟨[.sl ((List.range len).map g)],?_,one (v := .slice (some ⟨blk,off,none⟩) len cap) ?_ rfl rfl⟩
    ·unfold ey;rw [hk,eD];refine ⟨_,rfl,by simp; omega,fun x hx=>?_⟩;obtain ⟨i,hi⟩:=List.getElem?_of_mem hx;obtain ⟨h1,rfl⟩:=dQ i x hi;exact ⟨(hg i h1).1,(hg i h1).2.1⟩
    ·have:=VD.sl (bad:=fun _=>False) (w:=w) ((List.range len).map g) blk off cap (cm E e) (fun i j=>(w.cell? ⟨blk,off+(i*cm E e+j),none⟩).getD undef) (fun _ h=>h) cB (by simpa using PL)
      (fun i y hy=>by obtain ⟨h1,rfl⟩:=dQ i y hy; exact (hg i h1).2.2.1)
      (fun i j y z hy hz=>by obtain ⟨h1,rfl⟩:=dQ i y hy; obtain ⟨v,q1,q2,q3⟩:=(hg i h1).2.2.2 j z hz; rw [q1]; rfl)
      (fun i j y z hy hz=>by obtain ⟨h1,rfl⟩:=dQ i y hy; obtain ⟨v,q1,q2,q3⟩:=(hg i h1).2.2.2 j z hz; rw [q1]; exact q3)
      (fun i j y z hy hz=>by obtain ⟨h1,rfl⟩:=dQ i y hy; obtain ⟨v,q1,q2,q3⟩:=(hg i h1).2.2.2 j z hz; rw [q1]; exact q2)
     simpa using this
   ·rename_i fs eD;obtain ⟨fl,rfl,rfl⟩:=nV (eD.symm.trans g3);simp only [Bool.and_eq_true] at aJ;obtain ⟨zt,a7⟩:=aJ;obtain ⟨xs,n,hn,-,hlen,mh,hf⟩:=DataW.trod_struct g2 h;cases hn;rw [← wU hE hi,bK] at hlen;obtain ⟨-,hle⟩:=C' zt
    obtain ⟨ds,r1,r2,r3,r4⟩:=Ik (n:=fuel) (w:=w) (cs:=cs) zt hlen (Nat.zero_le _) (fun p hp=>by
     obtain ⟨f,uW,rfl⟩:=List.mem_map.1 hp;have wX:=List.all_eq_true.1 a7 _ hp;obtain ⟨i',bS⟩:=List.getElem?_of_mem uW;have VG:fl.toList.toArray[i']? = some f:=by simpa using bS
     have:=hf i' f (by simpa using bS);have ah:i'<xs.length:=by rw [mh]; have:=aP bS; simpa using this
     rw [List.getElem?_eq_getElem ah] at this;obtain ⟨ds,k1,k2,k3⟩:=ih m f.type _ _ wX this;rw [← Ij hE wX] at k2 k3
     exact ⟨ds,k1,k2,k3⟩) hle
    rw [List.drop_zero] at r2 r3;refine ⟨ds,?_,r2,r3⟩;unfold ey;rw [hk,eD];exact ⟨by rw [r1,bK]; rfl,fun p hp=>(r4 p hp).2⟩
   ·cases aJ
end
end Go.aw
end
section
namespace Go.aw
open Go Go.RowKit
variable {E:Env} {n t:Nat} {ds:List DV}
structure cD (E:Env) (t:Nat) {α:Type} (enc:α→DV) (fR:α→Prop):Prop where
 dec:∀ {m ds},ey E m t ds→∃ a,ds=(enc a).cells∧fR a
 elem:∀ {x a},nD (gK E t) x→x.cells=(enc a).cells→x=enc a
variable {α β:Type} {enc:α→DV} {VH:β→DV} {fR:α→Prop} {zu:β→Prop}
theorem cD.get (c:cD E t enc fR) {x:DV} (h:∃ m,ey E m t x.cells) (he:nD (gK E t) x):∃ a,x=enc a∧fR a:=by
 obtain ⟨m,h⟩:=h;obtain ⟨a,h1,h2⟩:=c.dec h;exact ⟨a,c.elem he h1,h2⟩
theorem cD.of {k:TK} (hk:gK E t=k) (hn:∀ fs,k ≠ .struct fs) (h1:∀ a,(enc a).cells=[enc a]) (h:∀ m ds,ey E (m+1) t ds→∃ a,ds=[enc a]∧fR a):cD E t enc fR:=by
 refine ⟨fun {m ds} hd=>?_,fun {x a} he hx=>?_⟩
 ·cases m with
  |zero=>exact hd.elim
  |succ m=>obtain ⟨a,h2,h3⟩:=h m ds hd; exact ⟨a,by rw [h1,h2],h3⟩
 ·rw [h1] at hx;rw [hk] at he;unfold nD at he;split at he
  ·exact absurd rfl (hn _)
  ·rw [he] at hx; simpa using hx
theorem cD.str (hk:gK E t = .string):cD E t DV.str (fun l=>l.length≤maxLen) := .of hk (by simp) (fun _=>rfl) fun m ds h=>by
 unfold ey at h; rw [hk] at h; exact h
theorem cD.int {k:IntKind} {g:Int→Prop} (hk:gK E t = .int k) (hg:∀ n,(Lit.int k n).wf=true→g n):cD E t (DV.int k) g := .of hk (by simp) (fun _=>rfl) fun m ds h=>by
 unfold ey at h; rw [hk] at h; obtain ⟨n,h1,h2⟩:=h; exact ⟨n,h1,hg n h2⟩
theorem cD.bool (hk:gK E t = .bool):cD E t DV.bool (fun _=>True) := .of hk (by simp) (fun _=>rfl) fun m ds h=>by
 unfold ey at h; rw [hk] at h; obtain ⟨n,h1⟩:=h; exact ⟨n,h1,trivial⟩
theorem cD.list (c:cD E n enc fR):∀ {l:List DV},(∀ x∈l,(∃ m,ey E m n x.cells)∧nD (gK E n) x)→∃ l':List α,l=l'.map enc∧∀ a∈l',fR a
 | [],_=>⟨[],rfl,by simp⟩
 |x::l,h=>by
  obtain ⟨⟨h1,h2⟩,h3⟩:=List.forall_mem_cons.1 h;obtain ⟨a,rfl,ha⟩:=c.get h1 h2;obtain ⟨l',rfl,h4⟩:=cD.list c h3;exact ⟨a::l',rfl,List.forall_mem_cons.2 ⟨ha,h4⟩⟩
theorem cD.sl (c:cD E n enc fR) (hk:gK E t = .slice n):cD E t (fun l:List α=>DV.sl (l.map enc)) (fun l:List α=>l.length≤maxLen∧∀ x∈l,fR x) := .of hk (by simp) (fun _=>rfl) fun m ds h=>by
 unfold ey at h; rw [hk] at h; obtain ⟨l,h1,h2,h3⟩:=h;obtain ⟨l',rfl,h4⟩:=c.list fun x hx=>⟨⟨m,(h3 x hx).1⟩,(h3 x hx).2⟩;exact ⟨l',h1,by simpa using h2,h4⟩
def jd (E:Env) (fs:List (Nat × Nat)) (off sz:Nat) {α:Type} (en:α→List DV) (fR:α→Prop):Prop:=∀ {m} {ds:List DV},ds.length=sz→(∀ p∈fs,ey E m p.2 ((ds.drop p.1).take (cm E p.2)))→∃ a,ds.drop off=en a∧fR a
variable {off o2 sz:Nat} {fs:List (Nat × Nat)} {en:β→List DV}
theorem cD.last (c:cD E t enc fR) (h:off+cm E t=sz):jd E [(off,t)] off sz (fun a=>(enc a).cells) fR:=fun {m ds} hl hf=>by
 have:=hf (off,t) (by simp);rw [List.take_of_length_le (by simp; omega)] at this;exact c.dec this
theorem cD.cons (c:cD E t enc fR) (d:jd E fs o2 sz en zu) (h:off+cm E t=o2):jd E ((off,t)::fs) off sz (fun p=>(enc p.1).cells++en p.2) (fun p:α × β=>fR p.1∧zu p.2):=fun {m ds} hl hf=>by
 obtain ⟨h1,h2⟩:=List.forall_mem_cons.1 hf;obtain ⟨a,h3,h4⟩:=c.dec h1;obtain ⟨b,h5,h6⟩:=d hl h2;refine ⟨(a,b),?_,h4,h6⟩;show _=(enc a).cells++en b;rw [← h3,← h5,← h,← List.drop_drop,List.take_append_drop]
theorem jd.struct {f:β→α} (d:jd E fs 0 sz en zu) (hk:gK E t = .struct fs) (hs:cm E t=sz) (he:∀ a,enc (f a) = .agg (en a)) (ha:∀ a,∃ cs,enc a = .agg cs) (hg:∀ a,zu a→fR (f a)):cD E t enc fR:=by
 refine ⟨fun {m ds} h=>?_,fun {x a} h1 h2=>?_⟩
 ·cases m with
  |zero=>exact h.elim
  |succ m =>
   unfold ey at h; rw [hk] at h;obtain ⟨a,h3,h4⟩:=d (by rw [h.1,hs]) h.2;exact ⟨f a,by rw [he]; exact h3,hg a h4⟩
 ·rw [hk] at h1;obtain ⟨cs,rfl⟩:∃ cs,x = .agg cs:=h1;obtain ⟨MW,h3⟩:=ha a;rw [h3] at h2 ⊢;cases h2;rfl
def De (E:Env) (t:Nat) (x:DV):Prop:=(∃ m,ey E m t x.cells)∧nD (gK E t) x
theorem PM (hE:E.OK) {H:Type} {enc:TypeId × Value→H} {W:World} {base m:Nat} {v:Value} {d:DataW H} {p:List MemPlace} {held:Bool} (aJ:nE E m t=true) (hv:Value.okWide E.P W .any base t v) (h:DataW.Trod enc E.P W 0 (fun _=>true) held t v d p):∃ x,VD (fun _=>False) W x v∧De E t x:=by
 obtain ⟨fuel,h⟩:=h;obtain ⟨ds,h1,h2,h3⟩:=PK hE fuel m t _ _ aJ h;obtain ⟨i,hi⟩:=Ii aJ;obtain ⟨ti,dd,g1,g2,g3,g4,-⟩:=cg (hE.types t i hi);have hk:gK E t=tk dd:=by simp [gK,dA,hi,g3]
 by_cases hs:∃ fs,dd = .struct fs
 ·obtain ⟨fs,rfl⟩:=hs;simp only [Value.okWide,g2] at hv;obtain ⟨cs,rfl,-,-⟩:=hv;refine ⟨.agg ds,.agg ds cs (by simpa [Value.cells] using h2.1) (fun j x v hx hv=>h2.2 j x v hx (by simpa [Value.cells] using hv)),⟨fuel,h1⟩,?_⟩;rw [hk];exact ⟨ds,rfl⟩
 ·have cd:∃ y,ds=[y]∧y.cells=[y]:=by
   cases fuel with
   |zero=>exact h1.elim
   |succ fuel =>
    unfold ey at h1;split at h1
    ·obtain ⟨b,rfl⟩:=h1; exact ⟨_,rfl,rfl⟩
    ·obtain ⟨b,rfl,-⟩:=h1; exact ⟨_,rfl,rfl⟩
    ·obtain ⟨b,rfl,-⟩:=h1; exact ⟨_,rfl,rfl⟩
    ·obtain ⟨b,rfl,-⟩:=h1; exact ⟨_,rfl,rfl⟩
    ·rename_i fs gw;rw [hk] at gw;exact absurd (by cases dd <;> first | exact ⟨_,rfl⟩ | (cases gw; done)) hs
    ·exact h1.elim
  obtain ⟨y,rfl,hy⟩:=cd;have eH:∀ cs,v ≠ .agg cs:=fun cs e=>by
   subst e;have Ch:∀ n e',dd ≠ .array n e':=fun n e' e=>by
    subst e;cases fuel with
    |zero=>exact h1.elim
    |succ fuel=>unfold ey at h1; rw [hk] at h1; exact h1
   unfold Value.okWide at hv;rw [g2] at hv;cases dd <;> first
    |exact absurd ⟨_,rfl⟩ hs
    |exact absurd rfl (Ch _ _)
    |(simp [Cell.okWide,Cell.ok,g2] at hv; done)
  have PN:v.cells.toList=[v]:=by
   cases v <;> first | rfl | exact absurd rfl (eH _)
  rw [PN] at h2;refine ⟨y,h2.2 0 y v rfl rfl,⟨fuel,by rw [hy]; exact h1⟩,?_⟩;unfold nD;split
  ·rename_i fs gw;rw [hk] at gw;exact absurd (by cases dd <;> first | exact ⟨_,rfl⟩ | (cases gw; done)) hs
  ·exact hy
def rR (E:Env):List Nat→List DV→Prop
 | [],xs=>xs=[]
 |t::ts,x::xs=>De E t x∧rR E ts xs
 |_::_,[]=>False
theorem Io (hE:E.OK) {H:Type} {enc:TypeId × Value→H} {W:World} {base m:Nat} {held:Bool}:∀ {ts:List Nat} {vs:List Value} {ds:List (DataW H)} {ps:List MemPlace},ts.all (nE E m)=true →
  (∀ (j:Nat) t v,ts[j]? = some t→vs[j]? = some v→Value.okWide E.P W .any base t v)→DataW.TrodAll enc E.P W 0 (fun _=>true) held ts vs ds ps→∃ xs,gV (fun _=>False) W xs vs∧rR E ts xs
 | [],vs,ds,ps,_,_,h=>by
  obtain ⟨rfl,-,-⟩:=ChangeShapes.trodAll_nil h;exact ⟨[],⟨rfl,fun j x v hx=>by simp at hx⟩,rfl⟩
 |t::ts,vs,ds,ps,aJ,hv,h=>by
  obtain ⟨v,Ip,d,Iq,p,q,rfl,rfl,rfl,h1,h2⟩:=ChangeShapes.trodAll_cons h;simp only [List.all_cons,Bool.and_eq_true] at aJ;obtain ⟨x,k1,k2⟩:=PM hE aJ.1 (hv 0 t v rfl rfl) h1;obtain ⟨xs,q1,q2⟩:=Io hE aJ.2 (fun j t v ht eA=>hv (j+1) t v (by simpa using ht) (by simpa using eA)) h2;refine ⟨x::xs,⟨by simp [q1.1],fun j y u hy hu=>?_⟩,k2,q2⟩;cases j with
  |zero=>simp at hy hu; subst hy; subst hu; exact k1
  |succ j=>exact q1.2 j y u (by simpa using hy) (by simpa using hu)
end Go.aw
end
section
namespace Go.Proofs.YtfmdaiojokniiaaGreatDoor.P
open Go Go.aw
set_option maxRecDepth 100000
def Df (n:Int):Prop:=0≤n∧n≤18446744073709551615
def zw (n:Int):Prop:=0≤n∧n≤65535
theorem PO {n:Int} (h:(Lit.int .i64 n).wf=true):dU n:=by
 simp [Lit.wf,IntKind.min,IntKind.max,IntKind.signed,IntKind.bits] at h; exact h
theorem PQ {n:Int} (h:(Lit.int .u64 n).wf=true):Df n:=by
 simp [Lit.wf,IntKind.min,IntKind.max,IntKind.signed,IntKind.bits] at h; exact h
theorem PR {n:Int} (h:(Lit.int .u16 n).wf=true):zw n:=by
 simp [Lit.wf,IntKind.min,IntKind.max,IntKind.signed,IntKind.bits] at h; exact h
theorem rS:cD E 9 DV.str (fun l=>l.length≤maxLen):=cD.str (by kernel_rfl)
theorem ga:cD E 3 (DV.int .i64) dU:=cD.int (by kernel_rfl) fun _=>PO
theorem PT:cD E 188 (DV.int .u64) Df:=cD.int (by kernel_rfl) fun _=>PQ
theorem PU:cD E 65 (DV.int .u16) zw:=cD.int (by kernel_rfl) fun _=>PR
theorem PV:cD E 27 (fun l:List Int=>DV.sl (l.map (DV.int .i64))) (fun l=>l.length≤maxLen∧∀ x∈l,dU x):=ga.sl (by kernel_rfl)
def Datum.Good (a:Datum):Prop:=(a.text.length≤maxLen)∧(dU a.n)∧(dU a.m)
theorem PW:cD E 131 Datum.enc Datum.Good:=jd.struct (f:=fun p:Text × Int × Int=>⟨p.1,p.2.1,p.2.2⟩) (rS.cons (ga.cons (ga.last rfl) rfl) rfl) (by kernel_rfl) rfl (fun _=>rfl) (fun _=>⟨_,rfl⟩) fun _ h=>h
theorem PX:cD E 24 (fun l:List Datum=>DV.sl (l.map Datum.enc)) (fun l=>l.length≤maxLen∧∀ x∈l,x.Good):=PW.sl (by kernel_rfl)
def dc.Good (a:dc):Prop:=(a.name.length≤maxLen)∧(dU a.type)∧(dU a.cV)∧(a.data.length≤maxLen∧∀ x∈a.data,x.Good)
theorem Ir:cD E 26 dc.enc dc.Good:=jd.struct (f:=fun p:Text × Int × Int × List Datum=>⟨p.1,p.2.1,p.2.2.1,p.2.2.2⟩) (rS.cons (ga.cons (ga.cons (PX.last rfl) rfl) rfl) rfl) (by kernel_rfl) rfl (fun _=>rfl) (fun _=>⟨_,rfl⟩) fun _ h=>h
def di.Good (a:di):Prop:=(a.ay.length≤maxLen)∧(dU a.key)∧(dU a.lG)∧(dU a.bQ)∧(dU a.upto)∧(Df a.sum)
theorem PY:cD E 190 di.enc di.Good:=jd.struct (f:=fun p:Text × Int × Int × Int × Int × Int=>⟨p.1,p.2.1,p.2.2.1,p.2.2.2.1,p.2.2.2.2.1,p.2.2.2.2.2⟩) (rS.cons (ga.cons (ga.cons (ga.cons (ga.cons (PT.last rfl) rfl) rfl) rfl) rfl) rfl) (by kernel_rfl) rfl (fun _=>rfl) (fun _=>⟨_,rfl⟩) fun _ h=>h
theorem PZ:cD E 100 (fun l:List di=>DV.sl (l.map di.enc)) (fun l=>l.length≤maxLen∧∀ x∈l,x.Good):=PY.sl (by kernel_rfl)
def Signed.Good (a:Signed):Prop:=(a.set.Good)∧(a.sigs.length≤maxLen∧∀ x∈a.sigs,x.Good)
theorem P0:cD E 102 Signed.enc Signed.Good:=jd.struct (f:=fun p:dc × List di=>⟨p.1,p.2⟩) (Ir.cons (PZ.last rfl) rfl) (by kernel_rfl) rfl (fun _=>rfl) (fun _=>⟨_,rfl⟩) fun _ h=>h
theorem Is:cD E 37 (fun l:List Signed=>DV.sl (l.map Signed.enc)) (fun l=>l.length≤maxLen∧∀ x∈l,x.Good):=P0.sl (by kernel_rfl)
def aF.Good (a:aF):Prop:=(a.ai.length≤maxLen)∧(a.ae.length≤maxLen∧∀ x∈a.ae,x.Good)
theorem P1:cD E 59 aF.enc aF.Good:=jd.struct (f:=fun p:Text × List Signed=>⟨p.1,p.2⟩) (rS.cons (Is.last rfl) rfl) (by kernel_rfl) rfl (fun _=>rfl) (fun _=>⟨_,rfl⟩) fun _ h=>h
def br.Good (a:br):Prop:=(a.name.length≤maxLen)∧(dU a.type)
theorem P2:cD E 36 br.enc br.Good:=jd.struct (f:=fun p:Text × Int=>⟨p.1,p.2⟩) (rS.cons (ga.last rfl) rfl) (by kernel_rfl) rfl (fun _=>rfl) (fun _=>⟨_,rfl⟩) fun _ h=>h
def dj.Good (a:dj):Prop:=(dU a.kind)∧(a.ae.length≤maxLen∧∀ x∈a.ae,x.Good)∧(a.cut.length≤maxLen)
theorem P3:cD E 39 dj.enc dj.Good:=jd.struct (f:=fun p:Int × List Signed × Text=>⟨p.1,p.2.1,p.2.2⟩) (ga.cons (Is.cons (rS.last rfl) rfl) rfl) (by kernel_rfl) rfl (fun _=>rfl) (fun _=>⟨_,rfl⟩) fun _ h=>h
structure Host where
 name:Text
 addr:Int
 owner:Int
 deriving DecidableEq
@[reducible] def Host.enc (a : Host) : DV := .agg [.str a.name, .int .i64 a.addr, .int .i64 a.owner]
def Host.Good (a:Host):Prop:=(a.name.length≤maxLen)∧(dU a.addr)∧(dU a.owner)
theorem P4:cD E 84 Host.enc Host.Good:=jd.struct (f:=fun p:Text × Int × Int=>⟨p.1,p.2.1,p.2.2⟩) (rS.cons (ga.cons (ga.last rfl) rfl) rfl) (by kernel_rfl) rfl (fun _=>rfl) (fun _=>⟨_,rfl⟩) fun _ h=>h
theorem P5:cD E 22 (fun l:List Host=>DV.sl (l.map Host.enc)) (fun l=>l.length≤maxLen∧∀ x∈l,x.Good):=P4.sl (by kernel_rfl)
structure aX where
 host:Int
 bQ:Int
 upto:Int
 ay:aF
 deriving DecidableEq
@[reducible] def aX.enc (a : aX) : DV := .agg [.int .i64 a.host, .int .i64 a.bQ, .int .i64 a.upto, .str a.ay.ai, .sl (a.ay.ae.map Signed.enc)]
def aX.Good (a:aX):Prop:=(dU a.host)∧(dU a.bQ)∧(dU a.upto)∧(a.ay.Good)
theorem P6:cD E 68 aX.enc aX.Good:=jd.struct (f:=fun p:Int × Int × Int × aF=>⟨p.1,p.2.1,p.2.2.1,p.2.2.2⟩) (ga.cons (ga.cons (ga.cons (P1.last rfl) rfl) rfl) rfl) (by kernel_rfl) rfl (fun _=>rfl) (fun _=>⟨_,rfl⟩) fun _ h=>h
theorem P7:cD E 23 (fun l:List aX=>DV.sl (l.map aX.enc)) (fun l=>l.length≤maxLen∧∀ x∈l,x.Good):=P6.sl (by kernel_rfl)
structure bj where
 host:Int
 ay:aF
 deriving DecidableEq
@[reducible] def bj.enc (a : bj) : DV := .agg [.int .i64 a.host, .str a.ay.ai, .sl (a.ay.ae.map Signed.enc)]
def bj.Good (a:bj):Prop:=(dU a.host)∧(a.ay.Good)
structure bN where
 aB:List Host
 aG:List aX
 anchor:dc
 hints:List Int
 bM:Int
 fin:Int
 deriving DecidableEq
@[reducible] def bN.enc (a : bN) : DV := .agg [.sl (a.aB.map Host.enc), .sl (a.aG.map aX.enc), .str a.anchor.name, .int .i64 a.anchor.type, .int .i64 a.anchor.cV, .sl (a.anchor.data.map Datum.enc), .sl (a.hints.map (.int .i64)), .int .i64 a.bM, .int .i64 a.fin]
def bN.Good (a:bN):Prop:=(a.aB.length≤maxLen∧∀ x∈a.aB,x.Good)∧(a.aG.length≤maxLen∧∀ x∈a.aG,x.Good)∧(a.anchor.Good)∧(a.hints.length≤maxLen∧∀ x∈a.hints,dU x)∧(dU a.bM)∧(dU a.fin)
theorem P8:cD E 29 bN.enc bN.Good:=jd.struct (f:=fun p:List Host × List aX × dc × List Int × Int × Int=>⟨p.1,p.2.1,p.2.2.1,p.2.2.2.1,p.2.2.2.2.1,p.2.2.2.2.2⟩) (P5.cons (P7.cons (Ir.cons (PV.cons (ga.cons (ga.last rfl) rfl) rfl) rfl) rfl) rfl) (by kernel_rfl) rfl (fun _=>rfl) (fun _=>⟨_,rfl⟩) fun _ h=>h
structure nF where
 dq:List bj
 deriving DecidableEq
@[reducible] def nF.enc (a : nF) : DV := .agg [.sl (a.dq.map bj.enc)]
def nF.Good (a:nF):Prop:=(a.dq.length≤maxLen∧∀ x∈a.dq,x.Good)
structure Step where
 time:Int
 dO:nF
 deriving DecidableEq
@[reducible] def Step.enc (a : Step) : DV := .agg [.int .i64 a.time, .sl (a.dO.dq.map bj.enc)]
def Step.Good (a:Step):Prop:=(dU a.time)∧(a.dO.Good)
structure kP where
 aB:List Host
 cW:List bj
 anchor:dc
 hints:List Int
 deriving DecidableEq
@[reducible] def kP.enc (a : kP) : DV := .agg [.sl (a.aB.map Host.enc), .sl (a.cW.map bj.enc), .str a.anchor.name, .int .i64 a.anchor.type, .int .i64 a.anchor.cV, .sl (a.anchor.data.map Datum.enc), .sl (a.hints.map (.int .i64))]
def kP.Good (a:kP):Prop:=(a.aB.length≤maxLen∧∀ x∈a.aB,x.Good)∧(a.cW.length≤maxLen∧∀ x∈a.cW,x.Good)∧(a.anchor.Good)∧(a.hints.length≤maxLen∧∀ x∈a.hints,dU x)
structure Claim where
 host:Int
 time:Int
 ay:aF
 deriving DecidableEq
@[reducible] def Claim.enc (a : Claim) : DV := .agg [.int .i64 a.host, .int .i64 a.time, .str a.ay.ai, .sl (a.ay.ae.map Signed.enc)]
def Claim.Good (a:Claim):Prop:=(dU a.host)∧(dU a.time)∧(a.ay.Good)
structure Entry where
 signed:Signed
 ay:Text
 upto:Int
 deriving DecidableEq
@[reducible] def Entry.enc (a : Entry) : DV := .agg [.str a.signed.set.name, .int .i64 a.signed.set.type, .int .i64 a.signed.set.cV, .sl (a.signed.set.data.map Datum.enc), .sl (a.signed.sigs.map di.enc), .str a.ay, .int .i64 a.upto]
def Entry.Good (a:Entry):Prop:=(a.signed.Good)∧(a.ay.length≤maxLen)∧(dU a.upto)
structure Cache where
 list:List Entry
 deriving DecidableEq
@[reducible] def Cache.enc (a : Cache) : DV := .agg [.sl (a.list.map Entry.enc)]
def Cache.Good (a:Cache):Prop:=(a.list.length≤maxLen∧∀ x∈a.list,x.Good)
structure rT where
 kind:Int
 q:br
 ae:List Signed
 deriving DecidableEq
@[reducible] def rT.enc (a : rT) : DV := .agg [.int .i64 a.kind, .str a.q.name, .int .i64 a.q.type, .sl (a.ae.map Signed.enc)]
def rT.Good (a:rT):Prop:=(dU a.kind)∧(a.q.Good)∧(a.ae.length≤maxLen∧∀ x∈a.ae,x.Good)
structure c9 where
 time:Int
 addr:Int
 q:br
 answer:dj
 deriving DecidableEq
@[reducible] def c9.enc (a : c9) : DV := .agg [.int .i64 a.time, .int .i64 a.addr, .str a.q.name, .int .i64 a.q.type, .int .i64 a.answer.kind, .sl (a.answer.ae.map Signed.enc), .str a.answer.cut]
def c9.Good (a:c9):Prop:=(dU a.time)∧(dU a.addr)∧(a.q.Good)∧(a.answer.Good)
theorem P9:cD E 41 c9.enc c9.Good:=jd.struct (f:=fun p:Int × Int × br × dj=>⟨p.1,p.2.1,p.2.2.1,p.2.2.2⟩) (ga.cons (ga.cons (P2.cons (P3.last rfl) rfl) rfl) rfl) (by kernel_rfl) rfl (fun _=>rfl) (fun _=>⟨_,rfl⟩) fun _ h=>h
structure oP where
 q:br
 time:Int
 cache:Cache
 heard:List c9
 result:rT
 deriving DecidableEq
@[reducible] def oP.enc (a : oP) : DV := .agg [.str a.q.name, .int .i64 a.q.type, .int .i64 a.time, .sl (a.cache.list.map Entry.enc), .sl (a.heard.map c9.enc), .int .i64 a.result.kind, .str a.result.q.name, .int .i64 a.result.q.type, .sl (a.result.ae.map Signed.enc)]
def oP.Good (a:oP):Prop:=(a.q.Good)∧(dU a.time)∧(a.cache.Good)∧(a.heard.length≤maxLen∧∀ x∈a.heard,x.Good)∧(a.result.Good)
structure p0 where
 before:bN
 steps:List Step
 gL:List Claim
 tY:List oP
 deriving DecidableEq
@[reducible] def p0.enc (a : p0) : DV := .agg [.sl (a.before.aB.map Host.enc), .sl (a.before.aG.map aX.enc), .str a.before.anchor.name, .int .i64 a.before.anchor.type, .int .i64 a.before.anchor.cV, .sl (a.before.anchor.data.map Datum.enc), .sl (a.before.hints.map (.int .i64)), .int .i64 a.before.bM, .int .i64 a.before.fin, .sl (a.steps.map Step.enc), .sl (a.gL.map Claim.enc), .sl (a.tY.map oP.enc)]
def p0.Good (a:p0):Prop:=(a.before.Good)∧(a.steps.length≤maxLen∧∀ x∈a.steps,x.Good)∧(a.gL.length≤maxLen∧∀ x∈a.gL,x.Good)∧(a.tY.length≤maxLen∧∀ x∈a.tY,x.Good)
end Go.Proofs.YtfmdaiojokniiaaGreatDoor.P
end
section
namespace Go.aw
open Go Go.RowKit
def je {H:Type}:Nat→DataW H→Option (List Value)
 | 0,_=>none
 |_+1,.lit (.int k n)=>some [.int k n]
 |_+1,.lit (.bool b)=>some [.bool b]
 |_+1,.lit (.string s)=>some [.string ⟨s.toArray⟩]
 |n+1,.agg ps=>(ps.mapM (je n)).map List.flatten
 |_+1,_=>none
def oz (E:Env):Nat→Nat→Bool
 | 0,_=>false
 |m+1,t=>match db E.T t with
  |none=>false
  |some i=>match i.k with
   | .bool=>Nat.beq i.size 1
   | .int _=>Nat.beq i.size 1
   | .string=>Nat.beq i.size 1
   | .array n e=>Nat.beq i.size (n*cm E e)&&oz E m e
   | .struct fs=>oO E 0 fs i.size&&fs.all fun p=>oz E m p.2
   |_=>false
theorem P' {E:Env} {m t:Nat} (h:oz E m t=true):∃ i,E.T[t]? = some i:=by
 cases m with
 |zero=>cases h
 |succ m =>
  unfold oz at h;split at h
  ·cases h
  ·rename_i i hi; rw [dA] at hi; exact ⟨i,hi⟩
theorem It {E:Env} (hE:E.OK) {m t:Nat} (h:oz E m t=true):cm E t=E.P.cellsOf t:=by
 obtain ⟨i,hi⟩:=P' h;exact wU hE hi
section
variable {H:Type}
theorem Dg {n:Nat} {cs:List Value}:∀ {L:List (Nat × Nat)} {xs:List (DataW H × List MemPlace)} {o tot:Nat},xs.length=L.length→cs.length=tot →
  (∀ (i:Nat) (p:Nat × Nat),L[i]? = some p→p.1=o+((L.take i).map (·.2)).sum∧p.1+p.2≤tot)→o+(L.map (·.2)).sum=tot →
  (∀ (i:Nat) (p:Nat × Nat) (y:DataW H × List MemPlace),L[i]? = some p→xs[i]? = some y→je n y.1=some ((cs.drop p.1).take p.2)) →
  ∃ ls,(xs.map (·.1)).mapM (je n)=some ls∧ls.flatten=cs.drop o
 | [],[],o,tot,_,hc,_,hs,_=>⟨[],rfl,by rw [List.drop_of_length_le (by simp at hs; omega)]; rfl⟩
 |p::L,y::xs,o,tot,hl,hc,ho,hs,hx=>by
  have h0:=ho 0 p rfl;simp at h0;have hy:=hx 0 p y rfl rfl;simp only [List.map_cons,List.sum_cons] at hs
  obtain ⟨ls,k1,k2⟩:=Dg (n:=n) (cs:=cs) (L:=L) (xs:=xs) (o:=o+p.2) (tot:=tot) (by simpa using hl) hc (fun i q hq=>by
   have:=ho (i+1) q (by simpa using hq);simp only [List.take_succ_cons,List.map_cons,List.sum_cons] at this
   omega) (by omega) (fun i q z hq hz=>hx (i+1) q z (by simpa using hq) (by simpa using hz))
  refine ⟨(cs.drop p.1).take p.2::ls,?_,?_⟩
  ·simp only [List.map_cons,List.mapM_cons,hy,k1];rfl
  ·rw [List.flatten_cons,k2,h0.1,← List.drop_drop,List.take_append_drop]
 | [],_::_,_,_,h,_,_,_,_=>by simp at h
 |_::_,[],_,_,h,_,_,_,_=>by simp at h
variable {E:Env} {enc:TypeId × Value→H} {w:World} {held:Bool} {sp:Nat→Bool}
theorem Iu:∀ {fs:List (Nat × Nat)} {o tot:Nat},oO E o fs tot=true→o+((fs.map fun p=>(p.1,cm E p.2)).map (·.2)).sum=tot ∧
  ∀ (i:Nat) (p:Nat × Nat),(fs.map fun p=>(p.1,cm E p.2))[i]? = some p→p.1=o+(((fs.map fun p=>(p.1,cm E p.2)).take i).map (·.2)).sum∧p.1+p.2≤tot
 | [],o,tot,h=>⟨by simpa using Nat.eq_of_beq_eq_true h,fun i p hp=>by simp at hp⟩
 |q::fs,o,tot,h=>by
  have hle:=(C' h).2 q (List.mem_cons_self ..);simp only [oO,Bool.and_eq_true] at h;obtain ⟨h1,h2⟩:=h;have h1:=Nat.eq_of_beq_eq_true h1;obtain ⟨k1,k2⟩:=Iu h2;refine ⟨by simp only [List.map_cons,List.sum_cons]; omega,fun i p hp=>?_⟩;cases i with
  |zero=>simp at hp; subst hp; simp; omega
  |succ i =>
   have:=k2 i p (by simpa using hp);simp only [List.map_cons,List.take_succ_cons,List.sum_cons];omega
theorem Qa (hE:E.OK):∀ (fuel m t:Nat) (cs:List Value) (x:DataW H × List MemPlace),oz E m t=true→DataW.trod enc E.P w 0 sp held fuel t cs=some x→je fuel x.1=some cs:=by
 intro fuel
 induction fuel with
 |zero=>intro m t cs x _ h; simp [DataW.trod] at h
 |succ fuel ih =>
  intro m t cs x aJ h;cases m with
  |zero=>cases aJ
  |succ m =>
   unfold oz at aJ;split at aJ
   ·cases aJ
   rename_i i hi;have bK:cm E t=i.size:=by simp [cm,hi]
   rw [dA] at hi;obtain ⟨ti,d,g1,g2,g3,g4,-⟩:=cg (hE.types t i hi);split at aJ
   ·rename_i eD;have hd:d = .bool:=by rw [eD] at g3; cases d <;> first | rfl | cases g3
    subst hd;obtain ⟨b,rfl,rfl⟩:=DataW.trod_bool g2 h;rfl
   ·rename_i k eD;obtain rfl:=sB (eD.symm.trans g3);obtain ⟨n,rfl,rfl,hw⟩:=DataW.trod_int g2 h;rfl
   ·rename_i eD;obtain rfl:=o6 (eD.symm.trans g3);obtain ⟨s,rfl,rfl,hl⟩:=DataW.trod_string g2 h;rfl
   ·rename_i n e eD;obtain rfl:=uG (eD.symm.trans g3);simp only [Bool.and_eq_true] at aJ;obtain ⟨hs,wV⟩:=aJ;have hs:=Nat.eq_of_beq_eq_true hs;obtain ⟨xs,k,hk,rfl,hlen,mh,hf⟩:=DataW.trod_array g2 h;cases hk;have Da:=It hE wV;rw [← wU hE hi,bK,hs] at hlen;rw [← Da] at hf;have hL:∀ (i:Nat) (p:Nat × Nat),((List.range n).map fun i=>(i*cm E e,cm E e))[i]? = some p→i<n∧p=(i*cm E e,cm E e):=fun i p hp=>by
     have hi:i<n:=by have:=aP hp; simpa using this
     simp [hi] at hp;exact ⟨hi,hp.symm⟩
    have Iv:∀ k,(((List.range n).map fun i=>(i*cm E e,cm E e)).take k).map (·.2)=List.replicate (min k n) (cm E e):=fun k=>by
     apply List.ext_getElem
     ·simp
     ·intro j h1 h2; simp
    obtain ⟨ls,k1,k2⟩:=Dg (n:=fuel) (cs:=cs) (L:=(List.range n).map fun i=>(i*cm E e,cm E e)) (xs:=xs) (o:=0) (tot:=n*cm E e) (by simp [mh]) hlen (fun i p hp=>by
     obtain ⟨h1,rfl⟩:=hL i p hp;rw [Iv,List.sum_replicate_nat,Nat.min_eq_left (by omega)];refine ⟨by simp,?_⟩;have:(i+1)*cm E e≤n*cm E e:=Nat.mul_le_mul_right _ h1;rw [Nat.add_mul,Nat.one_mul] at this;exact this) (by
      have:=Iv n;rw [List.take_of_length_le (by simp)] at this;rw [this,List.sum_replicate_nat,Nat.min_self,Nat.zero_add]) (fun i p y hp hy=>by
     obtain ⟨h1,rfl⟩:=hL i p hp;have:=hf i h1;rw [hy] at this
     exact ih m e _ _ wV this)
    rw [List.drop_zero] at k2;simp only [je,k1,Option.map_some,k2]
   ·rename_i fs eD;obtain ⟨fl,rfl,rfl⟩:=nV (eD.symm.trans g3);simp only [Bool.and_eq_true] at aJ;obtain ⟨zt,a7⟩:=aJ;obtain ⟨xs,n,hn,rfl,hlen,mh,hf⟩:=DataW.trod_struct g2 h;cases hn;rw [← wU hE hi,bK] at hlen;obtain ⟨s1,s2⟩:=Iu zt
    obtain ⟨ls,k1,k2⟩:=Dg (n:=fuel) (cs:=cs) (xs:=xs) (by simp [mh]) hlen s2 s1 (fun i p y hp hy=>by
     simp only [List.map_map,List.getElem?_map,Option.map_eq_some_iff] at hp;obtain ⟨f,ic,rfl⟩:=hp;have wX:=List.all_eq_true.1 a7 (f.offset,f.type) (List.mem_map.2 ⟨f,List.mem_of_getElem? ic,rfl⟩);have:=hf i f (by simpa using ic);rw [hy,← It hE wX] at this
     exact ih m _ _ _ wX this)
    rw [List.drop_zero] at k2;simp only [je,k1,Option.map_some,k2]
   ·cases aJ
end
def rU:List DV→List Value→Bool
 | [],[]=>true
 | .int k n::l,.int k' m::r=>IntKind.same k k'&&decide (n=m)&&rU l r
 | .bool a::l,.bool b::r=>(a==b)&&rU l r
 | .str a::l,.string b::r=>decide (b=⟨a.toArray⟩)&&rU l r
 |_,_=>false
theorem Iw {bad:Nat→Prop} {w:World}:∀ {ds:List DV} {vs:List Value},rU ds vs=true→gV bad w ds vs
 | [],[],_=>⟨rfl,fun j x v hx=>by simp at hx⟩
 |d::ds,v::vs,h=>by
  have key:VD bad w d v∧rU ds vs=true:=by
   unfold rU at h;split at h
   ·rename_i e1 e2; cases e1
   ·rename_i e1 e2;cases e1; cases e2;simp only [Bool.and_eq_true,decide_eq_true_eq] at h;obtain ⟨⟨h1,rfl⟩,h3⟩:=h;obtain rfl:=o5 h1;exact ⟨.int _ _,h3⟩
   ·rename_i e1 e2;cases e1; cases e2;simp only [Bool.and_eq_true,beq_iff_eq] at h;obtain ⟨rfl,h3⟩:=h;exact ⟨.bool _,h3⟩
   ·rename_i e1 e2;cases e1; cases e2;simp only [Bool.and_eq_true,decide_eq_true_eq] at h;obtain ⟨rfl,h3⟩:=h;exact ⟨.str _,h3⟩
   ·cases h
  have ih:=Iw (bad:=bad) (w:=w) key.2;refine ⟨by simp [ih.1],fun j x u hx hu=>?_⟩;cases j with
  |zero=>simp at hx hu; subst hx; subst hu; exact key.1
  |succ j=>exact ih.2 j x u (by simpa using hx) (by simpa using hu)
 | [],_::_,h=>by cases h
 |d::_,[],h=>by cases d <;> cases h
theorem Ix {P:Program} {w:World} {name:String} {d:DataW Unit}:∀ {laid:List (String × DataW Unit)} {ps:List MemPlace},DataW.LaidVars P w laid ps→(name,d)∈laid →
  ∃ g t cs fuel p,P.globalNamed name=some g∧(P.globals[g]?).map (·.type)=some t∧w.var? P name=some cs∧DataW.trod (fun _=>()) P w 0 (fun _=>true) false fuel t cs.toList=some (d,p)
 | [],_,_,h=>by simp at h
 |(n,d')::r,ps,hv,h=>by
  obtain ⟨g,t,cs,fuel,p,q,h1,h2,h3,h4,h5,-⟩:=hv;rcases List.mem_cons.1 h with h | h
  ·cases h; exact ⟨g,t,cs,fuel,p,h1,h2,h3,h4⟩
  ·exact Ix h5 h
theorem Qb {H:Type}:∀ {n:Nat} {d:DataW H} {cs:List Value},je n d=some cs→je (n+1) d=some cs:=by
 intro n
 induction n with
 |zero=>intro d cs h; cases h
 |succ n ih =>
  intro d cs h;unfold je at h;split at h
  ·cases h
  ·exact h
  ·exact h
  ·exact h
  ·rename_i m ps e;cases e;simp only [Option.map_eq_some_iff] at h;obtain ⟨ls,h1,rfl⟩:=h;have:∀ {ps:List (DataW H)} {ls:List (List Value)},ps.mapM (je n)=some ls→ps.mapM (je (n+1))=some ls:=by
    intro ps
    induction ps with
    |nil=>intro ls h; exact h
    |cons p ps Qc =>
     intro ls h;simp only [List.mapM_cons,Option.bind_eq_bind,Option.bind_eq_some_iff] at h ⊢;obtain ⟨a,h1,b,h2,h3⟩:=h;exact ⟨a,ih h1,b,Qc h2,h3⟩
   have e2:=this h1;show (ps.mapM (je (n+1))).map List.flatten=_;rw [e2];rfl
  ·cases h
theorem Dh {H:Type} {n:Nat} {d:DataW H} {cs:List Value} (h:je n d=some cs):∀ k,je (n+k) d=some cs
 | 0=>h
 |k+1=>Qb (Dh h k)
theorem Qd {E:Env} (hE:E.OK) {W:World} {laid:List (String × DataW Unit)} {name:String} {g t m n:Nat} {d:DataW Unit} {e:DV} {vs:List Value} (hl:laidMet E.P laid W) (hm:(name,d)∈laid) (hg:E.P.globalNamed name=some g) (ht:(E.P.globals[g]?).map (·.type)=some t)
  (aJ:oz E m t=true) (hv:je n d=some vs) (he:rU e.cells vs=true) (aE:e.cells≠[]) {ax:Nat→Prop} (qI:¬ ax g):VR ⟨fun _=>none,[],ax,W⟩ (.bD e 0) (.pointer (some ⟨g,0,none⟩)):=by
 obtain ⟨ps,Qe,-,-⟩:=hl;obtain ⟨g',t',cs,fuel,p,h1,h2,h3,h4⟩:=Ix Qe hm;rw [hg] at h1; cases h1;rw [ht] at h2; cases h2;have h5:=Qa hE fuel m t _ _ aJ h4;have h6:vs=cs.toList:=by
  have a:=Dh hv fuel;have b:=Dh h5 n;rw [Nat.add_comm] at b;exact Option.some.inj (a.symm.trans b)
 have ie:=Iw (bad:=ax) (w:=W) he;rw [h6] at ie;have cT:∀ (j:Nat) (v:Value),cs.toList[j]? = some v→W.cell? ⟨g,0+j,none⟩=some v:=fun j v hj=>by
  rw [Nat.zero_add];have:=World.var?_cell hg h3 j;rw [this]
  simpa using hj
 have dQ:∀ (j:Nat) (x:DV),e.cells[j]? = some x→∃ v,cs.toList[j]? = some v:=fun j x hx=>by
  have:=aP hx;rw [ie.1] at this;exact ⟨cs.toList[j],by simp [this]⟩
 have:=VR.bD (c:=⟨fun _=>none,[],ax,W⟩) e 0 g 0 (fun j=>(cs.toList[j]?).getD undef) (fun hb=>qI (qF.1 hb)) aE (fun j x hx=>by
   obtain ⟨v,hv⟩:=dQ j x hx;rw [hv];exact cT j v hv) (fun j x hx=>by
   obtain ⟨v,hv⟩:=dQ j x hx;rw [hv]
   exact qG (ie.2 j x v hx hv))
 exact this
end Go.aw
end
section
namespace Go.Proofs.YtfmdaiojokniiaaGreatDoor
open Go.ChangeShapes Go.WideShapes Go.ChangeAt Go.RowKit
theorem Tryz.own:ownKnob Tryz.prog.godebug=none:=by kernel_rfl
theorem Tryz.laidOut:laidOutB Tryz.prog=true:=by kernel_rfl
theorem Ext.trodAll {H:Type} {enc:TypeId × Value→H} {P:Program} (hl:laidOutB P=true) {W W':World} (hx:Ext W W') :
  ∀ {ts:List TypeId} {vs:List Value} {ds:List (DataW H)} {ps:List MemPlace},(∀ t∈ts,P.readableRec t=true∧t<P.types.size)→(∀ x∈ps,x.block<W.heap.size) →
   DataW.TrodAll enc P W 0 (fun _=>true) true ts vs ds ps→DataW.TrodAll enc P W' 0 (fun b=>decide (b<W.heap.size)) true ts vs ds ps
 | [],_,_,_,_,_,h=>by
  obtain ⟨rfl,rfl,rfl⟩:=trodAll_nil h;exact h
 |t::ts,_,_,_,hr,ah,h=>by
  obtain ⟨v,Ip,d,Iq,a,b,rfl,rfl,rfl,h1,h2⟩:=trodAll_cons h;obtain ⟨r1,r2⟩:=hr t (List.mem_cons_self ..);exact ⟨a,b,Below.trod hl r1 r2 h1 hx.below (fun x hx=>ah x (List.mem_append_left _ hx)),Ext.trodAll hl hx (fun u hu=>hr u (List.mem_cons_of_mem _ hu)) (fun x hx=>ah x (List.mem_append_right _ hx)) h2,rfl⟩
theorem Qf {H:Type} {enc:TypeId × Value→H} {P:Program} {f:Func} {s:ChangeSpec} {W W':World} {args:Array Value} {ds gs:List (DataW H)} {before:List MemPlace} {tb:TypeId} (hl:laidOutB P=true)
  (hr:∀ t∈f.params.toList,P.readableRec t=true∧t<P.types.size) (hv:s.vars=[]) (ht:f.resultTypes = #[tb]) (hb:P.underlying tb=some .bool)
  (tr:(s.fn H (ds++[])).results=[.lit (.bool true)]) (gU:(s.fn H (ds++[])).args=ds) (Qg:(s.fn H (ds++[])).vars=[])
  (hW:DataW.Whole enc P f.params.toList s.vars false W args.toList ds gs before) (hx:Ext W W'):s.post enc P f false true false false W args (.bool true) W':=by
 have wY:=hW;obtain ⟨p,q,hA,hV,rfl,yu,eS⟩:=hW;rw [hv] at hV;obtain ⟨rfl,rfl⟩:=trodVars_none hV;simp only [List.append_nil] at wY;refine ⟨ds,[],p,[],p,[],wY,?_,?_,?_,?_,fun h=>by cases h⟩
 ·rw [tr,ht];exact trodAll_cons_mk (shut_bool hb _) trodAll_mk0
 ·rw [gU];exact Ext.trodAll hl hx hr (fun x hx=>by simpa using wY.lt x hx) hA
 ·rw [Qg,hv]; rfl
 ·exact hx.below.frame _
end Go.Proofs.YtfmdaiojokniiaaGreatDoor
end
section
set_option maxRecDepth 100000
namespace Go.Proofs.YtfmdaiojokniiaaGreatDoor
open Go Go.aw Go.ChangeShapes Go.WideShapes Go.ChangeAt Go.RowKit
theorem Iy {H:Type} {enc:TypeId × Value→H} {P:Program} {W:World}:∀ {ts:List TypeId} {vs:List Value} {ds:List (DataW H)} {ps:List MemPlace} {held:Bool},DataW.TrodAll enc P W 0 (fun _=>true) held ts vs ds ps→ds.length=ts.length
 | [],_,_,_,_,h=>by obtain ⟨rfl,rfl,rfl⟩:=trodAll_nil h; rfl
 |t::ts,_,_,_,_,h=>by
  obtain ⟨v,Ip,d,Iq,a,b,rfl,rfl,rfl,h1,h2⟩:=trodAll_cons h;simp [Iy h2]
theorem Qh {H:Type} {enc:TypeId × Value→H} {af:FuncId} {fn:Func} {s:ChangeSpec} {W:World} {base:Nat} {args:Array Value} {ds gs:List (DataW H)} {before:List MemPlace} {tb:TypeId}
  (bH:∀ (j:Nat) t v,fn.params[j]? = some t→args[j]? = some v→Value.okWide Tryz.prog W .any base t v)
  (hW:DataW.Whole enc Tryz.prog fn.params.toList s.vars false W args.toList ds gs before) (hG:pc E.G (fun _=>False) W)
  (aJ:fn.params.toList.all (nE E 20)=true) (hr:∀ t∈fn.params.toList,Tryz.prog.readableRec t=true∧t<Tryz.prog.types.size) (hv:s.vars=[]) (ht:fn.resultTypes = #[tb]) (hb:Tryz.prog.underlying tb=some .bool)
  (hs:∀ ds:List (DataW H),ds.length=fn.params.toList.length→(s.fn H (ds++[])).results=[.lit (.bool true)]∧(s.fn H (ds++[])).args=ds∧(s.fn H (ds++[])).vars=[])
  (hc:∀ xs,rR E fn.params.toList xs→au E af xs (· = .bool true)) :
  Calls Tryz.prog af args W fun e W'=>∃ v,e = .returned v∧s.post enc Tryz.prog fn false true false false W args v W':=by
 have wY:=hW;obtain ⟨p,q,hA,hV,rfl,yu,eS⟩:=hW;have Qi:∀ (j:Nat) t v,fn.params.toList[j]? = some t→args.toList[j]? = some v→Value.okWide E.P W .any base t v:=fun j t v ht hv=>bH j t v (by rwa [Array.getElem?_toList] at ht) (by rwa [Array.getElem?_toList] at hv);obtain ⟨xs,h1,h2⟩:=Io ag aJ Qi hA;obtain ⟨s1,s2,s3⟩:=hs ds (Iy hA);have fB:=hc xs h2;unfold au at fB;have:=fB.2 (fun _=>False) W args.toList (fun _ h=>h.elim) hG h1;rw [Array.toArray_toList] at this;refine this.mono fun e W' Qj=>?_;obtain ⟨v,r,rfl,rfl,eI,hx⟩:=Qj;cases eI;exact ⟨_,rfl,Qf Tryz.laidOut hr hv ht hb s1 s2 s3 wY hx⟩
theorem Di {E:Env} {t:Nat} {ts:List Nat} {xs:List DV} (h:rR E (t::ts) xs):∃ x r,xs=x::r∧De E t x∧rR E ts r:=by
 cases xs with
 |nil=>exact h.elim
 |cons x r=>exact ⟨x,r,rfl,h⟩
theorem Qk {P:Program} {l:List TypeId} (h:(l.all fun t=>P.readableRec t&&Nat.blt t P.types.size)=true):∀ t∈l,P.readableRec t=true∧t<P.types.size:=fun t ht=>by
 have:=List.all_eq_true.1 h t ht;rw [Bool.and_eq_true] at this;exact ⟨this.1,vc this.2⟩
theorem Ql {laid : List (String × DataW Unit)} {W : World} (hl : laidMet Tryz.prog laid W) (hm : ("nameplan/record.rules", Rows.laid_nameplan_record_rules) ∈ laid) : pc E.G (fun _ => False) W := by
 intro g e hg;have:(g,e)=(0,yI):=by
  have:(g,e)∈Cc:=hg
  simpa [Cc] using this
 cases this;exact Qd ag (n:=8) (m:=8) (t:=326) (vs:=(je 8 (Rows.laid_nameplan_record_rules (H:=Unit))).getD []) hl hm (by kernel_rfl) (by kernel_rfl) (by kernel_rfl) (by kernel_rfl) (by kernel_rfl) (by simp [yI,DV.cells]) (fun h=>h)
end Go.Proofs.YtfmdaiojokniiaaGreatDoor
end
