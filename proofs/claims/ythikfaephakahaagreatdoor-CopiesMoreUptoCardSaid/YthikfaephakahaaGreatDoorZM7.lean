/- Several texts of mine, one behind the other. Conditions: as each says. -/
import Derived.Test.YthikfaephakahaaGreatDoorZM4
import Derived.ChangeArms
import Derived.ProofKit
import Derived.Test.YthikfaephakahaaGreatDoorZM6
import Derived.OpenShut
import Derived.Test.YthikfaephakahaaGreatDoorZM1
import Derived.Deep.DeepHandedRow
import Derived.Lib.LaidTab
set_option linter.unusedVariables false
set_option linter.unusedSimpArgs false
section
namespace Go.Eng
open Go Go.RowKit
def sizeT (E:Env) (t:Nat):Nat:=match at? E.T t with
 |some i=>i.size
 |none=>0
def kindT (E:Env) (t:Nat):TK:=match at? E.T t with
 |some i=>i.k
 |none => .other
def ElemT (k:TK) (x:DV):Prop:=match k with
 | .struct _=>∃ cs,x = .agg cs
 |_=>x.cells=[x]
def HasT (E:Env):Nat→Nat→List DV→Prop
 | 0,_,_=>False
 |n+1,t,ds=>match kindT E t with
  | .bool=>∃ b,ds=[.bool b]
  | .int k=>∃ m,ds=[.int k m]∧(Lit.int k m).wf=true
  | .string=>∃ l:List UInt8,ds=[.str l]∧l.length≤maxLen
  | .slice e=>∃ l:List DV,ds=[.sl l]∧l.length≤maxLen∧∀ x∈l,HasT E n e x.cells∧ElemT (kindT E e) x
  | .struct fs=>ds.length=sizeT E t∧∀ p∈fs,HasT E n p.2 ((ds.drop p.1).take (sizeT E p.2))
  |_=>False
def tileB (E:Env):Nat→List (Nat × Nat)→Nat→Bool
 |o,[],n=>Nat.beq o n
 |o,p::l,n=>Nat.beq p.1 o&&tileB E (o+sizeT E p.2) l n
def okT (E:Env):Nat→Nat→Bool
 | 0,_=>false
 |m+1,t=>match at? E.T t with
  |none=>false
  |some i=>match i.k with
   | .bool=>Nat.beq i.size 1
   | .int _=>Nat.beq i.size 1
   | .string=>Nat.beq i.size 1
   | .slice e=>Nat.beq i.size 1&&Nat.blt 0 (sizeT E e)&&okT E m e
   | .struct fs=>tileB E 0 fs i.size&&fs.all fun p=>okT E m p.2
   |_=>false
theorem sizeT_eq {E:Env} (hE:E.OK) {t:Nat} {i:TInfo} (hi:E.T[t]? = some i):sizeT E t=E.P.cellsOf t:=by
 obtain ⟨ti,d,g1,g2,g3,g4,-⟩:=tinfo_inv (hE.types t i hi);simp [sizeT,at?_eq,hi,Program.cellsOf,g1,g4]
theorem okT_some {E:Env} {m t:Nat} (h:okT E m t=true):∃ i,E.T[t]? = some i:=by
 cases m with
 |zero=>cases h
 |succ m =>
  unfold okT at h;split at h
  ·cases h
  ·rename_i i hi; rw [at?_eq] at hi; exact ⟨i,hi⟩
theorem okT_size {E:Env} (hE:E.OK) {m t:Nat} (h:okT E m t=true):sizeT E t=E.P.cellsOf t:=by
 obtain ⟨i,hi⟩:=okT_some h;exact sizeT_eq hE hi
theorem VLD.append' {bad:Nat→Prop} {w:World} {a b:List DV} {u v:List Value} (h1:VLD bad w a u) (h2:VLD bad w b v):VLD bad w (a++b) (u++v):=by
 refine ⟨by simp [h1.1,h2.1],fun j x y hx hy=>?_⟩;rcases Nat.lt_or_ge j a.length with hj | hj
 ·rw [List.getElem?_append_left hj] at hx;rw [List.getElem?_append_left (by rw [← h1.1]; exact hj)] at hy;exact h1.2 j x y hx hy
 ·rw [List.getElem?_append_right hj] at hx;rw [List.getElem?_append_right (by rw [← h1.1]; exact hj),← h1.1] at hy;exact h2.2 _ x y hx hy
section
variable {E:Env} {H:Type} {enc:TypeId × Value→H} {w:World} {held:Bool}
theorem fields_has {n:Nat} {cs:List Value}:∀ {fs:List (Nat × Nat)} {o tot:Nat},tileB E o fs tot=true→cs.length=tot→o≤tot →
  (∀ p∈fs,∃ ds,HasT E n p.2 ds∧VLD (fun _=>False) w ds ((cs.drop p.1).take (sizeT E p.2))∧∀ v∈(cs.drop p.1).take (sizeT E p.2),v.oneCell'=true) →
  (∀ p∈fs,p.1+sizeT E p.2≤tot) →
  ∃ ds,ds.length=tot - o∧VLD (fun _=>False) w ds (cs.drop o)∧(∀ v∈cs.drop o,v.oneCell'=true)∧∀ p∈fs,o≤p.1∧HasT E n p.2 ((ds.drop (p.1 - o)).take (sizeT E p.2))
 | [],o,tot,h,hl,ho,_,_=>by
  obtain rfl:o=tot:=Nat.eq_of_beq_eq_true h;rw [List.drop_of_length_le (by omega)];exact ⟨[],by simp,⟨rfl,fun j x v hx=>by simp at hx⟩,fun v hv=>by simp at hv,fun p hp=>by simp at hp⟩
 |p::fs,o,tot,h,hl,ho,hf,hb=>by
  simp only [tileB,Bool.and_eq_true] at h;obtain ⟨h1,h2⟩:=h;have h1:=Nat.eq_of_beq_eq_true h1;have hle:=hb p (List.mem_cons_self ..);rw [h1] at hle;obtain ⟨d1,k1,k2,k3⟩:=hf p (List.mem_cons_self ..);rw [h1] at k2 k3;obtain ⟨d2,q1,q2,q3,q4⟩:=fields_has h2 hl hle (fun p hp=>hf p (List.mem_cons_of_mem _ hp)) (fun p hp=>hb p (List.mem_cons_of_mem _ hp));have hd1:d1.length=sizeT E p.2:=by rw [k2.1]; simp; omega
  have hsplit:cs.drop o=(cs.drop o).take (sizeT E p.2)++cs.drop (o+sizeT E p.2):=by
   rw [← List.drop_drop,List.take_append_drop]
  refine ⟨d1++d2,by simp [hd1,q1]; omega,by rw [hsplit]; exact k2.append' q2,fun v hv=>?_,fun p' hp=>?_⟩
  ·rw [hsplit] at hv;rcases List.mem_append.1 hv with hv | hv
   ·exact k3 v hv
   ·exact q3 v hv
  ·rcases List.mem_cons.1 hp with rfl | hp
   ·refine ⟨by omega,?_⟩;rw [h1,Nat.sub_self,List.drop_zero,List.take_append_of_le_length (by omega),List.take_of_length_le (by omega)];exact k1
   ·obtain ⟨r1,r2⟩:=q4 p' hp;refine ⟨by omega,?_⟩;rw [List.drop_append,List.drop_of_length_le (by omega),List.nil_append,show p'.1 - o - d1.length=p'.1 - (o+sizeT E p.2) by omega];exact r2
theorem tile_le:∀ {fs:List (Nat × Nat)} {o tot:Nat},tileB E o fs tot=true→o≤tot∧∀ p∈fs,p.1+sizeT E p.2≤tot
 | [],o,tot,h=>⟨Nat.le_of_eq (Nat.eq_of_beq_eq_true h),fun p hp=>by simp at hp⟩
 |p::fs,o,tot,h=>by
  simp only [tileB,Bool.and_eq_true] at h;obtain ⟨h1,h2⟩:=h;have h1:=Nat.eq_of_beq_eq_true h1;obtain ⟨k1,k2⟩:=tile_le h2;refine ⟨by omega,fun p' hp=>?_⟩;rcases List.mem_cons.1 hp with rfl | hp
  ·omega
  ·exact k2 p' hp
theorem trod_has (hE:E.OK):∀ (fuel m t:Nat) (cs:List Value) (x:DataW H × List MemPlace),okT E m t=true→DataW.trod enc E.P w 0 (fun _=>true) held fuel t cs=some x →
  ∃ ds,HasT E fuel t ds∧VLD (fun _=>False) w ds cs∧∀ v∈cs,v.oneCell'=true:=by
 intro fuel
 induction fuel with
 |zero=>intro m t cs x _ h; simp [DataW.trod] at h
 |succ fuel ih =>
  intro m t cs x hok h;cases m with
  |zero=>cases hok
  |succ m =>
   unfold okT at hok;split at hok
   ·cases hok
   rename_i i hi;have hk:kindT E t=i.k:=by simp [kindT,hi]
   have hsz:sizeT E t=i.size:=by simp [sizeT,hi]
   rw [at?_eq] at hi;obtain ⟨ti,d,g1,g2,g3,g4,-⟩:=tinfo_inv (hE.types t i hi);have one:∀ {y:DV} {v:Value},VD (fun _=>False) w y v→v.oneCell'=true→cs=[v]→VLD (fun _=>False) w [y] cs∧∀ v∈cs,v.oneCell'=true:=fun {y v} h1 h2 h3=>by
    subst h3;refine ⟨⟨rfl,fun j x u hx hu=>?_⟩,fun u hu=>by simp at hu; subst hu; exact h2⟩;cases j with
    |zero=>simp at hx hu; subst hx; subst hu; exact h1
    |succ j=>simp at hx
   split at hok
   ·rename_i hik;have hd:d = .bool:=by rw [hik] at g3; cases d <;> first | rfl | cases g3
    subst hd;obtain ⟨b,rfl,-⟩:=DataW.trod_bool g2 h;exact ⟨[.bool b],by unfold HasT; rw [hk,hik]; exact ⟨b,rfl⟩,one (.bool b) rfl rfl⟩
   ·rename_i k hik;obtain rfl:=tk_int (hik.symm.trans g3);obtain ⟨n,rfl,-,hw⟩:=DataW.trod_int g2 h;exact ⟨[.int k n],by unfold HasT; rw [hk,hik]; exact ⟨n,rfl,hw⟩,one (.int k n) rfl rfl⟩
   ·rename_i hik;obtain rfl:=tk_string (hik.symm.trans g3);obtain ⟨s,rfl,-,hl⟩:=DataW.trod_string g2 h;refine ⟨[.str s.data.toList],?_,one (v := .string s) ?_ rfl rfl⟩
    ·unfold HasT; rw [hk,hik]; exact ⟨_,rfl,by rw [Array.length_toList]; exact hl⟩
    ·have:=VD.str (bad:=fun _=>False) (w:=w) s.data.toList
     simpa using this
   ·rename_i e hik;obtain rfl:=tk_slice (hik.symm.trans g3);simp only [Bool.and_eq_true] at hok;obtain ⟨⟨-,hpos⟩,hoke⟩:=hok;have hpos:=blt_lt hpos;have hse:=okT_size hE hoke;rcases DataW.trod_slice g2 h with ⟨rfl,-⟩ | ⟨a,len,cap,elems,rest,n,hn,rfl,-,-,hlc,hcm,hel,helem,hsp,-⟩
    ·exact ⟨[.sl []],by unfold HasT; rw [hk,hik]; exact ⟨[],rfl,Nat.zero_le _,fun x hx=>by simp at hx⟩,one .slnil rfl rfl⟩
    cases hn;obtain ⟨hrl,hrest⟩:=hsp rfl;rw [← hse] at helem hrest;have spot:0<cap→a.spot=none:=fun hc=>by
     have hcell:∀ {q:Option (DataW H × List MemPlace)},(w.cells? 0 (a.add 0) (sizeT E e)).bind (DataW.trod enc E.P w 0 (fun _=>true) held fuel e)=q→q.isSome→a.spot=none:=fun {q} h1 h2=>by
      cases hcs:w.cells? 0 (a.add 0) (sizeT E e) with
      |none=>rw [hcs] at h1; subst h1; cases h2
      |some l =>
       obtain ⟨-,hl,hcell⟩:=World.cells?_some hcs;have:=hcell 0 hpos;rw [List.getElem?_eq_getElem (by omega)] at this;cases hs:a.spot with
       |none=>rfl
       |some k =>
        have hns:((a.add 0).add 0).spot.isSome=true:=by simp [Addr.add,hs]
        simp only [World.cell?,hns,if_true] at this;split at this <;> cases this
     by_cases h0:0<len
     ·have:=helem 0 h0;rw [Nat.zero_mul] at this;exact hcell this (by simp [hel,h0])
     ·obtain rfl:len=0:=by omega
      have:=hrest 0 (by omega);rw [Nat.zero_add,Nat.zero_mul] at this;exact hcell this (by simp [hrl]; omega)
    by_cases hc0:cap=0
    ·subst hc0;obtain rfl:len=0:=by omega
     exact ⟨[.sl []],by unfold HasT; rw [hk,hik]; exact ⟨[],rfl,Nat.zero_le _,fun x hx=>by simp at hx⟩,one (.slz a) rfl rfl⟩
    have hspot:=spot (by omega);obtain ⟨blk,off,sp⟩:=a;cases hspot;have key:∀ i,∃ x:DV,i<len→HasT E fuel e x.cells∧ElemT (kindT E e) x∧x.cells.length=sizeT E e∧∀ (j:Nat) (y:DV),x.cells[j]? = some y→∃ v,w.cell? ⟨blk,off+(i*sizeT E e+j),none⟩=some v∧v.oneCell'=true∧VD (fun _=>False) w y v:=fun i=>by
     by_cases hi:i<len
     case neg=>exact ⟨.undef,fun h=>absurd h hi⟩
     have he:=helem i hi;cases hcs:w.cells? 0 ((⟨blk,off,none⟩:Addr).add (i*sizeT E e)) (sizeT E e) with
     |none=>rw [hcs] at he; simp [hel,hi] at he
     |some l =>
      rw [hcs] at he;obtain ⟨-,hl,hcell⟩:=World.cells?_some hcs;have he':DataW.trod enc E.P w 0 (fun _=>true) held fuel e l=some (elems[i]'(by omega)):=by
       rw [← List.getElem?_eq_getElem (by omega)]; exact he
      obtain ⟨ds,k1,k2,k3⟩:=ih m e l _ hoke he';have hdl:ds.length=sizeT E e:=by rw [k2.1,hl]
      have cellsAt:∀ (j:Nat) (y:DV),ds[j]? = some y→∃ v,w.cell? ⟨blk,off+(i*sizeT E e+j),none⟩=some v∧v.oneCell'=true∧VD (fun _=>False) w y v:=fun j y hy=>by
       have hj:=lt_of_getElem? hy;have hjl:j<l.length:=by rw [← k2.1]; exact hj
       have:=hcell j (by omega);rw [List.getElem?_eq_getElem hjl] at this;refine ⟨l[j],?_,k3 _ (List.getElem_mem hjl),k2.2 j y _ hy (by simp [hjl])⟩;rw [add_at,add_at,Nat.add_assoc] at this;exact this
      by_cases hstr:∃ fs,kindT E e = .struct fs
      ·obtain ⟨fs,hfs⟩:=hstr;exact ⟨.agg ds,fun _=>⟨k1,by rw [hfs]; exact ⟨ds,rfl⟩,hdl,cellsAt⟩⟩
      ·obtain ⟨y,hy,hyc⟩:∃ y,ds=[y]∧y.cells=[y]:=by
        unfold HasT at k1;cases fuel with
        |zero=>exact k1.elim
        |succ fuel =>
         simp only at k1;split at k1
         ·obtain ⟨b,rfl⟩:=k1; exact ⟨_,rfl,rfl⟩
         ·obtain ⟨b,rfl,-⟩:=k1; exact ⟨_,rfl,rfl⟩
         ·obtain ⟨b,rfl,-⟩:=k1; exact ⟨_,rfl,rfl⟩
         ·obtain ⟨b,rfl,-⟩:=k1; exact ⟨_,rfl,rfl⟩
         ·rename_i fs hfs; exact absurd ⟨fs,hfs⟩ hstr
         ·exact k1.elim
       subst hy;refine ⟨y,fun _=>⟨by rw [hyc]; exact k1,?_,by rw [hyc]; exact hdl,by rw [hyc]; exact cellsAt⟩⟩;unfold ElemT;split
       ·rename_i fs hfs; exact absurd ⟨fs,hfs⟩ hstr
       ·exact hyc
    let g:Nat→DV:=fun i=>Classical.choose (key i)
    have hg:∀ i,i<len→HasT E fuel e (g i).cells∧ElemT (kindT E e) (g i)∧(g i).cells.length=sizeT E e∧∀ (j:Nat) (y:DV),(g i).cells[j]? = some y→∃ v,w.cell? ⟨blk,off+(i*sizeT E e+j),none⟩=some v∧v.oneCell'=true∧VD (fun _=>False) w y v:=fun i=>Classical.choose_spec (key i);have hget:∀ (i:Nat) (y:DV),((List.range len).map g)[i]? = some y→i<len∧y=g i:=fun i y hy=>by
     have hi:i<len:=by have:=lt_of_getElem? hy; simpa using this
     simp [hi] at hy;exact ⟨hi,hy.symm⟩
    refine ⟨[.sl ((List.range len).map g)],?_,one (v := .slice (some ⟨blk,off,none⟩) len cap) ?_ rfl rfl⟩
    ·unfold HasT;rw [hk,hik];refine ⟨_,rfl,by simp; omega,fun x hx=>?_⟩;obtain ⟨i,hi⟩:=List.getElem?_of_mem hx;obtain ⟨h1,rfl⟩:=hget i x hi;exact ⟨(hg i h1).1,(hg i h1).2.1⟩
    ·have:=VD.sl (bad:=fun _=>False) (w:=w) ((List.range len).map g) blk off cap (sizeT E e) (fun i j=>(w.cell? ⟨blk,off+(i*sizeT E e+j),none⟩).getD undef) (fun _ h=>h) hpos (by simpa using hlc)
      (fun i y hy=>by obtain ⟨h1,rfl⟩:=hget i y hy; exact (hg i h1).2.2.1)
      (fun i j y z hy hz=>by obtain ⟨h1,rfl⟩:=hget i y hy; obtain ⟨v,q1,q2,q3⟩:=(hg i h1).2.2.2 j z hz; rw [q1]; rfl)
      (fun i j y z hy hz=>by obtain ⟨h1,rfl⟩:=hget i y hy; obtain ⟨v,q1,q2,q3⟩:=(hg i h1).2.2.2 j z hz; rw [q1]; exact q3)
      (fun i j y z hy hz=>by obtain ⟨h1,rfl⟩:=hget i y hy; obtain ⟨v,q1,q2,q3⟩:=(hg i h1).2.2.2 j z hz; rw [q1]; exact q2)
     simpa using this
   ·rename_i fs hik;obtain ⟨fl,rfl,rfl⟩:=tk_struct (hik.symm.trans g3);simp only [Bool.and_eq_true] at hok;obtain ⟨htile,hall⟩:=hok;obtain ⟨xs,n,hn,-,hlen,hxl,hf⟩:=DataW.trod_struct g2 h;cases hn;rw [← sizeT_eq hE hi,hsz] at hlen;obtain ⟨-,hle⟩:=tile_le htile
    obtain ⟨ds,r1,r2,r3,r4⟩:=fields_has (n:=fuel) (w:=w) (cs:=cs) htile hlen (Nat.zero_le _) (fun p hp=>by
     obtain ⟨f,hfm,rfl⟩:=List.mem_map.1 hp;have hokf:=List.all_eq_true.1 hall _ hp;obtain ⟨i',hi'⟩:=List.getElem?_of_mem hfm;have hi'':fl.toList.toArray[i']? = some f:=by simpa using hi'
     have:=hf i' f (by simpa using hi');have hlt:i'<xs.length:=by rw [hxl]; have:=lt_of_getElem? hi'; simpa using this
     rw [List.getElem?_eq_getElem hlt] at this;obtain ⟨ds,k1,k2,k3⟩:=ih m f.type _ _ hokf this;rw [← okT_size hE hokf] at k2 k3
     exact ⟨ds,k1,k2,k3⟩) hle
    rw [List.drop_zero] at r2 r3;refine ⟨ds,?_,r2,r3⟩;unfold HasT;rw [hk,hik];exact ⟨by rw [r1,hsz]; rfl,fun p hp=>(r4 p hp).2⟩
   ·cases hok
end
end Go.Eng
end
section
namespace Go.Eng
open Go Go.RowKit
variable {E:Env} {n t:Nat} {ds:List DV}
theorem hasT_str (hk:kindT E t = .string) (h:HasT E n t ds):∃ l:List UInt8,ds=[.str l]∧l.length≤maxLen:=by
 cases n with
 |zero=>exact h.elim
 |succ n=>unfold HasT at h; rw [hk] at h; exact h
theorem hasT_int {k:IntKind} (hk:kindT E t = .int k) (h:HasT E n t ds):∃ m,ds=[.int k m]∧(Lit.int k m).wf=true:=by
 cases n with
 |zero=>exact h.elim
 |succ n=>unfold HasT at h; rw [hk] at h; exact h
theorem hasT_bool (hk:kindT E t = .bool) (h:HasT E n t ds):∃ b,ds=[.bool b]:=by
 cases n with
 |zero=>exact h.elim
 |succ n=>unfold HasT at h; rw [hk] at h; exact h
theorem hasT_slice {e:Nat} (hk:kindT E t = .slice e) (h:HasT E n t ds):∃ l:List DV,ds=[.sl l]∧l.length≤maxLen∧∀ x∈l,(∃ m,HasT E m e x.cells)∧ElemT (kindT E e) x:=by
 cases n with
 |zero=>exact h.elim
 |succ n =>
  unfold HasT at h;rw [hk] at h;obtain ⟨l,h1,h2,h3⟩:=h;exact ⟨l,h1,h2,fun x hx=>⟨⟨n,(h3 x hx).1⟩,(h3 x hx).2⟩⟩
theorem hasT_struct {fs:List (Nat × Nat)} (hk:kindT E t = .struct fs) (h:HasT E n t ds):∃ m,ds.length=sizeT E t∧∀ p∈fs,HasT E m p.2 ((ds.drop p.1).take (sizeT E p.2)):=by
 cases n with
 |zero=>exact h.elim
 |succ n=>unfold HasT at h; rw [hk] at h; exact ⟨n,h⟩
theorem dec_list {α:Type} {e:Nat} {en:α→DV} {good:α→Prop} (hd:∀ x:DV,(∃ m,HasT E m e x.cells)→ElemT (kindT E e) x→∃ a,x=en a∧good a):∀ {l:List DV},(∀ x∈l,(∃ m,HasT E m e x.cells)∧ElemT (kindT E e) x)→∃ l':List α,l=l'.map en∧∀ a∈l',good a
 | [],_=>⟨[],rfl,fun a ha=>by simp at ha⟩
 |x::l,h=>by
  obtain ⟨a,rfl,ha⟩:=hd x (h x (List.mem_cons_self ..)).1 (h x (List.mem_cons_self ..)).2;obtain ⟨l',rfl,has⟩:=dec_list hd (fun y hy=>h y (List.mem_cons_of_mem _ hy));refine ⟨a::l',rfl,fun b hb=>?_⟩;rcases List.mem_cons.1 hb with rfl | hb
  ·exact ha
  ·exact has b hb
def ArgT (E:Env) (t:Nat) (x:DV):Prop:=(∃ m,HasT E m t x.cells)∧ElemT (kindT E t) x
theorem arg_has (hE:E.OK) {H:Type} {enc:TypeId × Value→H} {W:World} {base m:Nat} {v:Value} {d:DataW H} {p:List MemPlace} {held:Bool} (hok:okT E m t=true) (hv:Value.okWide E.P W .any base t v) (h:DataW.Trod enc E.P W 0 (fun _=>true) held t v d p):∃ x,VD (fun _=>False) W x v∧ArgT E t x:=by
 obtain ⟨fuel,h⟩:=h;obtain ⟨ds,h1,h2,h3⟩:=trod_has hE fuel m t _ _ hok h;obtain ⟨i,hi⟩:=okT_some hok;obtain ⟨ti,dd,g1,g2,g3,g4,-⟩:=tinfo_inv (hE.types t i hi);have hk:kindT E t=tk dd:=by simp [kindT,at?_eq,hi,g3]
 by_cases hs:∃ fs,dd = .struct fs
 ·obtain ⟨fs,rfl⟩:=hs;simp only [Value.okWide,g2] at hv;obtain ⟨cs,rfl,-,-⟩:=hv;refine ⟨.agg ds,.agg ds cs (by simpa [Value.cells] using h2.1) (fun j x v hx hv=>h2.2 j x v hx (by simpa [Value.cells] using hv)),⟨fuel,h1⟩,?_⟩;rw [hk];exact ⟨ds,rfl⟩
 ·have hone:∃ y,ds=[y]∧y.cells=[y]:=by
   cases fuel with
   |zero=>exact h1.elim
   |succ fuel =>
    unfold HasT at h1;split at h1
    ·obtain ⟨b,rfl⟩:=h1; exact ⟨_,rfl,rfl⟩
    ·obtain ⟨b,rfl,-⟩:=h1; exact ⟨_,rfl,rfl⟩
    ·obtain ⟨b,rfl,-⟩:=h1; exact ⟨_,rfl,rfl⟩
    ·obtain ⟨b,rfl,-⟩:=h1; exact ⟨_,rfl,rfl⟩
    ·rename_i fs hfs;rw [hk] at hfs;exact absurd (by cases dd <;> first | exact ⟨_,rfl⟩ | (cases hfs; done)) hs
    ·exact h1.elim
  obtain ⟨y,rfl,hy⟩:=hone;have hagg:∀ cs,v ≠ .agg cs:=fun cs e=>by
   subst e;have hnot:∀ n e',dd ≠ .array n e':=fun n e' e=>by
    subst e;cases fuel with
    |zero=>exact h1.elim
    |succ fuel=>unfold HasT at h1; rw [hk] at h1; exact h1
   unfold Value.okWide at hv;rw [g2] at hv;cases dd <;> first
    |exact absurd ⟨_,rfl⟩ hs
    |exact absurd rfl (hnot _ _)
    |(simp [Cell.okWide,Cell.ok,g2] at hv; done)
  have hvc:v.cells.toList=[v]:=by
   cases v <;> first | rfl | exact absurd rfl (hagg _)
  rw [hvc] at h2;refine ⟨y,h2.2 0 y v rfl rfl,⟨fuel,by rw [hy]; exact h1⟩,?_⟩;unfold ElemT;split
  ·rename_i fs hfs;rw [hk] at hfs;exact absurd (by cases dd <;> first | exact ⟨_,rfl⟩ | (cases hfs; done)) hs
  ·exact hy
def ArgsT (E:Env):List Nat→List DV→Prop
 | [],xs=>xs=[]
 |t::ts,x::xs=>ArgT E t x∧ArgsT E ts xs
 |_::_,[]=>False
theorem args_has (hE:E.OK) {H:Type} {enc:TypeId × Value→H} {W:World} {base m:Nat} {held:Bool}:∀ {ts:List Nat} {vs:List Value} {ds:List (DataW H)} {ps:List MemPlace},ts.all (okT E m)=true →
  (∀ (j:Nat) t v,ts[j]? = some t→vs[j]? = some v→Value.okWide E.P W .any base t v)→DataW.TrodAll enc E.P W 0 (fun _=>true) held ts vs ds ps→∃ xs,VLD (fun _=>False) W xs vs∧ArgsT E ts xs
 | [],vs,ds,ps,_,_,h=>by
  obtain ⟨rfl,-,-⟩:=ChangeShapes.trodAll_nil h;exact ⟨[],⟨rfl,fun j x v hx=>by simp at hx⟩,rfl⟩
 |t::ts,vs,ds,ps,hok,hv,h=>by
  obtain ⟨v,vs1,d,ds1,p,q,rfl,rfl,rfl,h1,h2⟩:=ChangeShapes.trodAll_cons h;simp only [List.all_cons,Bool.and_eq_true] at hok;obtain ⟨x,k1,k2⟩:=arg_has hE hok.1 (hv 0 t v rfl rfl) h1;obtain ⟨xs,q1,q2⟩:=args_has hE hok.2 (fun j t v ht hv'=>hv (j+1) t v (by simpa using ht) (by simpa using hv')) h2;refine ⟨x::xs,⟨by simp [q1.1],fun j y u hy hu=>?_⟩,k2,q2⟩;cases j with
  |zero=>simp at hy hu; subst hy; subst hu; exact k1
  |succ j=>exact q1.2 j y u (by simpa using hy) (by simpa using hu)
end Go.Eng
end
section
namespace Go.Proofs.YthikfaephakahaaGreatDoor.P
open Go Go.Eng
set_option maxRecDepth 100000
def U64 (n:Int):Prop:=0≤n∧n≤18446744073709551615
theorem i64_wf {n:Int} (h:(Lit.int .i64 n).wf=true):I64 n:=by
 simp [Lit.wf,IntKind.min,IntKind.max,IntKind.signed,IntKind.bits] at h;exact h
theorem u64_wf {n:Int} (h:(Lit.int .u64 n).wf=true):U64 n:=by
 simp [Lit.wf,IntKind.min,IntKind.max,IntKind.signed,IntKind.bits] at h;exact h
theorem dec_int {x:DV} (h:∃ m,HasT E m 3 x.cells) (he:ElemT (kindT E 3) x):∃ n:Int,x = .int .i64 n∧I64 n:=by
 obtain ⟨m,h⟩:=h;obtain ⟨n,h1,h2⟩:=hasT_int (k := .i64) (by kernel_rfl) h;have he:x.cells=[x]:=he;rw [he] at h1;cases h1;exact ⟨n,rfl,i64_wf h2⟩
def Datum.Good (a:Datum):Prop:=(a.text.length≤maxLen)∧(I64 a.n)∧(I64 a.m)
theorem decC_Datum {m:Nat} {ds:List DV} (h:HasT E m 83 ds):∃ a:Datum,DV.agg ds=a.enc∧a.Good:=by
 obtain ⟨m,hl,hf⟩:=hasT_struct (fs:=[(0,9),(1,3),(2,3)]) (by kernel_rfl) h;have hl:ds.length=3:=hl
 match ds,hl with
 | [x0,x1,x2],_ =>
  obtain ⟨v0,e0,g0⟩:=hasT_str (by kernel_rfl) (hf (0,9) (by simp));have e0:[x0]=[DV.str v0]:=e0;cases e0;obtain ⟨v1,e1,g1⟩:=hasT_int (k := .i64) (by kernel_rfl) (hf (1,3) (by simp));have e1:[x1]=[DV.int .i64 v1]:=e1;cases e1;obtain ⟨v2,e2,g2⟩:=hasT_int (k := .i64) (by kernel_rfl) (hf (2,3) (by simp));have e2:[x2]=[DV.int .i64 v2]:=e2;cases e2;exact ⟨⟨v0,v1,v2⟩,rfl,⟨g0,i64_wf g1,i64_wf g2⟩⟩
theorem dec_Datum {x:DV} (h:∃ m,HasT E m 83 x.cells) (he:ElemT (kindT E 83) x):∃ a:Datum,x=a.enc∧a.Good:=by
 obtain ⟨m,h⟩:=h;obtain ⟨cs,rfl⟩:∃ cs,x = .agg cs:=he;have h:HasT E m 83 cs:=h;exact decC_Datum h
def RSet.Good (a:RSet):Prop:=(a.name.length≤maxLen)∧(I64 a.type)∧(I64 a.life)∧(a.data.length≤maxLen∧∀ x∈a.data,x.Good)
theorem decC_RSet {m:Nat} {ds:List DV} (h:HasT E m 55 ds):∃ a:RSet,DV.agg ds=a.enc∧a.Good:=by
 obtain ⟨m,hl,hf⟩:=hasT_struct (fs:=[(0,9),(1,3),(2,3),(3,53)]) (by kernel_rfl) h;have hl:ds.length=4:=hl
 match ds,hl with
 | [x0,x1,x2,x3],_ =>
  obtain ⟨v0,e0,g0⟩:=hasT_str (by kernel_rfl) (hf (0,9) (by simp));have e0:[x0]=[DV.str v0]:=e0;cases e0;obtain ⟨v1,e1,g1⟩:=hasT_int (k := .i64) (by kernel_rfl) (hf (1,3) (by simp));have e1:[x1]=[DV.int .i64 v1]:=e1;cases e1;obtain ⟨v2,e2,g2⟩:=hasT_int (k := .i64) (by kernel_rfl) (hf (2,3) (by simp));have e2:[x2]=[DV.int .i64 v2]:=e2;cases e2;obtain ⟨l3,e3,n3,g3⟩:=hasT_slice (e:=83) (by kernel_rfl) (hf (3,53) (by simp));have e3:[x3]=[DV.sl l3]:=e3;cases e3;obtain ⟨v3,rfl,q3⟩:=dec_list (good:=Datum.Good) (fun x h1 h2=>dec_Datum h1 h2) g3;exact ⟨⟨v0,v1,v2,v3⟩,rfl,⟨g0,i64_wf g1,i64_wf g2,⟨by simpa using n3,q3⟩⟩⟩
def Sig.Good (a:Sig):Prop:=(a.zone.length≤maxLen)∧(I64 a.key)∧(I64 a.alg)∧(I64 a.frm)∧(I64 a.upto)∧(U64 a.sum)
theorem decC_Sig {m:Nat} {ds:List DV} (h:HasT E m 181 ds):∃ a:Sig,DV.agg ds=a.enc∧a.Good:=by
 obtain ⟨m,hl,hf⟩:=hasT_struct (fs:=[(0,9),(1,3),(2,3),(3,3),(4,3),(5,179)]) (by kernel_rfl) h;have hl:ds.length=6:=hl
 match ds,hl with
 | [x0,x1,x2,x3,x4,x5],_ =>
  obtain ⟨v0,e0,g0⟩:=hasT_str (by kernel_rfl) (hf (0,9) (by simp));have e0:[x0]=[DV.str v0]:=e0;cases e0;obtain ⟨v1,e1,g1⟩:=hasT_int (k := .i64) (by kernel_rfl) (hf (1,3) (by simp));have e1:[x1]=[DV.int .i64 v1]:=e1;cases e1;obtain ⟨v2,e2,g2⟩:=hasT_int (k := .i64) (by kernel_rfl) (hf (2,3) (by simp));have e2:[x2]=[DV.int .i64 v2]:=e2;cases e2;obtain ⟨v3,e3,g3⟩:=hasT_int (k := .i64) (by kernel_rfl) (hf (3,3) (by simp));have e3:[x3]=[DV.int .i64 v3]:=e3;cases e3;obtain ⟨v4,e4,g4⟩:=hasT_int (k := .i64) (by kernel_rfl) (hf (4,3) (by simp));have e4:[x4]=[DV.int .i64 v4]:=e4;cases e4;obtain ⟨v5,e5,g5⟩:=hasT_int (k := .u64) (by kernel_rfl) (hf (5,179) (by simp));have e5:[x5]=[DV.int .u64 v5]:=e5;cases e5;exact ⟨⟨v0,v1,v2,v3,v4,v5⟩,rfl,⟨g0,i64_wf g1,i64_wf g2,i64_wf g3,i64_wf g4,u64_wf g5⟩⟩
theorem dec_Sig {x:DV} (h:∃ m,HasT E m 181 x.cells) (he:ElemT (kindT E 181) x):∃ a:Sig,x=a.enc∧a.Good:=by
 obtain ⟨m,h⟩:=h;obtain ⟨cs,rfl⟩:∃ cs,x = .agg cs:=he;have h:HasT E m 181 cs:=h;exact decC_Sig h
def Signed.Good (a:Signed):Prop:=(a.set.Good)∧(a.sigs.length≤maxLen∧∀ x∈a.sigs,x.Good)
theorem decC_Signed {m:Nat} {ds:List DV} (h:HasT E m 81 ds):∃ a:Signed,DV.agg ds=a.enc∧a.Good:=by
 obtain ⟨m,hl,hf⟩:=hasT_struct (fs:=[(0,55),(4,79)]) (by kernel_rfl) h;have hl:ds.length=5:=hl
 match ds,hl with
 | [x0,x1,x2,x3,x4],_ =>
  obtain ⟨v0,e0,g0⟩:=decC_RSet (hf (0,55) (by simp));have e0:DV.agg [x0,x1,x2,x3]=v0.enc:=e0;cases e0;obtain ⟨l1,e1,n1,g1⟩:=hasT_slice (e:=181) (by kernel_rfl) (hf (4,79) (by simp));have e1:[x4]=[DV.sl l1]:=e1;cases e1;obtain ⟨v1,rfl,q1⟩:=dec_list (good:=Sig.Good) (fun x h1 h2=>dec_Sig h1 h2) g1;exact ⟨⟨v0,v1⟩,rfl,⟨g0,⟨by simpa using n1,q1⟩⟩⟩
theorem dec_Signed {x:DV} (h:∃ m,HasT E m 81 x.cells) (he:ElemT (kindT E 81) x):∃ a:Signed,x=a.enc∧a.Good:=by
 obtain ⟨m,h⟩:=h;obtain ⟨cs,rfl⟩:∃ cs,x = .agg cs:=he;have h:HasT E m 81 cs:=h;exact decC_Signed h
def Zone.Good (a:Zone):Prop:=(a.apex.length≤maxLen)∧(a.sets.length≤maxLen∧∀ x∈a.sets,x.Good)
theorem decC_Zone {m:Nat} {ds:List DV} (h:HasT E m 43 ds):∃ a:Zone,DV.agg ds=a.enc∧a.Good:=by
 obtain ⟨m,hl,hf⟩:=hasT_struct (fs:=[(0,9),(1,41)]) (by kernel_rfl) h;have hl:ds.length=2:=hl
 match ds,hl with
 | [x0,x1],_ =>
  obtain ⟨v0,e0,g0⟩:=hasT_str (by kernel_rfl) (hf (0,9) (by simp));have e0:[x0]=[DV.str v0]:=e0;cases e0;obtain ⟨l1,e1,n1,g1⟩:=hasT_slice (e:=81) (by kernel_rfl) (hf (1,41) (by simp));have e1:[x1]=[DV.sl l1]:=e1;cases e1;obtain ⟨v1,rfl,q1⟩:=dec_list (good:=Signed.Good) (fun x h1 h2=>dec_Signed h1 h2) g1;exact ⟨⟨v0,v1⟩,rfl,⟨g0,⟨by simpa using n1,q1⟩⟩⟩
structure Host where
 name:Text
 addr:Int
 owner:Int
 deriving DecidableEq
@[reducible] def Host.enc (a : Host) : DV := .agg [.str a.name, .int .i64 a.addr, .int .i64 a.owner]
def Host.Good (a:Host):Prop:=(a.name.length≤maxLen)∧(I64 a.addr)∧(I64 a.owner)
structure Copy where
 host:Int
 frm:Int
 upto:Int
 zone:Zone
 deriving DecidableEq
@[reducible] def Copy.enc (a : Copy) : DV := .agg [.int .i64 a.host, .int .i64 a.frm, .int .i64 a.upto, .str a.zone.apex, .sl (a.zone.sets.map Signed.enc)]
def Copy.Good (a:Copy):Prop:=(I64 a.host)∧(I64 a.frm)∧(I64 a.upto)∧(a.zone.Good)
theorem decC_Copy {m:Nat} {ds:List DV} (h:HasT E m 45 ds):∃ a:Copy,DV.agg ds=a.enc∧a.Good:=by
 obtain ⟨m,hl,hf⟩:=hasT_struct (fs:=[(0,3),(1,3),(2,3),(3,43)]) (by kernel_rfl) h;have hl:ds.length=5:=hl
 match ds,hl with
 | [x0,x1,x2,x3,x4],_ =>
  obtain ⟨v0,e0,g0⟩:=hasT_int (k := .i64) (by kernel_rfl) (hf (0,3) (by simp));have e0:[x0]=[DV.int .i64 v0]:=e0;cases e0;obtain ⟨v1,e1,g1⟩:=hasT_int (k := .i64) (by kernel_rfl) (hf (1,3) (by simp));have e1:[x1]=[DV.int .i64 v1]:=e1;cases e1;obtain ⟨v2,e2,g2⟩:=hasT_int (k := .i64) (by kernel_rfl) (hf (2,3) (by simp));have e2:[x2]=[DV.int .i64 v2]:=e2;cases e2;obtain ⟨v3,e3,g3⟩:=decC_Zone (hf (3,43) (by simp));have e3:DV.agg [x3,x4]=v3.enc:=e3;cases e3;exact ⟨⟨v0,v1,v2,v3⟩,rfl,⟨i64_wf g0,i64_wf g1,i64_wf g2,g3⟩⟩
theorem dec_Copy {x:DV} (h:∃ m,HasT E m 45 x.cells) (he:ElemT (kindT E 45) x):∃ a:Copy,x=a.enc∧a.Good:=by
 obtain ⟨m,h⟩:=h;obtain ⟨cs,rfl⟩:∃ cs,x = .agg cs:=he;have h:HasT E m 45 cs:=h;exact decC_Copy h
structure Placed where
 host:Int
 zone:Zone
 deriving DecidableEq
@[reducible] def Placed.enc (a : Placed) : DV := .agg [.int .i64 a.host, .str a.zone.apex, .sl (a.zone.sets.map Signed.enc)]
def Placed.Good (a:Placed):Prop:=(I64 a.host)∧(a.zone.Good)
structure Wld where
 hosts:List Host
 zones:List Placed
 anchor:RSet
 hints:List Int
 deriving DecidableEq
@[reducible] def Wld.enc (a : Wld) : DV := .agg [.sl (a.hosts.map Host.enc), .sl (a.zones.map Placed.enc), .str a.anchor.name, .int .i64 a.anchor.type, .int .i64 a.anchor.life, .sl (a.anchor.data.map Datum.enc), .sl (a.hints.map (.int .i64))]
def Wld.Good (a:Wld):Prop:=(a.hosts.length≤maxLen∧∀ x∈a.hosts,x.Good)∧(a.zones.length≤maxLen∧∀ x∈a.zones,x.Good)∧(a.anchor.Good)∧(a.hints.length≤maxLen∧∀ x∈a.hints,I64 x)
structure Version where
 time:Int
 zone:Zone
 deriving DecidableEq
@[reducible] def Version.enc (a : Version) : DV := .agg [.int .i64 a.time, .str a.zone.apex, .sl (a.zone.sets.map Signed.enc)]
def Version.Good (a:Version):Prop:=(I64 a.time)∧(a.zone.Good)
theorem decC_Version {m:Nat} {ds:List DV} (h:HasT E m 49 ds):∃ a:Version,DV.agg ds=a.enc∧a.Good:=by
 obtain ⟨m,hl,hf⟩:=hasT_struct (fs:=[(0,3),(1,43)]) (by kernel_rfl) h;have hl:ds.length=3:=hl
 match ds,hl with
 | [x0,x1,x2],_ =>
  obtain ⟨v0,e0,g0⟩:=hasT_int (k := .i64) (by kernel_rfl) (hf (0,3) (by simp));have e0:[x0]=[DV.int .i64 v0]:=e0;cases e0;obtain ⟨v1,e1,g1⟩:=decC_Zone (hf (1,43) (by simp));have e1:DV.agg [x1,x2]=v1.enc:=e1;cases e1;exact ⟨⟨v0,v1⟩,rfl,⟨i64_wf g0,g1⟩⟩
theorem dec_Version {x:DV} (h:∃ m,HasT E m 49 x.cells) (he:ElemT (kindT E 49) x):∃ a:Version,x=a.enc∧a.Good:=by
 obtain ⟨m,h⟩:=h;obtain ⟨cs,rfl⟩:∃ cs,x = .agg cs:=he;have h:HasT E m 49 cs:=h;exact decC_Version h
structure Poll where
 host:Int
 time:Int
 lost:Bool
 deriving DecidableEq
@[reducible] def Poll.enc (a : Poll) : DV := .agg [.int .i64 a.host, .int .i64 a.time, .bool a.lost]
def Poll.Good (a:Poll):Prop:=(I64 a.host)∧(I64 a.time)
theorem decC_Poll {m:Nat} {ds:List DV} (h:HasT E m 37 ds):∃ a:Poll,DV.agg ds=a.enc∧a.Good:=by
 obtain ⟨m,hl,hf⟩:=hasT_struct (fs:=[(0,3),(1,3),(2,4)]) (by kernel_rfl) h;have hl:ds.length=3:=hl
 match ds,hl with
 | [x0,x1,x2],_ =>
  obtain ⟨v0,e0,g0⟩:=hasT_int (k := .i64) (by kernel_rfl) (hf (0,3) (by simp));have e0:[x0]=[DV.int .i64 v0]:=e0;cases e0;obtain ⟨v1,e1,g1⟩:=hasT_int (k := .i64) (by kernel_rfl) (hf (1,3) (by simp));have e1:[x1]=[DV.int .i64 v1]:=e1;cases e1;obtain ⟨v2,e2⟩:=hasT_bool (by kernel_rfl) (hf (2,4) (by simp));have e2:[x2]=[DV.bool v2]:=e2;cases e2;exact ⟨⟨v0,v1,v2⟩,rfl,⟨i64_wf g0,i64_wf g1⟩⟩
theorem dec_Poll {x:DV} (h:∃ m,HasT E m 37 x.cells) (he:ElemT (kindT E 37) x):∃ a:Poll,x=a.enc∧a.Good:=by
 obtain ⟨m,h⟩:=h;obtain ⟨cs,rfl⟩:∃ cs,x = .agg cs:=he;have h:HasT E m 37 cs:=h;exact decC_Poll h
structure Question where
 name:Text
 type:Int
 deriving DecidableEq
@[reducible] def Question.enc (a : Question) : DV := .agg [.str a.name, .int .i64 a.type]
def Question.Good (a:Question):Prop:=(a.name.length≤maxLen)∧(I64 a.type)
structure Answer where
 kind:Int
 sets:List Signed
 cut:Text
 deriving DecidableEq
@[reducible] def Answer.enc (a : Answer) : DV := .agg [.int .i64 a.kind, .sl (a.sets.map Signed.enc), .str a.cut]
def Answer.Good (a:Answer):Prop:=(I64 a.kind)∧(a.sets.length≤maxLen∧∀ x∈a.sets,x.Good)∧(a.cut.length≤maxLen)
theorem dec_Versions {x:DV} (h:∃ m,HasT E m 22 x.cells) (he:ElemT (kindT E 22) x):∃ l:List Version,x = .sl (l.map Version.enc)∧l.length≤maxLen∧∀ a∈l,Version.Good a:=by
 obtain ⟨m,h⟩:=h;obtain ⟨l,h1,h2,h3⟩:=hasT_slice (e:=49) (by kernel_rfl) h;have he:x.cells=[x]:=he;rw [he] at h1;cases h1;obtain ⟨v,rfl,q⟩:=dec_list (good:=Version.Good) (fun x h1 h2=>dec_Version h1 h2) h3;exact ⟨v,rfl,by simpa using h2,q⟩
theorem dec_Polls {x:DV} (h:∃ m,HasT E m 23 x.cells) (he:ElemT (kindT E 23) x):∃ l:List Poll,x = .sl (l.map Poll.enc)∧l.length≤maxLen∧∀ a∈l,Poll.Good a:=by
 obtain ⟨m,h⟩:=h;obtain ⟨l,h1,h2,h3⟩:=hasT_slice (e:=37) (by kernel_rfl) h;have he:x.cells=[x]:=he;rw [he] at h1;cases h1;obtain ⟨v,rfl,q⟩:=dec_list (good:=Poll.Good) (fun x h1 h2=>dec_Poll h1 h2) h3;exact ⟨v,rfl,by simpa using h2,q⟩
theorem dec_Copies {x:DV} (h:∃ m,HasT E m 24 x.cells) (he:ElemT (kindT E 24) x):∃ l:List Copy,x = .sl (l.map Copy.enc)∧l.length≤maxLen∧∀ a∈l,Copy.Good a:=by
 obtain ⟨m,h⟩:=h;obtain ⟨l,h1,h2,h3⟩:=hasT_slice (e:=45) (by kernel_rfl) h;have he:x.cells=[x]:=he;rw [he] at h1;cases h1;obtain ⟨v,rfl,q⟩:=dec_list (good:=Copy.Good) (fun x h1 h2=>dec_Copy h1 h2) h3;exact ⟨v,rfl,by simpa using h2,q⟩
end Go.Proofs.YthikfaephakahaaGreatDoor.P
end
section
namespace Go.Eng
open Go Go.RowKit
def litC {H:Type}:Nat→DataW H→Option (List Value)
 | 0,_=>none
 |_+1,.lit (.int k n)=>some [.int k n]
 |_+1,.lit (.bool b)=>some [.bool b]
 |_+1,.lit (.string s)=>some [.string ⟨s.toArray⟩]
 |n+1,.agg ps=>(ps.mapM (litC n)).map List.flatten
 |_+1,_=>none
def okA (E:Env):Nat→Nat→Bool
 | 0,_=>false
 |m+1,t=>match at? E.T t with
  |none=>false
  |some i=>match i.k with
   | .bool=>Nat.beq i.size 1
   | .int _=>Nat.beq i.size 1
   | .string=>Nat.beq i.size 1
   | .array n e=>Nat.beq i.size (n*sizeT E e)&&okA E m e
   | .struct fs=>tileB E 0 fs i.size&&fs.all fun p=>okA E m p.2
   |_=>false
theorem okA_some {E:Env} {m t:Nat} (h:okA E m t=true):∃ i,E.T[t]? = some i:=by
 cases m with
 |zero=>cases h
 |succ m =>
  unfold okA at h;split at h
  ·cases h
  ·rename_i i hi; rw [at?_eq] at hi; exact ⟨i,hi⟩
theorem okA_size {E:Env} (hE:E.OK) {m t:Nat} (h:okA E m t=true):sizeT E t=E.P.cellsOf t:=by
 obtain ⟨i,hi⟩:=okA_some h;exact sizeT_eq hE hi
section
variable {H:Type}
theorem parts_lit {n:Nat} {cs:List Value}:∀ {L:List (Nat × Nat)} {xs:List (DataW H × List MemPlace)} {o tot:Nat},xs.length=L.length→cs.length=tot →
  (∀ (i:Nat) (p:Nat × Nat),L[i]? = some p→p.1=o+((L.take i).map (·.2)).sum∧p.1+p.2≤tot)→o+(L.map (·.2)).sum=tot →
  (∀ (i:Nat) (p:Nat × Nat) (y:DataW H × List MemPlace),L[i]? = some p→xs[i]? = some y→litC n y.1=some ((cs.drop p.1).take p.2)) →
  ∃ ls,(xs.map (·.1)).mapM (litC n)=some ls∧ls.flatten=cs.drop o
 | [],[],o,tot,_,hc,_,hs,_=>⟨[],rfl,by rw [List.drop_of_length_le (by simp at hs; omega)]; rfl⟩
 |p::L,y::xs,o,tot,hl,hc,ho,hs,hx=>by
  have h0:=ho 0 p rfl;simp at h0;have hy:=hx 0 p y rfl rfl;simp only [List.map_cons,List.sum_cons] at hs
  obtain ⟨ls,k1,k2⟩:=parts_lit (n:=n) (cs:=cs) (L:=L) (xs:=xs) (o:=o+p.2) (tot:=tot) (by simpa using hl) hc (fun i q hq=>by
   have:=ho (i+1) q (by simpa using hq);simp only [List.take_succ_cons,List.map_cons,List.sum_cons] at this
   omega) (by omega) (fun i q z hq hz=>hx (i+1) q z (by simpa using hq) (by simpa using hz))
  refine ⟨(cs.drop p.1).take p.2::ls,?_,?_⟩
  ·simp only [List.map_cons,List.mapM_cons,hy,k1];rfl
  ·rw [List.flatten_cons,k2,h0.1,← List.drop_drop,List.take_append_drop]
 | [],_::_,_,_,h,_,_,_,_=>by simp at h
 |_::_,[],_,_,h,_,_,_,_=>by simp at h
variable {E:Env} {enc:TypeId × Value→H} {w:World} {held:Bool} {sp:Nat→Bool}
theorem tile_sum:∀ {fs:List (Nat × Nat)} {o tot:Nat},tileB E o fs tot=true→o+((fs.map fun p=>(p.1,sizeT E p.2)).map (·.2)).sum=tot ∧
  ∀ (i:Nat) (p:Nat × Nat),(fs.map fun p=>(p.1,sizeT E p.2))[i]? = some p→p.1=o+(((fs.map fun p=>(p.1,sizeT E p.2)).take i).map (·.2)).sum∧p.1+p.2≤tot
 | [],o,tot,h=>⟨by simpa using Nat.eq_of_beq_eq_true h,fun i p hp=>by simp at hp⟩
 |q::fs,o,tot,h=>by
  have hle:=(tile_le h).2 q (List.mem_cons_self ..);simp only [tileB,Bool.and_eq_true] at h;obtain ⟨h1,h2⟩:=h;have h1:=Nat.eq_of_beq_eq_true h1;obtain ⟨k1,k2⟩:=tile_sum h2;refine ⟨by simp only [List.map_cons,List.sum_cons]; omega,fun i p hp=>?_⟩;cases i with
  |zero=>simp at hp; subst hp; simp; omega
  |succ i =>
   have:=k2 i p (by simpa using hp);simp only [List.map_cons,List.take_succ_cons,List.sum_cons];omega
theorem lit_cells (hE:E.OK):∀ (fuel m t:Nat) (cs:List Value) (x:DataW H × List MemPlace),okA E m t=true→DataW.trod enc E.P w 0 sp held fuel t cs=some x→litC fuel x.1=some cs:=by
 intro fuel
 induction fuel with
 |zero=>intro m t cs x _ h; simp [DataW.trod] at h
 |succ fuel ih =>
  intro m t cs x hok h;cases m with
  |zero=>cases hok
  |succ m =>
   unfold okA at hok;split at hok
   ·cases hok
   rename_i i hi;have hsz:sizeT E t=i.size:=by simp [sizeT,hi]
   rw [at?_eq] at hi;obtain ⟨ti,d,g1,g2,g3,g4,-⟩:=tinfo_inv (hE.types t i hi);split at hok
   ·rename_i hik;have hd:d = .bool:=by rw [hik] at g3; cases d <;> first | rfl | cases g3
    subst hd;obtain ⟨b,rfl,rfl⟩:=DataW.trod_bool g2 h;rfl
   ·rename_i k hik;obtain rfl:=tk_int (hik.symm.trans g3);obtain ⟨n,rfl,rfl,hw⟩:=DataW.trod_int g2 h;rfl
   ·rename_i hik;obtain rfl:=tk_string (hik.symm.trans g3);obtain ⟨s,rfl,rfl,hl⟩:=DataW.trod_string g2 h;rfl
   ·rename_i n e hik;obtain rfl:=tk_array (hik.symm.trans g3);simp only [Bool.and_eq_true] at hok;obtain ⟨hs,hoke⟩:=hok;have hs:=Nat.eq_of_beq_eq_true hs;obtain ⟨xs,k,hk,rfl,hlen,hxl,hf⟩:=DataW.trod_array g2 h;cases hk;have hse:=okA_size hE hoke;rw [← sizeT_eq hE hi,hsz,hs] at hlen;rw [← hse] at hf;have hL:∀ (i:Nat) (p:Nat × Nat),((List.range n).map fun i=>(i*sizeT E e,sizeT E e))[i]? = some p→i<n∧p=(i*sizeT E e,sizeT E e):=fun i p hp=>by
     have hi:i<n:=by have:=lt_of_getElem? hp; simpa using this
     simp [hi] at hp;exact ⟨hi,hp.symm⟩
    have hsum:∀ k,(((List.range n).map fun i=>(i*sizeT E e,sizeT E e)).take k).map (·.2)=List.replicate (min k n) (sizeT E e):=fun k=>by
     apply List.ext_getElem
     ·simp
     ·intro j h1 h2; simp
    obtain ⟨ls,k1,k2⟩:=parts_lit (n:=fuel) (cs:=cs) (L:=(List.range n).map fun i=>(i*sizeT E e,sizeT E e)) (xs:=xs) (o:=0) (tot:=n*sizeT E e) (by simp [hxl]) hlen (fun i p hp=>by
     obtain ⟨h1,rfl⟩:=hL i p hp;rw [hsum,List.sum_replicate_nat,Nat.min_eq_left (by omega)];refine ⟨by simp,?_⟩;have:(i+1)*sizeT E e≤n*sizeT E e:=Nat.mul_le_mul_right _ h1;rw [Nat.add_mul,Nat.one_mul] at this;exact this) (by
      have:=hsum n;rw [List.take_of_length_le (by simp)] at this;rw [this,List.sum_replicate_nat,Nat.min_self,Nat.zero_add]) (fun i p y hp hy=>by
     obtain ⟨h1,rfl⟩:=hL i p hp;have:=hf i h1;rw [hy] at this
     exact ih m e _ _ hoke this)
    rw [List.drop_zero] at k2;simp only [litC,k1,Option.map_some,k2]
   ·rename_i fs hik;obtain ⟨fl,rfl,rfl⟩:=tk_struct (hik.symm.trans g3);simp only [Bool.and_eq_true] at hok;obtain ⟨htile,hall⟩:=hok;obtain ⟨xs,n,hn,rfl,hlen,hxl,hf⟩:=DataW.trod_struct g2 h;cases hn;rw [← sizeT_eq hE hi,hsz] at hlen;obtain ⟨s1,s2⟩:=tile_sum htile
    obtain ⟨ls,k1,k2⟩:=parts_lit (n:=fuel) (cs:=cs) (xs:=xs) (by simp [hxl]) hlen s2 s1 (fun i p y hp hy=>by
     simp only [List.map_map,List.getElem?_map,Option.map_eq_some_iff] at hp;obtain ⟨f,hfi,rfl⟩:=hp;have hokf:=List.all_eq_true.1 hall (f.offset,f.type) (List.mem_map.2 ⟨f,List.mem_of_getElem? hfi,rfl⟩);have:=hf i f (by simpa using hfi);rw [hy,← okA_size hE hokf] at this
     exact ih m _ _ _ hokf this)
    rw [List.drop_zero] at k2;simp only [litC,k1,Option.map_some,k2]
   ·cases hok
end
def litEq:List DV→List Value→Bool
 | [],[]=>true
 | .int k n::l,.int k' m::r=>IntKind.same k k'&&decide (n=m)&&litEq l r
 | .bool a::l,.bool b::r=>(a==b)&&litEq l r
 | .str a::l,.string b::r=>decide (b=⟨a.toArray⟩)&&litEq l r
 |_,_=>false
theorem litEq_vld {bad:Nat→Prop} {w:World}:∀ {ds:List DV} {vs:List Value},litEq ds vs=true→VLD bad w ds vs
 | [],[],_=>⟨rfl,fun j x v hx=>by simp at hx⟩
 |d::ds,v::vs,h=>by
  have key:VD bad w d v∧litEq ds vs=true:=by
   unfold litEq at h;split at h
   ·rename_i e1 e2; cases e1
   ·rename_i e1 e2;cases e1; cases e2;simp only [Bool.and_eq_true,decide_eq_true_eq] at h;obtain ⟨⟨h1,rfl⟩,h3⟩:=h;obtain rfl:=same_eq h1;exact ⟨.int _ _,h3⟩
   ·rename_i e1 e2;cases e1; cases e2;simp only [Bool.and_eq_true,beq_iff_eq] at h;obtain ⟨rfl,h3⟩:=h;exact ⟨.bool _,h3⟩
   ·rename_i e1 e2;cases e1; cases e2;simp only [Bool.and_eq_true,decide_eq_true_eq] at h;obtain ⟨rfl,h3⟩:=h;exact ⟨.str _,h3⟩
   ·cases h
  have ih:=litEq_vld (bad:=bad) (w:=w) key.2;refine ⟨by simp [ih.1],fun j x u hx hu=>?_⟩;cases j with
  |zero=>simp at hx hu; subst hx; subst hu; exact key.1
  |succ j=>exact ih.2 j x u (by simpa using hx) (by simpa using hu)
 | [],_::_,h=>by cases h
 |d::_,[],h=>by cases d <;> cases h
theorem laid_mem {P:Program} {w:World} {name:String} {d:DataW Unit}:∀ {laid:List (String × DataW Unit)} {ps:List MemPlace},DataW.LaidVars P w laid ps→(name,d)∈laid →
  ∃ g t cs fuel p,P.globalNamed name=some g∧(P.globals[g]?).map (·.type)=some t∧w.var? P name=some cs∧DataW.trod (fun _=>()) P w 0 (fun _=>true) false fuel t cs.toList=some (d,p)
 | [],_,_,h=>by simp at h
 |(n,d')::r,ps,hv,h=>by
  obtain ⟨g,t,cs,fuel,p,q,h1,h2,h3,h4,h5,-⟩:=hv;rcases List.mem_cons.1 h with h | h
  ·cases h; exact ⟨g,t,cs,fuel,p,h1,h2,h3,h4⟩
  ·exact laid_mem h5 h
theorem litC_mono {H:Type}:∀ {n:Nat} {d:DataW H} {cs:List Value},litC n d=some cs→litC (n+1) d=some cs:=by
 intro n
 induction n with
 |zero=>intro d cs h; cases h
 |succ n ih =>
  intro d cs h;unfold litC at h;split at h
  ·cases h
  ·exact h
  ·exact h
  ·exact h
  ·rename_i m ps e;cases e;simp only [Option.map_eq_some_iff] at h;obtain ⟨ls,h1,rfl⟩:=h;have:∀ {ps:List (DataW H)} {ls:List (List Value)},ps.mapM (litC n)=some ls→ps.mapM (litC (n+1))=some ls:=by
    intro ps
    induction ps with
    |nil=>intro ls h; exact h
    |cons p ps ihp =>
     intro ls h;simp only [List.mapM_cons,Option.bind_eq_bind,Option.bind_eq_some_iff] at h ⊢;obtain ⟨a,h1,b,h2,h3⟩:=h;exact ⟨a,ih h1,b,ihp h2,h3⟩
   have e2:=this h1;show (ps.mapM (litC (n+1))).map List.flatten=_;rw [e2];rfl
  ·cases h
theorem litC_le {H:Type} {n:Nat} {d:DataW H} {cs:List Value} (h:litC n d=some cs):∀ k,litC (n+k) d=some cs
 | 0=>h
 |k+1=>litC_mono (litC_le h k)
theorem glob_of {E:Env} (hE:E.OK) {W:World} {laid:List (String × DataW Unit)} {name:String} {g t m n:Nat} {d:DataW Unit} {e:DV} {vs:List Value} (hl:laidMet E.P laid W) (hm:(name,d)∈laid) (hg:E.P.globalNamed name=some g) (ht:(E.P.globals[g]?).map (·.type)=some t)
  (hok:okA E m t=true) (hv:litC n d=some vs) (he:litEq e.cells vs=true) (hne:e.cells≠[]) {bar:Nat→Prop} (hbar:¬ bar g):VR ⟨fun _=>none,[],bar,W⟩ (.eptr e 0) (.pointer (some ⟨g,0,none⟩)):=by
 obtain ⟨ps,hlv,-,-⟩:=hl;obtain ⟨g',t',cs,fuel,p,h1,h2,h3,h4⟩:=laid_mem hlv hm;rw [hg] at h1; cases h1;rw [ht] at h2; cases h2;have h5:=lit_cells hE fuel m t _ _ hok h4;have h6:vs=cs.toList:=by
  have a:=litC_le hv fuel;have b:=litC_le h5 n;rw [Nat.add_comm] at b;exact Option.some.inj (a.symm.trans b)
 have hvl:=litEq_vld (bad:=bar) (w:=W) he;rw [h6] at hvl;have hcell:∀ (j:Nat) (v:Value),cs.toList[j]? = some v→W.cell? ⟨g,0+j,none⟩=some v:=fun j v hj=>by
  rw [Nat.zero_add];have:=World.var?_cell hg h3 j;rw [this]
  simpa using hj
 have hget:∀ (j:Nat) (x:DV),e.cells[j]? = some x→∃ v,cs.toList[j]? = some v:=fun j x hx=>by
  have:=lt_of_getElem? hx;rw [hvl.1] at this;exact ⟨cs.toList[j],by simp [this]⟩
 have:=VR.eptr (c:=⟨fun _=>none,[],bar,W⟩) e 0 g 0 (fun j=>(cs.toList[j]?).getD undef) (fun hb=>hbar (bad_none.1 hb)) hne (fun j x hx=>by
   obtain ⟨v,hv⟩:=hget j x hx;rw [hv];exact hcell j v hv) (fun j x hx=>by
   obtain ⟨v,hv⟩:=hget j x hx;rw [hv]
   exact vd_none (hvl.2 j x v hx hv))
 exact this
end Go.Eng
end
section
namespace Go.Proofs.YthikfaephakahaaGreatDoor
open Go.ChangeShapes Go.WideShapes Go.ChangeAt Go.RowKit
theorem Tryz.own:ownKnob Tryz.prog.godebug=none:=by kernel_rfl
theorem Tryz.laidOut:laidOutB Tryz.prog=true:=by kernel_rfl
theorem Ext.trodAll {H:Type} {enc:TypeId × Value→H} {P:Program} (hl:laidOutB P=true) {W W':World} (hx:Ext W W') :
  ∀ {ts:List TypeId} {vs:List Value} {ds:List (DataW H)} {ps:List MemPlace},(∀ t∈ts,P.readableRec t=true∧t<P.types.size)→(∀ x∈ps,x.block<W.heap.size) →
   DataW.TrodAll enc P W 0 (fun _=>true) true ts vs ds ps→DataW.TrodAll enc P W' 0 (fun b=>decide (b<W.heap.size)) true ts vs ds ps
 | [],_,_,_,_,_,h=>by
  obtain ⟨rfl,rfl,rfl⟩:=trodAll_nil h;exact h
 |t::ts,_,_,_,hr,hlt,h=>by
  obtain ⟨v,vs1,d,ds1,a,b,rfl,rfl,rfl,h1,h2⟩:=trodAll_cons h;obtain ⟨r1,r2⟩:=hr t (List.mem_cons_self ..);exact ⟨a,b,Below.trod hl r1 r2 h1 hx.below (fun x hx=>hlt x (List.mem_append_left _ hx)),Ext.trodAll hl hx (fun u hu=>hr u (List.mem_cons_of_mem _ hu)) (fun x hx=>hlt x (List.mem_append_right _ hx)) h2,rfl⟩
theorem law_post {H:Type} {enc:TypeId × Value→H} {P:Program} {f:Func} {s:ChangeSpec} {W W':World} {args:Array Value} {ds gs:List (DataW H)} {before:List MemPlace} {tb:TypeId} (hl:laidOutB P=true)
  (hr:∀ t∈f.params.toList,P.readableRec t=true∧t<P.types.size) (hv:s.vars=[]) (ht:f.resultTypes = #[tb]) (hb:P.underlying tb=some .bool)
  (hs1:(s.fn H (ds++[])).results=[.lit (.bool true)]) (hs2:(s.fn H (ds++[])).args=ds) (hs3:(s.fn H (ds++[])).vars=[])
  (hW:DataW.Whole enc P f.params.toList s.vars false W args.toList ds gs before) (hx:Ext W W'):s.post enc P f false true false false W args (.bool true) W':=by
 have hW':=hW;obtain ⟨p,q,hA,hV,rfl,hfz,hnd⟩:=hW;rw [hv] at hV;obtain ⟨rfl,rfl⟩:=trodVars_none hV;simp only [List.append_nil] at hW';refine ⟨ds,[],p,[],p,[],hW',?_,?_,?_,?_,fun h=>by cases h⟩
 ·rw [hs1,ht];exact trodAll_cons_mk (shut_bool hb _) trodAll_mk0
 ·rw [hs2];exact Ext.trodAll hl hx hr (fun x hx=>by simpa using hW'.lt x hx) hA
 ·rw [hs3,hv]; rfl
 ·exact hx.below.frame _
end Go.Proofs.YthikfaephakahaaGreatDoor
end
section
set_option maxRecDepth 100000
namespace Go.Proofs.YthikfaephakahaaGreatDoor
open Go Go.Eng Go.ChangeShapes Go.WideShapes Go.ChangeAt Go.RowKit
theorem trodAll_len {H:Type} {enc:TypeId × Value→H} {P:Program} {W:World}:∀ {ts:List TypeId} {vs:List Value} {ds:List (DataW H)} {ps:List MemPlace} {held:Bool},DataW.TrodAll enc P W 0 (fun _=>true) held ts vs ds ps→ds.length=ts.length
 | [],_,_,_,_,h=>by obtain ⟨rfl,rfl,rfl⟩:=trodAll_nil h; rfl
 |t::ts,_,_,_,_,h=>by
  obtain ⟨v,vs1,d,ds1,a,b,rfl,rfl,rfl,h1,h2⟩:=trodAll_cons h;simp [trodAll_len h2]
theorem engine_law {H:Type} {enc:TypeId × Value→H} {fid:FuncId} {fn:Func} {s:ChangeSpec} {W:World} {base:Nat} {args:Array Value} {ds gs:List (DataW H)} {before:List MemPlace} {tb:TypeId}
  (hval:∀ (j:Nat) t v,fn.params[j]? = some t→args[j]? = some v→Value.okWide Tryz.prog W .any base t v)
  (hW:DataW.Whole enc Tryz.prog fn.params.toList s.vars false W args.toList ds gs before) (hG:GlobOK E.G (fun _=>False) W)
  (hok:fn.params.toList.all (okT E 20)=true) (hr:∀ t∈fn.params.toList,Tryz.prog.readableRec t=true∧t<Tryz.prog.types.size) (hv:s.vars=[]) (ht:fn.resultTypes = #[tb]) (hb:Tryz.prog.underlying tb=some .bool)
  (hs:∀ ds:List (DataW H),ds.length=fn.params.toList.length→(s.fn H (ds++[])).results=[.lit (.bool true)]∧(s.fn H (ds++[])).args=ds∧(s.fn H (ds++[])).vars=[])
  (hc:∀ xs,ArgsT E fn.params.toList xs→PCalls E fid xs (· = .bool true)) :
  Calls Tryz.prog fid args W fun e W'=>∃ v,e = .returned v∧s.post enc Tryz.prog fn false true false false W args v W':=by
 have hW':=hW;obtain ⟨p,q,hA,hV,rfl,hfz,hnd⟩:=hW;have hval':∀ (j:Nat) t v,fn.params.toList[j]? = some t→args.toList[j]? = some v→Value.okWide E.P W .any base t v:=fun j t v ht hv=>hval j t v (by rwa [Array.getElem?_toList] at ht) (by rwa [Array.getElem?_toList] at hv);obtain ⟨xs,h1,h2⟩:=args_has E_ok hok hval' hA;obtain ⟨s1,s2,s3⟩:=hs ds (trodAll_len hA);have hcall:=hc xs h2;unfold PCalls at hcall;have:=hcall.2 (fun _=>False) W args.toList (fun _ h=>h.elim) hG h1;rw [Array.toArray_toList] at this;refine this.mono fun e W' hpost=>?_;obtain ⟨v,r,rfl,rfl,hvd,hx⟩:=hpost;cases hvd;exact ⟨_,rfl,law_post Tryz.laidOut hr hv ht hb s1 s2 s3 hW' hx⟩
theorem argsT_cons {E:Env} {t:Nat} {ts:List Nat} {xs:List DV} (h:ArgsT E (t::ts) xs):∃ x r,xs=x::r∧ArgT E t x∧ArgsT E ts r:=by
 cases xs with
 |nil=>exact h.elim
 |cons x r=>exact ⟨x,r,rfl,h⟩
theorem readable_of {P:Program} {l:List TypeId} (h:(l.all fun t=>P.readableRec t&&Nat.blt t P.types.size)=true):∀ t∈l,P.readableRec t=true∧t<P.types.size:=fun t ht=>by
 have:=List.all_eq_true.1 h t ht;rw [Bool.and_eq_true] at this;exact ⟨this.1,blt_lt this.2⟩
theorem globs_ok {laid : List (String × DataW Unit)} {W : World} (hl : laidMet Tryz.prog laid W) (hm : ("nameplan/record.rules", Rows.laid_nameplan_record_rules) ∈ laid) : GlobOK E.G (fun _ => False) W := by
 intro g e hg;have:(g,e)=(0,glob_nameplan_record_rules):=by
  have:(g,e)∈globs:=hg
  simpa [globs] using this
 cases this;exact glob_of E_ok (n:=8) (m:=8) (t:=306) (vs:=(litC 8 (Rows.laid_nameplan_record_rules (H:=Unit))).getD []) hl hm (by kernel_rfl) (by kernel_rfl) (by kernel_rfl) (by kernel_rfl) (by kernel_rfl) (by simp [glob_nameplan_record_rules,DV.cells]) (fun h=>h)
def litV:DV→Value
 | .int k n => .int k n
 | .bool b => .bool b
 | .str l => .string ⟨l.toArray⟩
 |_=>undef
def layIn (d:DV) (o:Obj):Obj:=match o with
 | .cells _ t frozen => .cells (d.cells.map litV).toArray t frozen
 |o=>o
noncomputable def laidWorld (os:Os):World :=
 { World.holding Tryz.prog os ⟨#[],#[],[]⟩ with heap:=globs.foldl (fun h p=>h.modify p.1 (layIn p.2)) (World.holding Tryz.prog os ⟨#[],#[],[]⟩).heap }
end Go.Proofs.YthikfaephakahaaGreatDoor
end
