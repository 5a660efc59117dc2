/- The engine, part DD: loops while variables hold functions. No conditions. -/
import Derived.Test.YtajnanldmhpeaaaGreatDoorZEngCC
set_option linter.unusedVariables false
set_option linter.unusedSimpArgs false
namespace Go.Eng
open Go Go.RowKit
theorem len_of_subs {h h':List Box} {K:Prop}:∀ {l l':List AV},subsK h h' l l' K→l.length=l'.length∧K
 | [],[],H=>⟨rfl,H⟩
 |x::l,y::l',H=>by
  have hK:∀ {Q:Prop},sub2K h h' x y Q→Q:=fun {Q} H=>by
   unfold sub2K at H;split at H
   ·split at H
    ·exact (len_of_subs1 H).2
    ·exact H.elim
   ·split at H
    ·exact (len_of_subs1 H).2
    ·exact H.elim
   ·split at H
    ·exact (len_of_subs1 (len_of_subs1 H.2).2).2
    ·exact H.elim
   ·exact (len_of_subs1 (h:=h) (h':=h') (K:=Q) (l:=[x]) (l':=[y]) H).2
  simp only [subsK] at H;obtain ⟨h1,h2⟩:=len_of_subs (hK H);exact ⟨by simp [h1],h2⟩
 | [],_::_,H=>H.elim
 |_::_,[],H=>H.elim
def subBX (h h':List Box) (x y:Box) (K:Prop):Prop :=
 match y with
 | .gone=>K
 | .cells l'=>match x with
  | .cells l=>subsK h h' l l' K
  |_=>False
 | .arr g' ts' l'=>match x with
  | .arr g ts l=>match gensB g g' with
   |true=>ts=ts'∧l=l'∧K
   |false=>False
  |_=>False
 | .map es'=>match x with
  | .map es=>es=es'∧K
  |_=>False
def subHX (h h':List Box):List Box→List Box→Prop→Prop
 |_,[],K=>K
 |x::l,y::l',K=>subBX h h' x y (subHX h h' l l' K)
 |_,_,_=>False
theorem subHX_hsub {h h':List Box} {K:Prop}:∀ {l l':List Box},subHX h h' l l' K→HSub l l'∧K
 | [],[],H=>⟨fun i y hy=>by simp at hy,H⟩
 |_::_,[],H=>⟨fun i y hy=>by simp at hy,H⟩
 |x::l,y::l',H=>by
  simp only [subHX] at H;have key:BSub x y∧subHX h h' l l' K:=by
   unfold subBX at H;split at H
   ·exact ⟨trivial,H⟩
   ·split at H
    ·obtain ⟨h1,h2⟩:=len_of_subs H; exact ⟨⟨_,rfl,h1⟩,h2⟩
    ·exact H.elim
   ·split at H
    ·split at H
     ·rename_i q; obtain ⟨rfl,rfl,H⟩:=H; exact ⟨⟨_,rfl,gensB_spec q⟩,H⟩
     ·exact H.elim
    ·exact H.elim
   ·split at H
    ·obtain ⟨rfl,H⟩:=H; exact ⟨rfl,H⟩
    ·exact H.elim
  obtain ⟨h1,h2⟩:=subHX_hsub key.2;refine ⟨fun i z hz=>?_,h2⟩;cases i with
  |zero=>simp at hz; subst hz; exact ⟨x,rfl,key.1⟩
  |succ i=>obtain ⟨w,k1,k2⟩:=h1 i z (by simpa using hz); exact ⟨w,by simpa using k1,k2⟩
 | [],_::_,H=>H.elim
theorem subHX_cells {h h':List Box} {K:Prop} (hs:HSub h h'):∀ {l l':List Box},subHX h h' l l' K→∀ (i:Nat) (cs:List AV),l'[i]? = some (.cells cs)→∃ cs0,l[i]? = some (.cells cs0)∧∀ (c:Cx) (vs:List Value),c.heap=h→VL c cs0 vs→VL (c.cut h') cs vs
 |_,[],H=>fun i y hy=>by simp at hy
 |x::l,y::l',H=>by
  simp only [subHX] at H;intro i cs hi;cases i with
  |zero =>
   simp at hi;subst hi;simp only [subBX] at H;split at H
   ·obtain ⟨-,h3⟩:=subsK_sound hs H;exact ⟨_,rfl,h3⟩
   ·exact H.elim
  |succ i =>
   have hrest:subHX h h' l l' K:=by
    unfold subBX at H;split at H
    ·exact H
    ·split at H
     ·exact (len_of_subs H).2
     ·exact H.elim
    ·split at H
     ·split at H
      ·exact H.2.2
      ·exact H.elim
     ·exact H.elim
    ·split at H
     ·exact H.2
     ·exact H.elim
   obtain ⟨cs0,k1,k2⟩:=subHX_cells hs hrest i cs (by simpa using hi);exact ⟨cs0,by simpa using k1,k2⟩
 | [],_::_,H=>H.elim
def subAllX (n:Nat) (h:List Box) (s:List AV) (h':List Box) (s':List AV):Prop:=match Nat.ble n h'.length with
 |true=>subHX h h' h h' (subsK h h' s s' True)
 |false=>False
section
variable {E:Env} {fid:FuncId} {R:Post} {td:List AItem} {s s':List AV} {h h':List Box}
theorem AW.weakenX {f0:FuncId} {fd:FId} (hs:selfXK h h' R.fx (subAllX R.n h s h' s')) (H:AW E f0 ⟨fd,td,s'⟩ R.fx.cls h' R):AW E f0 ⟨fd,td,s⟩ R.fx.cls h R:=by
 unfold AW at H ⊢;intro c0 c t ts h0 h1 h2 h3 hr hrow h4 h5 cs;subst h2;unfold selfXK at hs;have hs0:=hs;replace hs:=selfGK_K (selfFK_K hs);unfold subAllX at hs;split at hs
 case h_2=>exact hs.elim
 rename_i q;have hn:=Nat.le_of_ble_eq_true q;obtain ⟨k1,k2⟩:=subHX_hsub hs;have k3:=subHX_cells k1 hs;obtain ⟨-,k4⟩:=subsK_sound k1 k2;obtain ⟨hs1,f1⟩:=selfFK_sound k1 hs0;obtain ⟨-,f2⟩:=selfGK_sound k1 hs1;have hv:=k4 c t.toList rfl ⟨by simpa using h4.1,fun j x v hx hv=>h4.2 j x v hx (by simpa using hv)⟩;have hok:=h3.cut k1 (fun i cs hi=>by obtain ⟨cs0,r1,r2⟩:=k3 i cs hi; exact ⟨cs0,r1,fun vs hv=>r2 c vs rfl hv⟩);exact H c0 (c.cut h') t ts h0 h1 rfl hok (hr.cut (by omega) k1) (hrow.cut fun g hg=>f2 _ c rfl g hg) ⟨by simpa using hv.1,fun j x v hx hu=>hv.2 j x v hx (by simpa using hu)⟩ (f1 c rfl ts h5) cs
theorem AWL.loopX {lits:List Nat} {b:Code} {k:List AItem} {κ:Type} (mods:List Nat) (vars:κ→List (Nat × AV)) (boxes:κ→List (Nat × Box)) (Φ:κ→Prop) (μ:κ→Nat) (x0:κ) (h0:Φ x0)
  (hsub:stK mods (keysOf (boxes x0)) (vars x0) (boxes x0) s h fun s' h'=>selfXK h h' R.fx (subAllX R.n h s h' s'))
  (hround:∀ x,Φ x→(∀ y,Φ y→μ y<μ x→AWL E fid R [] (.inLoop b::k) (varS (vars y) (anyS mods (dropS (keysOf (boxes x0)) s))) (varH (boxes y) h))→AWL E fid R [] (.code b :: .inLoop b::k) (varS (vars x) (anyS mods (dropS (keysOf (boxes x0)) s))) (varH (boxes x) h)) :
  AWL E fid R lits (.code (.loop b)::k) s h:=by
 have main:∀ n x,μ x<n→Φ x→AWL E fid R [] (.inLoop b::k) (varS (vars x) (anyS mods (dropS (keysOf (boxes x0)) s))) (varH (boxes x) h):=by
  intro n
  induction n with
  |zero=>intro x hx; omega
  |succ n ih=>intro x hx hP; exact .of (.inLoop (hround x hP fun y hy hm=>ih y (by omega) hy).to)
 rw [stK_eq] at hsub;exact .of (.loop (.weakenX hsub (hround x0 h0 fun y hy _=>main (μ y+1) y (by omega) hy).to))
theorem AWL.backX {lits lits' mods ks:List Nat} {vars:List (Nat × AV)} {boxes:List (Nat × Box)} {s0:List AV} {h0:List Box} (H:AWL E fid R lits td (varS vars (anyS mods (dropS ks s0))) (varH boxes h0))
  (hs:stK mods ks vars boxes s0 h0 fun s' h'=>selfXK h h' R.fx (subAllX R.n h s h' s')):AWL E fid R lits' td s h:=by
 rw [stK_eq] at hs;exact .of (.weakenX hs H.to)
end
end Go.Eng
