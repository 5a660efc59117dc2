/- Plain laws of package copies: by how much a host is behind, for any copies. No conditions. -/
import Derived.Test.YthikfaephakahaaGreatDoorZP93
set_option linter.unusedVariables false
set_option linter.unusedSimpArgs false
namespace Go.Proofs.YthikfaephakahaaGreatDoor.P
open Go Go.Eng
def badC (fin:Int) (x:Copy):Bool:=decide (x.frm<0)||(decide (x.upto≤x.frm)||decide (fin<x.upto))
def OkM (fin:Int) (m:List Copy):Prop:=(∀ x∈m,badC fin x=false)∧∀ (i:Nat) (x y:Copy),m[i]? = some x→m[i+1]? = some y→x.upto≤y.frm
def okB (fin:Int):List Copy→Bool
 | []=>true
 |x::r => !badC fin x&&((match r with | []=>true | y::_=>decide (x.upto≤y.frm))&&okB fin r)
theorem okB_iff {fin:Int}:∀ {m:List Copy},okB fin m=true↔OkM fin m
 | []=>by simp [okB,OkM]
 | [x]=>by
  simp only [okB,Bool.and_true,Bool.not_eq_true',OkM];constructor
  ·intro h;exact ⟨fun y hy=>by simp at hy; subst hy; exact h,fun i a b ha hb=>by simp at hb⟩
  ·intro h; exact h.1 x (by simp)
 |x::y::r=>by
  have ih:=okB_iff (fin:=fin) (m:=y::r);rw [okB];simp only [Bool.and_eq_true,ih,Bool.not_eq_true',decide_eq_true_eq];constructor
  ·rintro ⟨h1,h2,h3,h4⟩;refine ⟨fun z hz=>?_,fun i a b ha hb=>?_⟩
   ·rcases List.mem_cons.1 hz with rfl | hz
    ·exact h1
    ·exact h3 z hz
   ·cases i with
    |zero=>simp at ha hb; subst ha; subst hb; exact h2
    |succ i=>exact h4 i a b (by simpa using ha) (by simpa using hb)
  ·rintro ⟨h1,h2⟩;exact ⟨h1 x (by simp),h2 0 x y rfl rfl,fun z hz=>h1 z (List.mem_cons_of_mem _ hz),fun i a b ha hb=>h2 (i+1) a b (by simpa using ha) (by simpa using hb)⟩
theorem ok_strict {fin:Int} {m:List Copy} (h:OkM fin m):m.Pairwise fun a b=>a.frm<b.frm:=by
 have good:∀ x∈m,x.frm<x.upto:=fun x hx=>by
  have:=h.1 x hx;simp only [badC,Bool.or_eq_false_iff,decide_eq_false_iff_not] at this;omega
 have main:∀ (n i:Nat) (x y:Copy),m[i]? = some x→m[i+1+n]? = some y→x.upto≤y.frm:=by
  intro n
  induction n with
  |zero=>intro i x y hx hy; exact h.2 i x y hx hy
  |succ n ih =>
   intro i x y hx hy;obtain ⟨z,hz⟩:=some_of_lt2 (l:=m) (k:=i+1+n) (by have:=(List.getElem?_eq_some_iff.1 hy).1; omega);have h1:=ih i x z hx hz;have h2:=h.2 (i+1+n) z y hz (by rw [show i+1+n+1=i+1+(n+1) by omega]; exact hy);have:=good z (List.mem_of_getElem? hz);omega
 rw [List.pairwise_iff_getElem];intro i j hi hj hij;have:=main (j - i - 1) i m[i] m[j] (by simp) (by rw [show i+1+(j - i - 1)=j by omega]; simp);have:=good m[i] (by simp);omega
theorem ok_perm {fin:Int} {m n:List Copy} (hp:m.Perm n) (hm:OkM fin m) (hn:n.Pairwise fun a b=>a.frm≤b.frm):m=n:=by
 have hs:=ok_strict hm;refine List.Perm.eq_of_pairwise (le:=fun a b=>a.frm≤b.frm) (fun a b ha hb h1 h2=>?_) (hs.imp fun {a b} h=>by omega) hn hp;have hb:=hp.mem_iff.2 hb;obtain ⟨i,hi⟩:=List.getElem?_of_mem ha;obtain ⟨j,hj⟩:=List.getElem?_of_mem hb;obtain ⟨p1,e1⟩:=List.getElem?_eq_some_iff.1 hi;obtain ⟨p2,e2⟩:=List.getElem?_eq_some_iff.1 hj;rcases Nat.lt_trichotomy i j with h | h | h
 ·have:=List.pairwise_iff_getElem.1 hs i j p1 p2 h; rw [e1,e2] at this; omega
 ·subst h; rw [hi] at hj; exact Option.some.inj hj
 ·have:=List.pairwise_iff_getElem.1 hs j i p2 p1 h; rw [e1,e2] at this; omega
def mineS (c:List Copy) (h:Int):List Copy:=(c.filter fun x=>decide (x.host=h)).mergeSort fun a b=>decide (a.frm≤b.frm)
theorem mine_perm {c:List Copy} {h:Int}:(mineS c h).Perm (c.filter fun x=>decide (x.host=h)):=List.mergeSort_perm ..
theorem mine_sorted {c:List Copy} {h:Int}:(mineS c h).Pairwise fun a b=>a.frm≤b.frm:=by
 have:=List.pairwise_mergeSort (le:=fun a b:Copy=>decide (a.frm≤b.frm)) (by intro a b c; simp; omega) (by intro a b; simp; omega) (c.filter fun x=>decide (x.host=h));exact this.imp fun {a b} h=>by simpa using h
theorem mine_any {fin:Int} {c m:List Copy} {h:Int} (hp:m.Perm (c.filter fun x=>decide (x.host=h))) (hs:m.Pairwise fun a b=>a.frm≤b.frm):okB fin m=okB fin (mineS c h)∧(okB fin m=true→m=mineS c h):=by
 have h1:okB fin m=true→m=mineS c h:=fun e=>ok_perm (hp.trans mine_perm.symm) (okB_iff.1 e) mine_sorted;refine ⟨?_,h1⟩;cases e1:okB fin m
 ·cases e2:okB fin (mineS c h)
  ·rfl
  ·have:=ok_perm (mine_perm.trans hp.symm) (okB_iff.1 e2) hs;rw [this,e1] at e2;exact e2
 ·rw [← h1 e1,e1]
def toS (l:List Version) (x:Copy):Stretch:=⟨x.frm,x.upto,verI l x.zone⟩
def lagM (l:List Version) (m:List Copy) (fin:Int):Int × Int:=if okB fin m then (if m.any (fun x=>decide (verI l x.zone<0)) then (0,4) else (lagL l (m.map (toS l)) fin,0)) else (0,1)
def lagV (l:List Version) (c:List Copy) (h fin:Int):Int × Int:=if endB fin&&(rightB l fin&&hostN h) then lagM l (mineS c h) fin else (0,1)
theorem lagM_any {l:List Version} {fin:Int} {c m:List Copy} {h:Int} (hp:m.Perm (c.filter fun x=>decide (x.host=h))) (hs:m.Pairwise fun a b=>a.frm≤b.frm):lagM l m fin=lagM l (mineS c h) fin:=by
 obtain ⟨h1,h2⟩:=mine_any (fin:=fin) hp hs;unfold lagM;rw [← h1];cases e:okB fin m
 ·rfl
 ·rw [h2 e]
theorem host_ok {l:List Version} {T:List Int} {fin h:Int} (hT:∀ t∈T,0≤t∧t<fin):OkM fin (hostC l T fin h):=by
 refine ⟨fun x hx=>?_,fun i x y hx hy=>?_⟩
 ·obtain ⟨s,hs,rfl⟩:=List.mem_map.1 hx;obtain ⟨r1,r2,r3,_,_⟩:=str_range hT hs;simp only [badC,Bool.or_eq_false_iff,decide_eq_false_iff_not];omega
 ·rw [hostC,List.getElem?_map] at hx hy;cases hs:(strC l T fin)[i]? with
  |none=>rw [hs] at hx; cases hx
  |some s =>
   cases hs2:(strC l T fin)[i+1]? with
   |none=>rw [hs2] at hy; cases hy
   |some s2 =>
    rw [hs] at hx;rw [hs2] at hy;obtain rfl:=Option.some.inj hx;obtain rfl:=Option.some.inj hy;exact Int.le_of_eq (str_next hs hs2).1.symm
theorem lag_host {l:List Version} {T:List Int} {fin h:Int} (hn:(l.map (·.zone)).Nodup) (hT:∀ t∈T,0≤t∧t<fin) {c:List Copy} (hc:c.filter (fun x=>decide (x.host=h))=hostC l T fin h):lagM l (mineS c h) fin=(lagL l (strC l T fin) fin,0):=by
 have hok:=host_ok (l:=l) (h:=h) hT;rw [← lagM_any (m:=hostC l T fin h) (by rw [hc]) ((ok_strict hok).imp fun {a b} h=>by omega)];unfold lagM;rw [if_pos (okB_iff.2 hok)];have hv:∀ s∈strC l T fin,verI l (zoneA l s.ver)=s.ver:=fun s hs=>by
  obtain ⟨_,_,_,r4,r5⟩:=str_range hT hs;exact verI_zone hn r4 r5
 have h1:(hostC l T fin h).any (fun x=>decide (verI l x.zone<0))=false:=by
  rw [Bool.eq_false_iff];intro e;obtain ⟨x,hx,e⟩:=List.any_eq_true.1 e;obtain ⟨s,hs,rfl⟩:=List.mem_map.1 hx;obtain ⟨_,_,_,r4,_⟩:=str_range hT hs;have:=hv s hs;simp at e;omega
 have h2:(hostC l T fin h).map (toS l)=strC l T fin:=by
  rw [hostC,List.map_map];refine (List.map_congr_left fun s hs=>?_).trans (List.map_id _);show toS l ⟨h,s.frm,s.upto,zoneA l s.ver⟩=s;rw [toS];simp only;rw [hv s hs]
 rw [h1,h2];rfl
def refB (l:List Version) (k from_ upto:Int):Int:=if (l.length:Int)≤k+1∨upto≤timeA l (k+1)∨upto≤from_ then 0 else upto - timeA l (k+1)
theorem refB_lag {l:List Version} {lag k at_ upto:Int} (h:0≤lag):max lag (refB l k at_ upto)=lagB l lag at_ upto (k+1):=by
 unfold refB lagB;split <;> split <;> omega
end Go.Proofs.YthikfaephakahaaGreatDoor.P
