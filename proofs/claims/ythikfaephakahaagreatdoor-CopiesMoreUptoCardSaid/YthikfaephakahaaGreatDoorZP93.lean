/- Plain laws of package copies: versions that are right, and the copies of all hosts. No conditions. -/
import Derived.Test.YthikfaephakahaaGreatDoorZP92
set_option linter.unusedVariables false
set_option linter.unusedSimpArgs false
namespace Go.Proofs.YthikfaephakahaaGreatDoor.P
open Go Go.Eng
def serZ (z:Zone):Int:=match z.sets[(atI z.sets ⟨z.apex,4⟩).toNat]? with
 |some s=>(match s.set.data[0]? with | some d=>d.n | none=>0)
 |none=>0
def serOK (n:Int):Bool:=decide (0≤n)&&decide (n<65536)
def aheadI (a b:Int):Int:=(b - a+65536).tmod 65536
def lessS (a b:Int):Bool:=decide (1≤aheadI a b)&&decide (aheadI a b≤32767)
def lessB (a b:Int):Bool:=serOK a&&serOK b&&lessS a b
def apexV (l:List Version):Text:=match l with | v::_=>v.zone.apex | []=>[]
def verOK (a:Text) (fin:Int) (v:Version):Bool:=decide (0≤v.time)&&decide (v.time<fin)&&zoneR v.zone&&decide (v.zone.apex=a)
def relV (x y:Version):Bool:=decide (x.time<y.time)&&lessB (serZ x.zone) (serZ y.zone)
def relsB:List Version→Bool
 |x::y::r=>relV x y&&relsB (y::r)
 |_=>true
def rightB (l:List Version) (fin:Int):Bool:=decide (1≤l.length)&&decide (l.length≤400)&&l.all (verOK (apexV l) fin)&&relsB l&&decide ((l.map (·.zone)).Nodup)
theorem rels_iff:∀ {l:List Version},relsB l=true↔∀ (i:Nat) (x y:Version),l[i]? = some x→l[i+1]? = some y→relV x y=true
 | []=>by simp [relsB]
 | [x]=>by simp [relsB]
 |x::y::r=>by
  have ih:=rels_iff (l:=y::r);rw [relsB,Bool.and_eq_true,ih];constructor
  ·rintro ⟨h1,h2⟩ i a b ha hb;cases i with
   |zero=>simp at ha hb; subst ha; subst hb; exact h1
   |succ i=>exact h2 i a b (by simpa using ha) (by simpa using hb)
  ·intro h;exact ⟨h 0 x y rfl rfl,fun i a b ha hb=>h (i+1) a b (by simpa using ha) (by simpa using hb)⟩
theorem rels_times {l:List Version} (h:relsB l=true):VerS l:=by
 have h:=rels_iff.1 h;unfold VerS;rw [List.pairwise_iff_getElem];have main:∀ (n i:Nat) (x y:Version),l[i]? = some x→l[i+1+n]? = some y→x.time<y.time:=by
  intro n
  induction n with
  |zero =>
   intro i x y hx hy;have:=h i x y hx hy;simp only [relV,Bool.and_eq_true,decide_eq_true_eq] at this;exact this.1
  |succ n ih =>
   intro i x y hx hy;obtain ⟨z,hz⟩:=some_of_lt2 (l:=l) (k:=i+1+n) (by have:=(List.getElem?_eq_some_iff.1 hy).1; omega);have h1:=ih i x z hx hz;have h2:=h (i+1+n) z y hz (by rw [show i+1+n+1=i+1+(n+1) by omega]; exact hy);simp only [relV,Bool.and_eq_true,decide_eq_true_eq] at h2;omega
 intro i j hi hj hij;exact main (j - i - 1) i l[i] l[j] (by simp) (by rw [show i+1+(j - i - 1)=j by omega]; simp)
structure VerR (l:List Version) (fin:Int):Prop where
 pos:0<l.length
 few:l.length≤400
 times:∀ v∈l,0≤v.time∧v.time<fin
 zones:∀ v∈l,zoneR v.zone=true
 sorted:VerS l
 nodup:(l.map (·.zone)).Nodup
theorem right_iff {l:List Version} {fin:Int}:rightB l fin=true↔1≤l.length∧l.length≤400∧(∀ v∈l,verOK (apexV l) fin v=true)∧relsB l=true∧(l.map (·.zone)).Nodup:=by
 simp only [rightB,Bool.and_eq_true,decide_eq_true_eq,List.all_eq_true,and_assoc]
theorem right_of {l:List Version} {fin:Int} (h:rightB l fin=true):VerR l fin:=by
 obtain ⟨h1,h2,h3,h4,h5⟩:=right_iff.1 h;have hv:=fun v hv=>by
  have:=h3 v hv;simp only [verOK,Bool.and_eq_true,decide_eq_true_eq] at this;exact this
 exact ⟨by omega,h2,fun v hh=>⟨(hv v hh).1.1.1,(hv v hh).1.1.2⟩,fun v hh=>(hv v hh).1.2,rels_times h4,h5⟩
def verI (l:List Version) (z:Zone):Int:=match l.findIdx? (fun v=>decide (v.zone=z)) with
 |some i=>i
 |none => -1
theorem verI_at {l:List Version} (hn:(l.map (·.zone)).Nodup) {i:Nat} {v:Version} (hi:l[i]? = some v):verI l v.zone=i:=by
 unfold verI;have hlt:=(List.getElem?_eq_some_iff.1 hi).1;have e:l.findIdx? (fun w=>decide (w.zone=v.zone))=some i:=by
  rw [List.findIdx?_eq_some_iff_getElem];refine ⟨hlt,?_,fun j hj=>?_⟩
  ·have:=(List.getElem?_eq_some_iff.1 hi).2;simp [this]
  ·have h1:=List.pairwise_iff_getElem.1 (List.nodup_iff_pairwise_ne.1 hn) j i (by simp; omega) (by simpa using hlt) hj;have:=(List.getElem?_eq_some_iff.1 hi).2;simp only [List.getElem_map,this] at h1
   simpa using h1
 rw [e]
def zoneA (l:List Version) (n:Int):Zone:=match l[n.toNat]? with | some v=>v.zone | none=>⟨[],[]⟩
theorem zoneA_at {l:List Version} {i:Nat} {v:Version} (hi:l[i]? = some v):zoneA l i=v.zone:=by simp [zoneA,hi]
theorem verI_zone {l:List Version} (hn:(l.map (·.zone)).Nodup) {n:Int} (h0:0≤n) (h1:n<l.length):verI l (zoneA l n)=n:=by
 obtain ⟨v,hv⟩:=some_of_lt2 (l:=l) (k:=n.toNat) (by omega);have:=zoneA_at hv;rw [Int.toNat_of_nonneg h0] at this;rw [this,verI_at hn hv];omega
def timesL (l:List Version) (pr:Int) (polls:List Poll) (h:Int):List Int:=if h=pr then l.map (·.time) else (polls.filter fun p=>decide (p.host=h) && !p.lost).map (·.time)
def hostC (l:List Version) (T:List Int) (fin h:Int):List Copy:=(strC l T fin).map fun s=>⟨h,s.frm,s.upto,zoneA l s.ver⟩
def spreadTo (l:List Version) (pr:Int) (polls:List Poll) (fin:Int) (n:Nat):List Copy:=(List.range n).flatMap fun h:Nat=>hostC l (timesL l pr polls h) fin h
def spreadC (l:List Version) (pr:Int) (polls:List Poll) (fin:Int):List Copy:=spreadTo l pr polls fin 64
def endB (n:Int):Bool:=decide (1≤n)&&decide (n≤10000000)
def hostN (n:Int):Bool:=decide (0≤n)&&decide (n<64)
def pollOK (fin:Int) (p:Poll):Bool:=hostN p.host&&decide (0≤p.time)&&decide (p.time<fin)
def pollsB (polls:List Poll) (fin:Int):Bool:=decide (polls.length≤4000)&&polls.all (pollOK fin)
def spreadN (l:List Version) (pr:Int) (polls:List Poll) (fin:Int):Int:=if endB fin&&(rightB l fin&&(hostN pr&&pollsB polls fin)) then (if 4000<(spreadC l pr polls fin).length then 2 else 0) else 1
def spreadR (l:List Version) (pr:Int) (polls:List Poll) (fin:Int):List Copy:=if spreadN l pr polls fin=0 then spreadC l pr polls fin else []
theorem spread_next {l:List Version} {pr:Int} {polls:List Poll} {fin:Int} {n:Nat}:spreadTo l pr polls fin (n+1)=spreadTo l pr polls fin n++hostC l (timesL l pr polls n) fin n:=by
 rw [spreadTo,List.range_succ,List.flatMap_append];simp [spreadTo]
theorem times_in {l:List Version} {pr:Int} {polls:List Poll} {fin:Int} (hl:∀ v∈l,0≤v.time∧v.time<fin) (hp:∀ p∈polls,pollOK fin p=true) {h:Int}:∀ t∈timesL l pr polls h,0≤t∧t<fin:=fun t ht=>by
 unfold timesL at ht;split at ht
 ·obtain ⟨v,hv,rfl⟩:=List.mem_map.1 ht; exact hl v hv
 ·obtain ⟨p,hpm,rfl⟩:=List.mem_map.1 ht;have:=hp p (List.mem_filter.1 hpm).1;simp only [pollOK,Bool.and_eq_true,decide_eq_true_eq] at this;exact ⟨this.1.2,this.2⟩
theorem str_len {l:List Version} {T:List Int} {fin:Int}:(strC l T fin).length≤l.length:=by
 rw [strC,fixU_len,pairsG];exact Nat.le_trans (List.length_filterMap_le ..) (by simp)
theorem spread_len {l:List Version} {pr:Int} {polls:List Poll} {fin:Int}:∀ n,(spreadTo l pr polls fin n).length≤n*l.length
 | 0=>by simp [spreadTo]
 |n+1=>by
  rw [spread_next,List.length_append,Nat.succ_mul];have:=spread_len (l:=l) (pr:=pr) (polls:=polls) (fin:=fin) n;have h2:(hostC l (timesL l pr polls n) fin n).length≤l.length:=by rw [hostC,List.length_map]; exact str_len
  omega
theorem spread_mem {l:List Version} {pr:Int} {polls:List Poll} {fin:Int} {n:Nat} {c:Copy}:c∈spreadTo l pr polls fin n↔0≤c.host∧c.host<n∧∃ s∈strC l (timesL l pr polls c.host) fin,c=⟨c.host,s.frm,s.upto,zoneA l s.ver⟩:=by
 unfold spreadTo;rw [List.mem_flatMap];constructor
 ·rintro ⟨h,hh,hc⟩;obtain ⟨s,hs,rfl⟩:=List.mem_map.1 hc;exact ⟨by simp,by simpa using hh,s,hs,rfl⟩
 ·rintro ⟨h1,h2,s,hs,e⟩;refine ⟨c.host.toNat,by simp; omega,List.mem_map.2 ⟨s,?_,?_⟩⟩
  ·rw [Int.toNat_of_nonneg h1]; exact hs
  ·rw [Int.toNat_of_nonneg h1]; exact e.symm
theorem spread_filter {l:List Version} {pr:Int} {polls:List Poll} {fin:Int} {h:Int}:∀ (n:Nat),0≤h→(spreadTo l pr polls fin n).filter (fun c=>decide (c.host=h))=if h<n then hostC l (timesL l pr polls h) fin h else []
 | 0,h0=>by rw [if_neg (by omega)]; simp [spreadTo]
 |n+1,h0=>by
  have ih:=spread_filter (l:=l) (pr:=pr) (polls:=polls) (fin:=fin) (h:=h) n h0;rw [spread_next,List.filter_append,ih];by_cases he:h=n
  ·subst he;rw [if_neg (by omega),if_pos (by omega),List.nil_append,List.filter_eq_self.2];intro c hc;obtain ⟨s,hs,rfl⟩:=List.mem_map.1 hc;simp
  ·have e0:(hostC l (timesL l pr polls n) fin n).filter (fun c=>decide (c.host=h))=[]:=List.filter_eq_nil_iff.2 fun c hc=>by
    obtain ⟨s,hs,rfl⟩:=List.mem_map.1 hc;simp;omega
   rw [e0,List.append_nil];by_cases h2:h<n
   ·rw [if_pos h2,if_pos (by omega)]
   ·rw [if_neg h2,if_neg (by omega)]
def covB (h t:Int) (c:Copy):Bool:=decide (c.host=h)&&(decide (c.frm≤t)&&decide (t<c.upto))
theorem cov_ver {l:List Version} {pr:Int} {polls:List Poll} {fin:Int} (hn:(l.map (·.zone)).Nodup) (hl:∀ v∈l,0≤v.time∧v.time<fin) (hp:∀ p∈polls,pollOK fin p=true) {h t:Int} (ht:t<fin) {c:Copy} (hc:c∈spreadC l pr polls fin) (hv:covB h t c=true):verI l c.zone=(srvN l (timesL l pr polls h) t:Int) - 1∧0≤verI l c.zone:=by
 obtain ⟨h1,h2,s,hs,e⟩:=spread_mem.1 hc;simp only [covB,Bool.and_eq_true,decide_eq_true_eq] at hv;obtain ⟨rfl,hv1,hv2⟩:=hv;obtain ⟨r1,r2,r3,r4,r5⟩:=str_range (times_in hl hp) hs;have e1:c.frm=s.frm:=by rw [e]
 have e2:c.upto=s.upto:=by rw [e]
 have e3:c.zone=zoneA l s.ver:=by rw [e]
 have:=(str_srv ht hs).1 ⟨by omega,by omega⟩;rw [e3,verI_zone hn r4 r5];omega
theorem cov_some {l:List Version} {pr:Int} {polls:List Poll} {fin:Int} {h t:Int} (h0:0≤h) (h1:h<64) (ht:t<fin) {v:Nat} (hv:srvN l (timesL l pr polls h) t=v+1):∃ c∈spreadC l pr polls fin,covB h t c=true:=by
 obtain ⟨s,hs,e⟩:=srv_str (fin:=fin) hv;obtain ⟨k1,k2⟩:=(str_srv ht hs).2 (by rw [hv,e]; omega);refine ⟨⟨h,s.frm,s.upto,zoneA l s.ver⟩,spread_mem.2 ⟨h0,h1,s,hs,rfl⟩,?_⟩;simp [covB,k1,k2]
theorem cov_one {l:List Version} {pr:Int} {polls:List Poll} {fin:Int} {h t:Int} (ht:t<fin):∀ (n:Nat),(spreadTo l pr polls fin n).Pairwise fun a b=>¬ (covB h t a=true∧covB h t b=true)
 | 0=>by simp [spreadTo]
 |n+1=>by
  rw [spread_next,List.pairwise_append];refine ⟨cov_one ht n,?_,fun a ha b hb=>?_⟩
  ·rw [hostC,List.pairwise_map,List.pairwise_iff_getElem];intro i j hi hj hij;rintro ⟨c1,c2⟩;simp only [covB,Bool.and_eq_true,decide_eq_true_eq] at c1 c2;have e1:=(str_srv ht (List.getElem_mem hi)).1 c1.2;have e2:=(str_srv ht (List.getElem_mem hj)).1 c2.2;obtain ⟨v,v1,_,_,v4,_⟩:=str_at (List.getElem?_eq_getElem hi);obtain ⟨w,w1,_,_,w4,_⟩:=str_at (List.getElem?_eq_getElem hj);have:=(pair_at pairs_lt v4 w4).1.1 hij;simp only at this;omega
  ·rintro ⟨c1,c2⟩;obtain ⟨a1,a2,_⟩:=spread_mem.1 ha;obtain ⟨s,hs,rfl⟩:=List.mem_map.1 hb;simp only [covB,Bool.and_eq_true,decide_eq_true_eq] at c1 c2;omega
def FolAt (l:List Version) (fin:Int) (c:List Copy):Prop:=∀ (i:Nat) (x:Copy),c[i]? = some x→(c.length=i+1→x.upto=fin)∧∀ y,c[i+1]? = some y→(y.host≠x.host→x.upto=fin∧x.host<y.host)∧(y.host=x.host→y.frm=x.upto∧verI l x.zone<verI l y.zone)
theorem fol_host {l:List Version} {T:List Int} {fin h:Int} (hn:(l.map (·.zone)).Nodup) (hT:∀ t∈T,0≤t∧t<fin):FolAt l fin (hostC l T fin h):=fun i x hx=>by
 rw [hostC,List.getElem?_map] at hx;cases hs:(strC l T fin)[i]? with
 |none=>rw [hs] at hx; cases hx
 |some s =>
  rw [hs] at hx;obtain rfl:=Option.some.inj hx;obtain ⟨_,_,_,r4,r5⟩:=str_range hT (List.mem_of_getElem? hs);refine ⟨fun hl=>str_end hs (by rwa [hostC,List.length_map] at hl),fun y hy=>?_⟩;rw [hostC,List.getElem?_map] at hy;cases hs2:(strC l T fin)[i+1]? with
  |none=>rw [hs2] at hy; cases hy
  |some s2 =>
   rw [hs2] at hy;obtain rfl:=Option.some.inj hy;obtain ⟨_,_,_,q4,q5⟩:=str_range hT (List.mem_of_getElem? hs2);obtain ⟨n1,n2⟩:=str_next hs hs2;refine ⟨fun e=>absurd rfl e,fun _=>⟨n1,?_⟩⟩;show verI l (zoneA l s.ver)<verI l (zoneA l s2.ver);rw [verI_zone hn r4 r5,verI_zone hn q4 q5];exact n2
theorem fol_app {l:List Version} {fin:Int} {a b:List Copy} (ha:FolAt l fin a) (hb:FolAt l fin b) (h:∀ x∈a,∀ y∈b,x.host<y.host):FolAt l fin (a++b):=fun i x hx=>by
 rcases Nat.lt_or_ge i a.length with hi | hi
 ·rw [List.getElem?_append_left hi] at hx;obtain ⟨h1,h2⟩:=ha i x hx;refine ⟨fun hl=>h1 (by rw [List.length_append] at hl; omega),fun y hy=>?_⟩;rcases Nat.lt_or_ge (i+1) a.length with hj | hj
  ·rw [List.getElem?_append_left hj] at hy;exact h2 y hy
  ·rw [List.getElem?_append_right hj] at hy;have hlt:=h x (List.mem_of_getElem? hx) y (List.mem_of_getElem? hy);exact ⟨fun _=>⟨h1 (by omega),hlt⟩,fun e=>by omega⟩
 ·rw [List.getElem?_append_right hi] at hx;obtain ⟨h1,h2⟩:=hb (i - a.length) x hx;refine ⟨fun hl=>h1 (by rw [List.length_append] at hl; omega),fun y hy=>?_⟩;rw [List.getElem?_append_right (by omega)] at hy;exact h2 y (by rw [show i - a.length+1=i+1 - a.length by omega]; exact hy)
theorem fol_spread {l:List Version} {pr:Int} {polls:List Poll} {fin:Int} (hn:(l.map (·.zone)).Nodup) (hl:∀ v∈l,0≤v.time∧v.time<fin) (hp:∀ p∈polls,pollOK fin p=true):∀ n,FolAt l fin (spreadTo l pr polls fin n)
 | 0=>fun i x hx=>by simp [spreadTo] at hx
 |n+1=>by
  rw [spread_next];refine fol_app (fol_spread hn hl hp n) (fol_host hn (times_in hl hp)) fun x hx y hy=>?_;obtain ⟨_,h2,_⟩:=spread_mem.1 hx;obtain ⟨s,hs,rfl⟩:=List.mem_map.1 hy;exact h2
theorem spread_some {l:List Version} {pr:Int} {polls:List Poll} {fin:Int} (hs:VerS l) (hl:0<l.length) (h0:0≤pr) (h1:pr<64):spreadC l pr polls fin≠[]:=by
 obtain ⟨v,hv⟩:=some_of_lt2 (l:=l) (k:=0) hl;have e1:=(newN_iff hs hv (t:=v.time)).1 (Int.le_refl _);have hm:v.time∈timesL l pr polls pr:=by
  rw [timesL,if_pos rfl];exact List.mem_map.2 ⟨v,List.mem_of_getElem? hv,rfl⟩
 obtain ⟨f,f1,_⟩:=frmT_ex (l:=l) (v:=newN l v.time - 1) hm (by omega);have hp:(f,newN l v.time - 1)∈pairsG l (timesL l pr polls pr) l.length:=pairs_mem.2 ⟨by have:=newN_le (l:=l) (t:=v.time); simp only; omega,f1⟩;intro e;have hlen:(strC l (timesL l pr polls pr) fin).length=(pairsG l (timesL l pr polls pr) l.length).length:=fixU_len _ _;obtain ⟨x,hx⟩:=some_of_lt2 (l:=strC l (timesL l pr polls pr) fin) (k:=0) (by have:=List.length_pos_of_mem hp; omega);have:(⟨pr,x.frm,x.upto,zoneA l x.ver⟩:Copy)∈spreadC l pr polls fin:=spread_mem.2 ⟨h0,h1,x,List.mem_of_getElem? hx,rfl⟩;rw [e] at this;simp at this
theorem spread_same {l:List Version} {pr:Int} {p q:List Poll} {fin:Int} (h:∀ h t,t∈timesL l pr p h↔t∈timesL l pr q h):spreadC l pr p fin=spreadC l pr q fin:=by
 unfold spreadC spreadTo hostC
 congr 1
 funext n;rw [str_same (h n)]
theorem times_lost {l:List Version} {pr:Int} {polls:List Poll} (h t:Int):t∈timesL l pr polls h↔t∈timesL l pr (polls.reverse.filter fun p => !p.lost && !decide (p.host=pr)) h:=by
 unfold timesL;split
 ·exact Iff.rfl
 ·rename_i hne;simp only [List.mem_map,List.mem_filter,List.mem_reverse,Bool.and_eq_true,Bool.not_eq_true',decide_eq_true_eq,decide_eq_false_iff_not];constructor
  ·rintro ⟨p,⟨h1,h2,h3⟩,rfl⟩;exact ⟨p,⟨⟨h1,h3,by omega⟩,h2,h3⟩,rfl⟩
  ·rintro ⟨p,⟨⟨h1,h2,h3⟩,h4,h5⟩,rfl⟩;exact ⟨p,⟨h1,h4,h5⟩,rfl⟩
theorem times_more {l:List Version} {pr:Int} {polls:List Poll} {p:Poll} (h t:Int):t∈timesL l pr polls h→t∈timesL l pr (polls++[p]) h:=by
 unfold timesL;split
 ·exact id
 ·rw [List.filter_append,List.map_append];exact List.mem_append_left _
theorem times_none {l:List Version} {pr:Int} {polls:List Poll} {h:Int} (hne:h≠pr):timesL l pr (polls.filter fun p => !decide (p.host=h)) h=[]:=by
 rw [timesL,if_neg hne,List.filter_filter,List.filter_eq_nil_iff.2 fun p _=>by cases hd:decide (p.host=h) <;> simp_all];rfl
theorem lag_none {l:List Version} {fin:Int} (hl:0<l.length) (hfin:0<fin):lagL l [] fin=max 0 (fin - timeA l 0):=by
 show lagB l 0 0 fin 0=_;unfold lagB;rw [if_pos ⟨hfin,by omega⟩]
end Go.Proofs.YthikfaephakahaaGreatDoor.P
