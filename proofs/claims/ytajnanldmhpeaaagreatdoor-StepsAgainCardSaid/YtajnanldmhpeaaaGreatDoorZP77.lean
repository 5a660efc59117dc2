/- Plain laws of package steps: worlds. No conditions. -/
import Derived.Test.YtajnanldmhpeaaaGreatDoorZP76
import Derived.Test.YtajnanldmhpeaaaGreatDoorZM7
set_option linter.unusedVariables false
set_option linter.unusedSimpArgs false
namespace Go.Proofs.YtajnanldmhpeaaaGreatDoor.P
open Go Go.Eng
def placedOK (n:Nat) (p:Placed):Bool:=decide (0≤p.host)&&decide (p.host<n)&&zoneR p.zone
def apexP (l:List Placed):Nat:=(nub [] (l.map (·.zone.apex))).length
def placesB (n:Nat) (l:List Placed):Bool:=decide (l.length≤4000)&&l.all (placedOK n)&&decide ((l.map Placed.spot).Nodup)&&decide (apexP l≤500)
def worldB (w:Wld):Bool:=hostsB w.hosts&&placesB w.hosts.length w.zones&&rootB w.anchor w.hints
def manyP (l:List Placed):Bool:=decide (4000<l.length)||decide (500<apexP l)
def zeroW:Wld:=⟨[],[],⟨[],0,0,[]⟩,[]⟩
def worldN (w:Wld) (s:Stage):Int:=if worldB w&&stageB w.hosts.length s then (if manyP (afterL w.zones s) then 2 else 0) else 1
def worldS (w:Wld) (s:Stage):Wld:=if worldN w s=0 then { w with zones:=afterL w.zones s } else zeroW
def atN (h:History) (t:Int):Int:=if histB h&&(decide (0≤t)&&decide (t<h.fin)) then 0 else 1
def atW (h:History) (t:Int):Wld:=if atN h t=0 then ⟨h.hosts,servedL h.copies t,h.anchor,h.hints⟩ else zeroW
theorem placesB_iff {n:Nat} {l:List Placed}:placesB n l=true↔l.length≤4000∧(∀ p∈l,placedOK n p=true)∧(l.map Placed.spot).Nodup∧apexP l≤500:=by
 simp only [placesB,Bool.and_eq_true,decide_eq_true_eq,List.all_eq_true,and_assoc]
theorem worldB_iff {w:Wld}:worldB w=true↔hostsB w.hosts=true∧placesB w.hosts.length w.zones=true∧rootB w.anchor w.hints=true:=by
 simp only [worldB,Bool.and_eq_true,and_assoc]
theorem manyP_no {l:List Placed}:manyP l=false↔l.length≤4000∧apexP l≤500:=by
 simp [manyP]
theorem worldN_zero {w:Wld} {s:Stage}:worldN w s=0↔worldB w=true∧stageB w.hosts.length s=true∧manyP (afterL w.zones s)=false:=by
 unfold worldN;cases worldB w <;> cases stageB w.hosts.length s <;> cases manyP (afterL w.zones s) <;> simp
theorem worldS_zero {w:Wld} {s:Stage} (h0:worldN w s=0):worldS w s={ w with zones:=afterL w.zones s }:=by rw [worldS,if_pos h0]
theorem worldN_two {w:Wld} {s:Stage} (h1:worldB w=true) (h2:stageB w.hosts.length s=true):worldN w s=0∨worldN w s=2:=by
 unfold worldN;rw [h1,h2];cases manyP (afterL w.zones s) <;> simp
theorem atN_zero {h:History} {t:Int}:atN h t=0↔histB h=true∧0≤t∧t<h.fin:=by
 unfold atN;cases histB h <;> by_cases h1:0≤t <;> by_cases h2:t<h.fin <;> simp [h1,h2]
theorem nodup_le {α:Type} [DecidableEq α]:∀ {a b:List α},a.Nodup→(∀ x∈a,x∈b)→a.length≤b.length
 | [],_,_,_=>Nat.zero_le _
 |x::a,b,hn,h=>by
  have hn2:=List.nodup_cons.1 hn;have hx:=h x (List.mem_cons_self ..);have h1:=nodup_le (a:=a) (b:=b.erase x) hn2.2 (fun y hy=>(List.mem_erase_of_ne (fun e=>hn2.1 (by rw [← e]; exact hy))).2 (h y (List.mem_cons_of_mem _ hy)));have h2:=List.length_erase_of_mem hx;have h3:=List.length_pos_of_mem hx;simp;omega
theorem nub_le {α:Type} [DecidableEq α] {a b:List α} (h:∀ x∈a,x∈b):(nub [] a).length≤(nub [] b).length :=
 nodup_le (nub_nodup List.nodup_nil) fun x hx=>by
  rw [nub_mem] at hx ⊢;rcases hx with hx | hx
  ·simp at hx
  ·exact .inr (h x hx)
theorem nub_le_len {α:Type} [DecidableEq α] {a:List α}:(nub [] a).length≤a.length:=by
 have:=nub_len_le (l:=a) (acc:=[])
 simpa using this
theorem served_mem {cs:List Copy} {t:Int} {p:Placed} (h:p∈servedL cs t):∃ c∈cs,c.frm≤t∧t<c.upto∧p=⟨c.host,c.zone⟩:=by
 obtain ⟨c,hc,e⟩:=List.mem_map.1 h;obtain ⟨h1,h2⟩:=List.mem_filter.1 hc;simp at h2;exact ⟨c,h1,h2.1,h2.2,e.symm⟩
theorem served_len {cs:List Copy} {t:Int}:(servedL cs t).length≤cs.length:=by
 rw [servedL,placedOf,List.length_map];exact List.length_filter_le ..
theorem at_valid {h:History} {t:Int} (h0:atN h t=0):worldB (atW h t)=true:=by
 rw [atW,if_pos h0];obtain ⟨hv,t1,t2⟩:=atN_zero.1 h0;obtain ⟨q1,q2,q3,q4,q5,⟨q6,q7⟩,⟨g1,g2⟩,q8⟩:=histB_iff.1 hv;refine worldB_iff.2 ⟨q6,placesB_iff.2 ⟨?_,fun p hp=>?_,?_,?_⟩,q7⟩
 ·have:=served_len (cs:=h.copies) (t:=t);show (servedL h.copies t).length≤4000;omega
 ·obtain ⟨c,hc,_,_,rfl⟩:=served_mem hp;obtain ⟨c1,c2,_,_,_,c3⟩:=copyOK_iff.1 (g1 c hc);simp [placedOK,c3];exact ⟨c1,c2⟩
 ·show ((servedL h.copies t).map Placed.spot).Nodup;rw [servedL,placedOf,List.map_map,List.nodup_iff_pairwise_ne,List.pairwise_map,List.pairwise_filter];refine g2.imp fun {a b} hab ha hb e=>?_;simp at ha hb;exact hab e ⟨by omega,by omega⟩
 ·refine Nat.le_trans (nub_le fun x hx=>?_) q8;obtain ⟨p,hp,rfl⟩:=List.mem_map.1 hx;obtain ⟨c,hc,_,_,rfl⟩:=served_mem hp;exact List.mem_map.2 ⟨c,hc,rfl⟩
theorem stageB_iff {n:Nat} {s:Stage}:stageB n s=true↔s.puts.length≤500∧(∀ p∈s.puts,putOK n p=true)∧(s.puts.map Placed.spot).Nodup:=by
 simp only [stageB,Bool.and_eq_true,decide_eq_true_eq,List.all_eq_true,and_assoc]
theorem after_mem {l:List Placed} {s:Stage} {p:Placed}:p∈afterL l s↔(p∈l∧p.spot ∉ s.puts.map Placed.spot)∨(p∈s.puts∧stopB p.zone=false):=by
 simp only [afterL,List.mem_append,List.mem_filter,Bool.not_eq_true',decide_eq_false_iff_not]
theorem after_len {l:List Placed} {s:Stage}:(afterL l s).length≤l.length+s.puts.length:=by
 rw [afterL,List.length_append];have h1:=List.length_filter_le (fun p:Placed => !decide (p.spot∈s.puts.map Placed.spot)) l;have h2:=List.length_filter_le (fun p:Placed => !stopB p.zone) s.puts;omega
theorem world_valid {w:Wld} {s:Stage} (h0:worldN w s=0):worldB (worldS w s)=true:=by
 obtain ⟨w1,w2,w3⟩:=worldN_zero.1 h0;rw [worldS_zero h0];obtain ⟨v1,v2,v3⟩:=worldB_iff.1 w1;obtain ⟨p1,p2,p3,p4⟩:=placesB_iff.1 v2;obtain ⟨s1,s2,s3⟩:=stageB_iff.1 w2;obtain ⟨m1,m2⟩:=manyP_no.1 w3;refine worldB_iff.2 ⟨v1,placesB_iff.2 ⟨m1,fun p hp=>?_,?_,m2⟩,v3⟩
 ·rcases after_mem.1 hp with ⟨h1,_⟩ | ⟨h1,h2⟩
  ·exact p2 p h1
  ·have:=s2 p h1;simp only [putOK,Bool.and_eq_true,h2,Bool.false_or] at this;simp only [placedOK,Bool.and_eq_true];exact this
 ·show ((afterL w.zones s).map Placed.spot).Nodup;rw [afterL,List.map_append,List.nodup_append];refine ⟨p3.sublist (List.filter_sublist.map _),s3.sublist (List.filter_sublist.map _),fun a ha b hb e=>?_⟩;obtain ⟨x,hx,rfl⟩:=List.mem_map.1 ha;obtain ⟨y,hy,e2⟩:=List.mem_map.1 hb;obtain ⟨_,h2⟩:=List.mem_filter.1 hx;simp only [Bool.not_eq_true',decide_eq_false_iff_not] at h2;exact h2 (by rw [e,← e2]; exact List.mem_map.2 ⟨y,(List.mem_filter.1 hy).1,rfl⟩)
theorem after_again {l:List Placed} {s:Stage}:afterL (afterL l s) s=afterL l s:=by
 rw [afterL,afterL,List.filter_append]
 congr 1
 have e1:(s.puts.filter fun p => !stopB p.zone).filter (fun p => !decide (p.spot∈s.puts.map Placed.spot))=[]:=List.filter_eq_nil_iff.2 fun p hp=>by
  have:p.spot∈s.puts.map Placed.spot:=List.mem_map.2 ⟨p,(List.mem_filter.1 hp).1,rfl⟩;simp only [Bool.not_eq_true',Bool.not_eq_true,Bool.not_eq_false',decide_eq_true_eq,Bool.not_eq_false];exact this
 rw [e1,List.append_nil,List.filter_filter]
 congr 1
 funext p;simp
theorem world_again {w:Wld} {s:Stage} (h0:worldN w s=0):worldN (worldS w s) s=0∧worldS (worldS w s) s=worldS w s:=by
 obtain ⟨w1,w2,w3⟩:=worldN_zero.1 h0;have hv:=world_valid h0;have e:=worldS_zero h0;have h1:worldN (worldS w s) s=0:=worldN_zero.2 ⟨hv,by rw [e]; exact w2,by rw [e]; show manyP (afterL (afterL w.zones s) s)=false; rw [after_again]; exact w3⟩;refine ⟨h1,?_⟩;rw [worldS_zero h1,e];show ({ w with zones:=afterL (afterL w.zones s) s }:Wld)=_;rw [after_again]
theorem after_found {w:Wld} {s:Stage} {p:Placed} (h2:stageB w.hosts.length s=true) (hp:p∈s.puts):(∀ z∈afterL w.zones s,z.spot=p.spot→z=p∧stopB p.zone=false)∧(stopB p.zone=false→p∈afterL w.zones s):=by
 obtain ⟨s1,s2,s3⟩:=stageB_iff.1 h2;refine ⟨fun z hz e=>?_,fun h=>after_mem.2 (.inr ⟨hp,h⟩)⟩;rcases after_mem.1 hz with ⟨_,h3⟩ | ⟨h3,h4⟩
 ·exact absurd (by rw [e]; exact List.mem_map.2 ⟨p,hp,rfl⟩) h3
 ·have:z=p:=by
   obtain ⟨i,hi⟩:=List.getElem?_of_mem h3;obtain ⟨j,hj⟩:=List.getElem?_of_mem hp;have h5:(s.puts.map Placed.spot)[i]? = some p.spot:=by simp [hi,e]
   have h6:(s.puts.map Placed.spot)[j]? = some p.spot:=by simp [hj]
   have:=nodup_at s3 h5 h6;subst this;rw [hi] at hj;exact Option.some.inj hj
  subst this;exact ⟨rfl,h4⟩
end Go.Proofs.YtajnanldmhpeaaaGreatDoor.P
