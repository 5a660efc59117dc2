/- Several texts of mine, one behind the other. Conditions: as each says. -/
import Derived.Test.YtajnanldmhpeaaaGreatDoorZN2
import Derived.Test.YtajnanldmhpeaaaGreatDoorZP21
import Derived.Test.YtajnanldmhpeaaaGreatDoorZM7
import Derived.Test.YtajnanldmhpeaaaGreatDoorZN1
set_option linter.unusedVariables false
set_option linter.unusedSimpArgs false
section
namespace Go.Proofs.YtajnanldmhpeaaaGreatDoor.P
open Go Go.Eng
set_option maxRecDepth 100000
set_option maxHeartbeats 4000000
theorem back_len (t:Text):(Nm.back ⟨t.toArray⟩).length=(Nm.labels t).length:=by simp [Nm.back,toL_mk]
theorem back_at {t:Text} {i:Nat} {x:Text} (h:(Nm.labels t)[i]? = some x):(Nm.back ⟨t.toArray⟩)[(Nm.labels t).length - 1 - i]? = some ⟨x.toArray⟩:=by
 have hi:=lt_of_getElem? h;simp only [Nm.back,toL_mk,List.getElem?_map];rw [List.getElem?_reverse (by omega),show (Nm.labels t).length - 1 - ((Nm.labels t).length - 1 - i)=i by omega,h];rfl
def labelsD (t:Text):DV:=if Nm.valid t then .tup [.sl ((Nm.labels t).map .str),.int .i64 0] else .tup [.nilsl,.int .i64 11]
theorem labels_p (t:Text) (ht:t.length≤maxLen):PCalls E 185 [.str t] (· = labelsD t):=by
 unfold PCalls;refine ⟨⟨_,Tryz.func185,rfl,by decide⟩,fun bar w vs hbar _ hv=>?_⟩;obtain ⟨hl,hv⟩:=hv;obtain ⟨v,rfl⟩:∃ v,vs=[v]:=by
  cases vs with
  |nil=>simp at hl
  |cons v r=>cases r with
   |nil=>exact ⟨v,rfl⟩
   |cons u r=>simp at hl
 have:=hv 0 (.str t) v rfl rfl;cases this;cases h:Nm.valid t
 ·refine (labels_bad ⟨t.toArray⟩ w (size_mk ht) (by rw [toL_mk]; exact h)).mono fun e w' ⟨h1,h2⟩=>⟨_,labelsD t,h1,rfl,?_,h2⟩;simp only [labelsD,h]
  exact .tup _ _ rfl (fun j x v hx hv=>by
   match j with
   | 0=>simp at hx hv; subst hx; subst hv; exact .nilsl
   | 1=>simp at hx hv; subst hx; subst hv; exact .int _ _
   |j+2=>simp at hx)
 ·refine (labels_ok ⟨t.toArray⟩ w (by rw [toL_mk]; exact h)).mono fun e w' ⟨B,k,hk,h1,h2,hB,hat⟩=>⟨_,labelsD t,h1,rfl,?_,h2⟩;simp only [labelsD,h,if_true];refine .tup _ _ rfl (fun j x v hx hv=>?_)
  match j with
  | 0 =>
   simp at hx hv; subst hx; subst hv;cases hl0:Nm.labels t with
   |nil =>
    rw [back_len,hl0];exact .slz _
   |cons y ys =>
    have hne:Nm.back ⟨t.toArray⟩≠[]:=by
     intro h0;have:=back_len t;rw [h0,hl0] at this;simp at this
    have hk8:=hk hne;rw [back_len] at hk8;have e1:(Nm.back ⟨t.toArray⟩).length=((Nm.labels t).map DV.str).length:=by rw [back_len]; simp
    rw [e1,← hl0];have hone:∀ (i j:Nat) (e x:DV),((Nm.labels t).map DV.str)[i]? = some e→e.cells[j]? = some x→∃ y,(Nm.labels t)[i]? = some y∧x = .str y∧j=0:=fun i j e x he hx=>by
     simp only [List.getElem?_map,Option.map_eq_some_iff] at he;obtain ⟨y,hy,rfl⟩:=he
     match j with
     | 0=>simp [DV.cells] at hx; exact ⟨y,hy,hx.symm,rfl⟩
     |j+1=>simp [DV.cells] at hx
    refine .sl _ B k _ 1 (fun i _=>match (Nm.labels t)[i]? with | some y => .string ⟨y.toArray⟩ | none=>undef) (fun _ hb=>by have:=hbar B hb; omega) (by omega) (Nat.le_refl _) (fun i e he=>?_) (fun i j e x he hx=>?_) (fun i j e x he hx=>?_) (fun i j e x he hx=>?_)
    ·simp only [List.getElem?_map,Option.map_eq_some_iff] at he;obtain ⟨y,hy,rfl⟩:=he;rfl
    ·obtain ⟨y,hy,rfl,rfl⟩:=hone i j e x he hx;have hi:=lt_of_getElem? hy;have:=hat _ _ (back_at hy);simp only [hy];rw [show k+(i*1+0)=7 - ((Nm.labels t).length - 1 - i) by omega];exact this
    ·obtain ⟨y,hy,rfl,rfl⟩:=hone i j e x he hx;simp only [hy];exact .str y
    ·obtain ⟨y,hy,rfl,rfl⟩:=hone i j e x he hx;simp only [hy];rfl
  | 1=>simp at hx hv; subst hx; subst hv; exact .int _ _
  |j+2=>simp at hx
def starB (t:Text):Bool:=Nm.valid t&&wildL t
theorem wildcard_p (t:Text) (ht:t.length≤maxLen):PCalls E 142 [.str t] (· = .bool (starB t)):=by
 have hlab:=labels_p t ht;unfold labelsD at hlab;cases h:Nm.valid t
 ·simp only [h,Bool.false_eq_true,if_false] at hlab;refine eP Tryz.func142 ?_
  with_reducible refine callP_eq (hlab) ?_
  refine gO Tryz.func142 ?_;refine caseB_false ?_;refine gO Tryz.func142 ?_;simp [starB,h]
 ·simp only [h,if_true] at hlab;refine eP Tryz.func142 ?_
  with_reducible refine callP_eq (hlab) ?_
  refine gO Tryz.func142 ?_;cases hl:Nm.labels t with
  |nil =>
   refine caseB_no rfl ?_;refine gO Tryz.func142 ?_;simp [starB,wildL,h,hl]
  |cons y ys =>
   have hy:(y::ys)[0]? = some y:=rfl;refine caseB_yes (by simp) ?_;refine gO Tryz.func142 ?_;refine elemP_at (e := .str y) (at_zero hy) rfl ?_;refine gO Tryz.func142 ?_;simp [starB,wildL,h,hl]
def addrB (n:Int):Bool:=decide (1≤n)&&decide (n≤1000000)
theorem validAddr_p (n:Int):PCalls E 143 [.int .i64 n] (· = .bool (addrB n)):=by
 refine eP Tryz.func143 ?_;repeat' (first | with_reducible refine cY ?_ | with_reducible refine cN ?_ | with_reducible refine caseB_split (fun _=>?_) (fun _=>?_) | refine gA Tryz.func143 ?_ | refine gB ?_ | refine gC ?_ | with_reducible rfl)
 all_goals (simp_all [addrB] <;> omega)
theorem keyEq_int (a b:Int):keyEq (.int .i64 a) (.int .i64 b)=(a==b):=rfl
def IntKeys (es:List (DV × DV)):Prop:=∀ p∈es,∃ s,p.1=DV.int .i64 s
theorem intKeys_put {n:Int} {v:DV}:∀ {es:List (DV × DV)},IntKeys es→IntKeys (putD (.int .i64 n) v es)
 | [],_,p,hp=>by simp [putD] at hp; subst hp; exact ⟨_,rfl⟩
 |q::es,h,p,hp=>by
  unfold putD at hp;split at hp
  ·rcases List.mem_cons.1 hp with rfl | hp
   ·exact ⟨_,rfl⟩
   ·exact h p (List.mem_cons_of_mem _ hp)
  ·rcases List.mem_cons.1 hp with rfl | hp
   ·exact h _ (List.mem_cons_self ..)
   ·exact intKeys_put (fun r hr=>h r (List.mem_cons_of_mem _ hr)) p hp
theorem findD_putI {n m:Int} {v:DV}:∀ {es:List (DV × DV)},IntKeys es→findD (.int .i64 m) (putD (.int .i64 n) v es)=if m==n then some v else findD (.int .i64 m) es
 | [],_=>by simp [putD,findD,keyEq_int]
 |q::es,h=>by
  obtain ⟨s,hs⟩:=h q (List.mem_cons_self ..);obtain ⟨q1,q2⟩:=q;simp only at hs;subst hs;unfold putD;simp only [keyEq_int];by_cases e:n=s
  ·subst e;simp only [beq_self_eq_true,if_true,findD,keyEq_int];by_cases e2:m=n
   ·simp [e2]
   ·simp [e2]
  ·have ih:=findD_putI (n:=n) (m:=m) (v:=v) (es:=es) (fun r hr=>h r (List.mem_cons_of_mem _ hr));have e':(n==s)=false:=by simpa using e
   simp only [e',Bool.false_eq_true,if_false,findD,keyEq_int,ih];by_cases e2:m=s
   ·subst e2;have:(m==n)=false:=by simpa using fun h=>e h.symm
    simp [this]
   ·simp [e2]
def hostB (x:Host):Bool:=Nm.valid x.name && !starB x.name&&decide (0≤x.owner)&&decide (x.owner<32)&&addrB x.addr
def hostsB (l:List Host):Bool:=decide (l.length≤64)&&l.all hostB&&decide ((l.map (·.addr)).Nodup)
def addrMap (l:List Host):List (DV × DV):=l.foldl (fun es x=>putD (.int .i64 x.addr) (.bool true) es) []
theorem addrMap_next {l:List Host} {k:Nat} {x:Host} (h:l[k]? = some x):addrMap (l.take (k+1))=putD (.int .i64 x.addr) (.bool true) (addrMap (l.take k)):=by
 rw [take_next h,addrMap,List.foldl_append];rfl
theorem addrMap_ok (l:List Host):IntKeys (addrMap l)∧∀ n,findD (.int .i64 n) (addrMap l)=if n∈l.map (·.addr) then some (.bool true) else none:=by
 have main:∀ (l:List Host) (es:List (DV × DV)) (C:List Int),IntKeys es→(∀ n,findD (.int .i64 n) es=if n∈C then some (.bool true) else none) →
   IntKeys (l.foldl (fun es x=>putD (.int .i64 x.addr) (.bool true) es) es)∧∀ n,findD (.int .i64 n) (l.foldl (fun es x=>putD (.int .i64 x.addr) (.bool true) es) es)=if n∈C++l.map (·.addr) then some (.bool true) else none:=by
  intro l
  induction l with
  |nil=>intro es C h1 h2; exact ⟨h1,by simpa using h2⟩
  |cons s l ih =>
   intro es C h1 h2
   have:=ih (putD (.int .i64 s.addr) (.bool true) es) (C++[s.addr]) (intKeys_put h1) (fun n=>by
    rw [findD_putI h1,h2 n];by_cases h:n=s.addr
    ·simp [h]
    ·simp [h])
   simpa using this
 have:=main l [] [] (fun p hp=>by simp at hp) (fun n=>by simp [findD])
 simpa [addrMap] using this
theorem hostsB_no {l:List Host} {k:Nat} {x:Host} (hx:l[k]? = some x) (h:hostB x=false):hostsB l=false:=by
 have:l.all hostB=false:=by
  cases ha:l.all hostB
  ·rfl
  ·rw [List.all_eq_true.1 ha x (List.mem_of_getElem? hx)] at h;cases h
 simp [hostsB,this]
theorem validHosts_p (l:List Host) (hn:∀ x∈l,x.name.length≤maxLen):PCalls E 115 [.sl (l.map Host.enc)] (· = .bool (hostsB l)):=by
 refine eP Tryz.func115 ?_;refine caseB_split (fun h1=>?_) (fun h1=>?_)
 ·refine gO Tryz.func115 ?_;have:hostsB l=false:=by simp [hostsB]; simp at h1; omega
  rw [this]
 ·have hlen:l.length≤64:=by simp at h1; omega
  refine gO Tryz.func115 ?_;refine gO Tryz.func115 ?_;refine AWL.loop (κ:=Nat) ([2,5]++rg 12 37) (fun k=>[(12,.d (.int .i64 k)),(2,.d (.bool false)),(3,.map 0)]) (fun k=>[(0,.map (addrMap (l.take k)))]) (fun k=>k≤l.length∧(l.take k).all hostB=true∧((l.take k).map (·.addr)).Nodup) (fun k=>l.length - k) 0 ⟨Nat.zero_le _,rfl,by simp⟩ ?_ ?_
  ·(conv=>whnf);repeat (first | exact trivial | (refine And.intro (by first | with_reducible rfl | exact congrArg (DV.int .i64) (by omega) | exact rfl | exact congrArg (DV.int .i64) (wrap64 (by omega) (by omega)) | exact congrArg (DV.int .i64) ((wrap64 (by omega) (by omega)).trans (by omega))) ?_; conv=>whnf))
  rintro k ⟨hk,hall,hnd⟩ IH;refine AWL.head E_ok Tryz.func115 2000 ?_;(conv=>whnf);refine caseB_split (fun h5=>?_) (fun h5=>?_)
  ·have hlt:k<l.length:=by simpa using h5
   obtain ⟨x,hx⟩:=some_of_lt hlt;have hnx:=hn x (List.mem_of_getElem? hx);refine gO Tryz.func115 ?_;refine elemP_at (e:=x.enc) (at_map hx) rfl ?_;refine gO Tryz.func115 ?_;repeat' (first | with_reducible refine callP_eq (nvalid_p x.name hnx) ?_ | with_reducible refine callP1_eq (nvalid_p x.name hnx) ?_ | with_reducible refine callP_eq (wildcard_p x.name hnx) ?_ | with_reducible refine callP1_eq (wildcard_p x.name hnx) ?_ | with_reducible refine callP_eq (validAddr_p x.addr) ?_ | with_reducible refine callP1_eq (validAddr_p x.addr) ?_ | with_reducible refine cY ?_ | with_reducible refine cN ?_ | with_reducible refine caseB_split (fun _=>?_) (fun _=>?_) | refine gA Tryz.func115 ?_ | refine gB ?_ | refine gC ?_ | with_reducible rfl)
   all_goals try (rw [hostsB_no hx (by simp_all [hostB] <;> omega)]; done)
   have hfind:=(addrMap_ok (l.take k)).2 x.addr;have hkeys:=(addrMap_ok (l.take k)).1;have hb:hostB x=true:=by simp_all [hostB]
   refine lookP_intro (.bool false) (.bool false) (v := .bool (decide (x.addr∈(l.take k).map (·.addr)))) (f:=decide (x.addr∈(l.take k).map (·.addr))) ⟨_,rfl⟩ hkeys (fun w=>by kernel_rfl) (fun _ _ => .bool _) (by rw [hfind]; split <;> simp_all) (by rw [hfind]; split <;> simp_all) ?_;refine gO Tryz.func115 ?_;refine caseB_split (fun h9=>?_) (fun h9=>?_)
   ·refine gO Tryz.func115 ?_;have hm:x.addr∈(l.take k).map (·.addr):=by simpa using h9
    have:hostsB l=false:=by
     have hnn:¬ (l.map (·.addr)).Nodup:=fun hn2=>by
      obtain ⟨y,hy,e⟩:=List.mem_map.1 hm;obtain ⟨j,hj⟩:=List.getElem?_of_mem hy;rw [List.getElem?_take] at hj;split at hj
      ·rename_i hji;obtain ⟨p1,e1⟩:=List.getElem?_eq_some_iff.1 hx;obtain ⟨p2,e2⟩:=List.getElem?_eq_some_iff.1 hj;have:=List.pairwise_iff_getElem.1 (List.nodup_iff_pairwise_ne.1 hn2) j k (by simpa using p2) (by simpa using p1) hji;apply this;simp [e1,e2,e]
      ·cases hj
     simp [hostsB,hnn]
    rw [this]
   ·have hm:x.addr ∉ (l.take k).map (·.addr):=by simpa using h9
    refine gO Tryz.func115 ?_;refine need_intro ⟨⟨_,rfl⟩,hkeys⟩ ?_;refine gO Tryz.func115 ?_;refine AWL.back (IH (k+1) ⟨by omega,all_next hall hx hb,?_⟩ (by omega)) ?_
    ·rw [take_next hx,List.map_append,List.nodup_append];refine ⟨hnd,by simp,fun a ha b hb2 e=>?_⟩;simp at hb2;subst hb2; subst e;exact hm ha
    ·(conv=>whnf);repeat (first | exact trivial | (refine sI ?_; conv=>whnf))
     refine And.intro (addrMap_next hx).symm ?_;(conv=>whnf);repeat (first | exact trivial | (refine sI ?_; conv=>whnf))
  ·have hge:l.length≤k:=by simpa using h5
   rw [List.take_of_length_le hge] at hall hnd;refine gO Tryz.func115 ?_;simp [hostsB,hall,hnd,hlen]
end Go.Proofs.YtajnanldmhpeaaaGreatDoor.P
end
section
namespace Go.Proofs.YtajnanldmhpeaaaGreatDoor.P
open Go Go.Eng
set_option maxRecDepth 100000
set_option maxHeartbeats 4000000
theorem badAddr_p (n:Int):PCalls E 146 [.int .i64 n] (· = .bool (!addrB n)):=by
 refine eP Tryz.func146 ?_
 with_reducible refine callP_eq (validAddr_p n) ?_
 refine gO Tryz.func146 ?_
 with_reducible rfl
theorem indexBad_a (l:List Int) (hl:l.length≤1000000):ACalls E 190 [] [.d (.sl (l.map (.int .i64))),.fn (.func 146) [] []] (fun a b=>∃ n:Int,a = .d (.int .i64 n)∧b=[]∧(0≤n↔l.all addrB=false)):=by
 refine ACalls.run E_ok (fn:=Tryz.f190) Tryz.func190 (body:=Tryz.f190.body.getD .skip) rfl (by decide) 2000 rfl ?_;(conv=>whnf);refine AWL.loop (κ:=Nat) ([4,5]++rg 8 11) (fun k=>[(8,.d (.int .i64 k))]) (fun _=>[]) (fun k=>k≤l.length∧(l.take k).all addrB=true) (fun k=>l.length - k) 0 ⟨Nat.zero_le _,rfl⟩ ?_ ?_
 ·(conv=>whnf);repeat (first | exact trivial | (refine sI ?_; conv=>whnf))
 rintro k ⟨hk,hall⟩ IH;refine AWL.head E_ok Tryz.func190 2000 ?_;(conv=>whnf);refine caseB_split (fun h5=>?_) (fun h5=>?_)
 ·have hlt:k<l.length:=by simpa using h5
  obtain ⟨x,hx⟩:=some_of_lt hlt;refine gO Tryz.func190 ?_;refine elemP_at (e := .int .i64 x) (at_map hx) rfl ?_;refine gO Tryz.func190 ?_
  with_reducible refine callP_eq (badAddr_p x) ?_
  refine gO Tryz.func190 ?_;refine caseB_split (fun h6=>?_) (fun h6=>?_)
  ·refine gO Tryz.func190 ?_;refine ⟨k,rfl,rfl,?_⟩;have:l.all addrB=false:=by
    cases ha:l.all addrB
    ·rfl
    ·have:=List.all_eq_true.1 ha x (List.mem_of_getElem? hx);simp [this] at h6
   simp [this]
  ·refine gO Tryz.func190 ?_;refine AWL.back (IH (k+1) ⟨by omega,all_next hall hx (by simpa using h6)⟩ (by omega)) ?_;(conv=>whnf);repeat (first | exact trivial | (refine sI ?_; conv=>whnf))
 ·have hge:l.length≤k:=by simpa using h5
  rw [List.take_of_length_le hge] at hall;refine gO Tryz.func190 ?_;exact ⟨_,rfl,rfl,by simp [hall]⟩
theorem containsBad_a (l:List Int) (hl:l.length≤1000000):ACalls E 145 [] [.d (.sl (l.map (.int .i64))),.fn (.func 146) [] []] (fun a b=>a = .d (.bool (!l.all addrB))∧b=[]):=by
 refine ACalls.run E_ok (fn:=Tryz.f145) Tryz.func145 (body:=Tryz.f145.body.getD .skip) rfl (by decide) 2000 rfl ?_;(conv=>whnf);refine callS_any (indexBad_a l hl) ?_;rintro r b ⟨n,rfl,rfl,h⟩;refine gO Tryz.func145 ?_;cases ha:l.all addrB
 ·simp [h.2 ha]
 ·have:¬ 0≤n:=fun h0=>by rw [h.1 h0] at ha; cases ha
  simp; omega
def rootB (a:RSet) (l:List Int):Bool:=setOK a&&decide (a.type=6)&&decide (a.name=[46])&&decide (1≤l.length)&&decide (l.length≤8)&&l.all addrB
theorem validRoot_p (a:RSet) (l:List Int) (hf:a.Fits) (hl:l.length≤maxLen):PCalls E 117 [a.enc,.sl (l.map (.int .i64))] (· = .bool (rootB a l)):=by
 refine eP Tryz.func117 ?_;repeat' (first | with_reducible refine callP_eq (setOK_p a hf) ?_ | with_reducible refine callP1_eq (setOK_p a hf) ?_ | with_reducible refine cY ?_ | with_reducible refine cN ?_ | with_reducible refine caseB_split (fun _=>?_) (fun _=>?_) | refine gA Tryz.func117 ?_ | refine gB ?_ | refine gC ?_ | with_reducible rfl)
 all_goals try (simp_all [rootB] <;> omega; done)
 rename_i h1 h2 h3 h4 h5;refine callS_any (containsBad_a l (by simp at h5; omega)) ?_;rintro r b ⟨rfl,rfl⟩;refine gO Tryz.func117 ?_;have e1:setOK a=true:=by simpa using h1
 have e2:a.type=6:=by simpa using h2
 have e3:a.name=[46]:=by simpa using h3
 have e4:1≤l.length:=by simp at h4; omega
 have e5:l.length≤8:=by simp at h5; omega
 simp [rootB,e1,e2,e3,e4,e5]
theorem validCopies0_p (hs:List Host) (a:RSet) (l:List Int):PCalls E 116 [.agg [.sl (hs.map Host.enc),.nilsl,.str a.name,.int .i64 a.type,.int .i64 a.life,encData a.data,.sl (l.map (.int .i64))]] (· = .bool true):=by
 refine eP Tryz.func116 ?_;refine caseB_no (by decide) ?_;refine gO Tryz.func116 ?_;refine gO Tryz.func116 ?_;refine gO Tryz.func116 ?_;refine AWL.unroll ?_;refine AWL.run E_ok Tryz.func116 2000 ?_;(conv=>whnf);refine caseB_no (by decide) ?_;refine gO Tryz.func116 ?_;refine gO Tryz.func116 ?_;simp
theorem worldValid0_p (hs:List Host) (a:RSet) (l:List Int) (hn:∀ x∈hs,x.name.length≤maxLen) (hf:a.Fits) (hl:l.length≤maxLen):PCalls E 83 [.agg [.sl (hs.map Host.enc),.nilsl,.str a.name,.int .i64 a.type,.int .i64 a.life,encData a.data,.sl (l.map (.int .i64))]] (· = .bool (hostsB hs&&rootB a l)):=by
 refine eP Tryz.func83 ?_;repeat' (first | with_reducible refine callP_eq (validHosts_p hs hn) ?_ | with_reducible refine callP1_eq (validHosts_p hs hn) ?_ | with_reducible refine callP_eq (validCopies0_p hs a l) ?_ | with_reducible refine callP1_eq (validCopies0_p hs a l) ?_ | with_reducible refine callP_eq (validRoot_p a l hf hl) ?_ | with_reducible refine callP1_eq (validRoot_p a l hf hl) ?_ | with_reducible refine cY ?_ | with_reducible refine cN ?_ | with_reducible refine caseB_split (fun _=>?_) (fun _=>?_) | refine gA Tryz.func83 ?_ | refine gB ?_ | refine gC ?_ | with_reducible rfl)
 all_goals simp_all
end Go.Proofs.YtajnanldmhpeaaaGreatDoor.P
end
section
namespace Go.Proofs.YtajnanldmhpeaaaGreatDoor.P
open Go Go.Eng
set_option maxRecDepth 100000
set_option maxHeartbeats 4000000
set_option linter.unusedSectionVars false
section
variable {α:Type} [DecidableEq α] {en:α→DV}
def KeysIn (en:α→DV) (es:List (DV × DV)):Prop:=∀ p∈es,∃ a,p.1=en a
theorem keysIn_put {b:α} {v:DV}:∀ {es:List (DV × DV)},KeysIn en es→KeysIn en (putD (en b) v es)
 | [],_,p,hp=>by simp [putD] at hp; subst hp; exact ⟨_,rfl⟩
 |q::es,h,p,hp=>by
  unfold putD at hp;split at hp
  ·rcases List.mem_cons.1 hp with rfl | hp
   ·exact ⟨_,rfl⟩
   ·exact h p (List.mem_cons_of_mem _ hp)
  ·rcases List.mem_cons.1 hp with rfl | hp
   ·exact h _ (List.mem_cons_self ..)
   ·exact keysIn_put (fun r hr=>h r (List.mem_cons_of_mem _ hr)) p hp
theorem findD_putK (hk:∀ a b,keyEq (en a) (en b)=decide (a=b)) {a b:α} {v:DV}:∀ {es:List (DV × DV)},KeysIn en es→findD (en a) (putD (en b) v es)=if a=b then some v else findD (en a) es
 | [],_=>by simp [putD,findD,hk]
 |q::es,h=>by
  obtain ⟨s,hs⟩:=h q (List.mem_cons_self ..);obtain ⟨q1,q2⟩:=q;simp only at hs;subst hs;unfold putD;simp only [hk];by_cases e:b=s
  ·subst e;simp only [decide_true,if_true,findD,hk];by_cases e2:a=b
   ·simp [e2]
   ·simp [e2]
  ·have ih:=findD_putK hk (a:=a) (b:=b) (v:=v) (es:=es) (fun r hr=>h r (List.mem_cons_of_mem _ hr));simp only [e,decide_false,Bool.false_eq_true,if_false,findD,hk,ih];by_cases e2:a=s
   ·subst e2;have:¬ a=b:=fun h=>e h.symm;simp [this]
   ·simp [e2]
def setM (en:α→DV) (l:List α):List (DV × DV):=l.foldl (fun es x=>putD (en x) (.bool true) es) []
theorem setM_next {l:List α} {k:Nat} {x:α} (h:l[k]? = some x):setM en (l.take (k+1))=putD (en x) (.bool true) (setM en (l.take k)):=by
 rw [take_next h,setM,List.foldl_append];rfl
theorem setM_snoc (l:List α) (x:α):setM en (l++[x])=putD (en x) (.bool true) (setM en l):=by
 rw [setM,List.foldl_append];rfl
theorem setM_ok (hk:∀ a b,keyEq (en a) (en b)=decide (a=b)) (l:List α):KeysIn en (setM en l)∧∀ a,findD (en a) (setM en l)=if a∈l then some (.bool true) else none:=by
 have main:∀ (l:List α) (es:List (DV × DV)) (C:List α),KeysIn en es→(∀ n,findD (en n) es=if n∈C then some (.bool true) else none) →
   KeysIn en (l.foldl (fun es x=>putD (en x) (.bool true) es) es)∧∀ n,findD (en n) (l.foldl (fun es x=>putD (en x) (.bool true) es) es)=if n∈C++l then some (.bool true) else none:=by
  intro l
  induction l with
  |nil=>intro es C h1 h2; exact ⟨h1,by simpa using h2⟩
  |cons s l ih =>
   intro es C h1 h2
   have:=ih (putD (en s) (.bool true) es) (C++[s]) (keysIn_put h1) (fun n=>by
    rw [findD_putK hk h1,h2 n];by_cases h:n=s
    ·simp [h]
    ·simp [h])
   simpa using this
 have:=main l [] [] (fun p hp=>by simp at hp) (fun n=>by simp [findD])
 simpa [setM] using this
theorem setM_has (hk:∀ a b,keyEq (en a) (en b)=decide (a=b)) (l:List α) (a:α):(findD (en a) (setM en l)).getD (.bool false) = .bool (decide (a∈l))∧(findD (en a) (setM en l)).isSome=decide (a∈l):=by
 rw [(setM_ok hk l).2 a];split <;> simp_all
def nub:List α→List α→List α
 |acc,[]=>acc
 |acc,x::l=>nub (if x∈acc then acc else acc++[x]) l
theorem nub_snoc (acc l:List α) (x:α):nub acc (l++[x])=if x∈nub acc l then nub acc l else nub acc l++[x]:=by
 induction l generalizing acc with
 |nil=>rfl
 |cons y l ih =>
  show nub _ (l++[x])=_;rw [ih];rfl
theorem nub_mem {x:α}:∀ {l acc:List α},x∈nub acc l↔x∈acc∨x∈l
 | [],acc=>by simp [nub]
 |y::l,acc=>by
  rw [nub,nub_mem (l:=l)];split
  ·rename_i h;constructor
   ·rintro (h1 | h1)
    ·exact .inl h1
    ·exact .inr (List.mem_cons_of_mem _ h1)
   ·rintro (h1 | h1)
    ·exact .inl h1
    ·rcases List.mem_cons.1 h1 with rfl | h1
     ·exact .inl h
     ·exact .inr h1
  ·simp [or_assoc]
theorem nub_nodup:∀ {l acc:List α},acc.Nodup→(nub acc l).Nodup
 | [],_,h=>h
 |y::l,acc,h=>by
  rw [nub];refine nub_nodup ?_;split
  ·exact h
  ·rename_i hy;rw [List.nodup_append];exact ⟨h,by simp,fun a ha b hb e=>by simp at hb; subst hb; subst e; exact hy ha⟩
theorem nub_len_le:∀ {l acc:List α},(nub acc l).length≤acc.length+l.length
 | [],_=>by simp [nub]
 |y::l,acc=>by
  rw [nub];refine Nat.le_trans nub_len_le ?_;split <;> simp <;> omega
theorem len_same {a b:List α} (ha:a.Nodup) (hb:b.Nodup) (h:∀ x,x∈a↔x∈b):a.length=b.length:=((List.perm_ext_iff_of_nodup ha hb).2 h).length_eq
theorem nub_next {l:List α} {k:Nat} {x:α} (h:l[k]? = some x):nub [] (l.take (k+1))=if x∈l.take k then nub [] (l.take k) else nub [] (l.take k)++[x]:=by
 rw [take_next h,nub_snoc];have:=nub_mem (x:=x) (l:=l.take k) (acc:=[]);simp only [List.not_mem_nil,false_or] at this;by_cases hx:x∈l.take k
 ·rw [if_pos hx,if_pos (this.2 hx)]
 ·rw [if_neg hx,if_neg (fun h=>hx (this.1 h))]
end
theorem keyEq_text (a b:Text):keyEq (.str a) (.str b)=decide (a=b):=by
 show (a==b)=_;rw [Bool.eq_iff_iff]; simp
theorem keyEq_num (a b:Int):keyEq (.int .i64 a) (.int .i64 b)=decide (a=b):=by
 show (a==b)=_;rw [Bool.eq_iff_iff]; simp
abbrev Spot:=Int × Text
@[reducible] def Spot.en (p : Spot) : DV := .agg [.int .i64 p.1, .str p.2]
theorem keyEq_spot (a b:Spot):keyEq (Spot.en a) (Spot.en b)=decide (a=b):=by
 show (((a.1==b.1))&&((a.2==b.2)&&true))=_;rw [Bool.eq_iff_iff];simp [Prod.ext_iff]
theorem apexOf_p (c:Copy):PCalls E 93 [c.enc] (· = .str c.zone.apex):=by
 refine eP Tryz.func93 ?_
 with_reducible rfl
theorem unique_a (l:List Copy) (hl:l.length≤1000000):ACalls E 92 [] [.d (.sl (l.map Copy.enc)),.fn (.func 93) [] []] (fun a b=>∃ es,a = .own 1 1∧b=[.map es,.arr 1 (9,1) ((nub [] (l.map (·.zone.apex))).map .str)]):=by
 generalize hT:l.map (·.zone.apex)=T;have hTl:T.length=l.length:=by rw [← hT]; simp
 refine ACalls.run E_ok (fn:=Tryz.f92) Tryz.func92 (body:=Tryz.f92.body.getD .skip) rfl (by decide) 2000 rfl ?_;(conv=>whnf);refine gO Tryz.func92 ?_;refine gO Tryz.func92 ?_;refine AWL.adopt 6 (9,1) (by decide) rfl ?_;refine gO Tryz.func92 ?_;refine AWL.loop (κ:=Nat) ([6,8,9]++rg 13 18) (fun k=>[(13,.d (.int .i64 k)),(6,.own 1 1),(5,.map 0)]) (fun k=>[(0,.map (setM DV.str (nub [] (T.take k)))),(1,.arr 1 (9,1) ((nub [] (T.take k)).map .str))]) (fun k=>k≤l.length) (fun k=>l.length - k) 0 (Nat.zero_le _) ?_ ?_
 ·(conv=>whnf);repeat (first | exact trivial | (refine sI ?_; conv=>whnf))
  refine And.intro rfl ?_;(conv=>whnf);repeat (first | exact trivial | (refine sI ?_; conv=>whnf))
  refine And.intro rfl ?_;(conv=>whnf);repeat (first | exact trivial | (refine sI ?_; conv=>whnf))
 intro k hk IH;refine AWL.head E_ok Tryz.func92 2000 ?_;(conv=>whnf);refine caseB_split (fun h5=>?_) (fun h5=>?_)
 ·have hlt:k<l.length:=by simpa using h5
  obtain ⟨c,hc⟩:=some_of_lt hlt;have hT1:T[k]? = some c.zone.apex:=by rw [← hT]; simp [hc]
  have hnub:=nub_len_le (l:=T.take k) (acc:=[]);obtain ⟨hf1,hf2⟩:=setM_has keyEq_text (nub [] (T.take k)) c.zone.apex;have hkeys:=(setM_ok keyEq_text (nub [] (T.take k))).1;refine gO Tryz.func92 ?_;refine elemP_at (e:=c.enc) (at_map hc) rfl ?_;refine gO Tryz.func92 ?_
  with_reducible refine callP_eq (apexOf_p c) ?_
  refine gO Tryz.func92 ?_;refine lookP_intro (.bool false) (.bool false) ⟨_,rfl⟩ hkeys (fun w=>by kernel_rfl) (fun _ _ => .bool _) hf1 hf2 ?_;refine gO Tryz.func92 ?_;have hnext:=nub_next hT1;by_cases hm:c.zone.apex∈nub [] (T.take k)
  ·refine caseB_no (by simp [hm]) ?_;refine gO Tryz.func92 ?_;refine AWL.back (IH (k+1) (by omega) (by omega)) ?_;have hm':c.zone.apex∈T.take k:=by rw [nub_mem] at hm; simpa using hm
   rw [if_pos hm'] at hnext;rw [hnext];(conv=>whnf);repeat (first | exact trivial | (refine sI ?_; conv=>whnf))
  ·refine caseB_yes (by simp [hm]) ?_;refine gO Tryz.func92 ?_;refine need_intro ⟨⟨_,rfl⟩,hkeys⟩ ?_;refine gO Tryz.func92 ?_;refine need_intro ⟨by simp at hnub ⊢; omega,by simp [DV.cells]⟩ ?_;refine gO Tryz.func92 ?_;refine AWL.back (IH (k+1) (by omega) (by omega)) ?_;have hm':¬ c.zone.apex∈T.take k:=by rw [nub_mem] at hm; simpa using hm
   rw [if_neg hm'] at hnext;rw [hnext];(conv=>whnf);repeat (first | exact trivial | (refine sI ?_; conv=>whnf))
   refine And.intro (setM_snoc _ _).symm ?_;(conv=>whnf);repeat (first | exact trivial | (refine sI ?_; conv=>whnf))
   refine And.intro (by simp) ?_;(conv=>whnf);repeat (first | exact trivial | (refine sI ?_; conv=>whnf))
 ·have hge:l.length≤k:=by simpa using h5
  rw [List.take_of_length_le (by omega)];refine gO Tryz.func92 ?_;exact ⟨_,rfl,rfl⟩
end Go.Proofs.YtajnanldmhpeaaaGreatDoor.P
end
