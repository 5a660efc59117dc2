/- Several texts of mine, one behind the other. Conditions: as each says. -/
import Derived.Test.YtfmdaiojokniiaaGreatDoorY17
import Derived.Test.YtfmdaiojokniiaaGreatDoorY18
set_option linter.unusedVariables false
set_option linter.unusedSimpArgs false
section
namespace Go.Proofs.YtfmdaiojokniiaaGreatDoor.P
open Go Go.ax
set_option maxRecDepth 100000
set_option maxHeartbeats 4000000
def sq (t:Text):Bool:=Nm.valid t&&kz t
theorem Jo (t:Text) (ht:t.length≤maxLen):aq E 218 [.str t] (· = .bool (sq t)):=by
 have lk:=HI t ht;unfold zy at lk;cases h:Nm.valid t
 ·simp only [h,Bool.false_eq_true,if_false] at lk;refine eP Tryz.func218 ?_
  with_reducible refine ao (lk) ?_
  refine gO Tryz.func218 ?_;refine aQ ?_;refine gO Tryz.func218 ?_;simp [sq,h]
 ·simp only [h,if_true] at lk;refine eP Tryz.func218 ?_
  with_reducible refine ao (lk) ?_
  refine gO Tryz.func218 ?_;cases hl:Nm.labels t with
  |nil =>
   refine aW rfl ?_;refine gO Tryz.func218 ?_;simp [sq,kz,h,hl]
  |cons y ys =>
   have hy:(y::ys)[0]? = some y:=rfl;refine aV (by simp) ?_;refine gO Tryz.func218 ?_;refine aB (e := .str y) (wY hy) rfl ?_;refine gO Tryz.func218 ?_;simp [sq,kz,h,hl]
def iX (n:Int):Bool:=decide (1≤n)&&decide (n≤1000000)
theorem DT (n:Int):aq E 219 [.int .i64 n] (· = .bool (iX n)):=by
 refine eP Tryz.func219 ?_;repeat' (first | with_reducible refine cY ?_ | with_reducible refine cN ?_ | with_reducible refine ah (fun _=>?_) (fun _=>?_) | refine gA Tryz.func219 ?_ | refine gB ?_ | with_reducible rfl)
 all_goals (simp_all [iX] <;> omega)
theorem Aa (a b:Int):dY (.int .i64 a) (.int .i64 b)=(a==b):=rfl
def uD (es:List (DV × DV)):Prop:=∀ p∈es,∃ s,p.1=DV.int .i64 s
theorem Jp {n:Int} {v:DV}:∀ {es:List (DV × DV)},uD es→uD (bM (.int .i64 n) v es)
 | [],_,p,hp=>by simp [bM] at hp; subst hp; exact ⟨_,rfl⟩
 |q::es,h,p,hp=>by
  unfold bM at hp;split at hp
  ·rcases List.mem_cons.1 hp with rfl | hp
   ·exact ⟨_,rfl⟩
   ·exact h p (List.mem_cons_of_mem _ hp)
  ·rcases List.mem_cons.1 hp with rfl | hp
   ·exact h _ (List.mem_cons_self ..)
   ·exact Jp (fun r hr=>h r (List.mem_cons_of_mem _ hr)) p hp
theorem Jq {n m:Int} {v:DV}:∀ {es:List (DV × DV)},uD es→findD (.int .i64 m) (bM (.int .i64 n) v es)=if m==n then some v else findD (.int .i64 m) es
 | [],_=>by simp [bM,findD,Aa]
 |q::es,h=>by
  obtain ⟨s,hs⟩:=h q (List.mem_cons_self ..);obtain ⟨q1,q2⟩:=q;simp only at hs;subst hs;unfold bM;simp only [Aa];by_cases e:n=s
  ·subst e;simp only [beq_self_eq_true,if_true,findD,Aa];by_cases e2:m=n
   ·simp [e2]
   ·simp [e2]
  ·have ih:=Jq (n:=n) (m:=m) (v:=v) (es:=es) (fun r hr=>h r (List.mem_cons_of_mem _ hr));have e':(n==s)=false:=by simpa using e
   simp only [e',Bool.false_eq_true,if_false,findD,Aa,ih];by_cases e2:m=s
   ·subst e2;have:(m==n)=false:=by simpa using fun h=>e h.symm
    simp [this]
   ·simp [e2]
def lq (x:Host):Bool:=Nm.valid x.name && !sq x.name&&decide (0≤x.owner)&&decide (x.owner<32)&&iX x.addr
def fu (l:List Host):Bool:=decide (l.length≤64)&&l.all lq&&decide ((l.map (·.addr)).Nodup)
def sr (l:List Host):List (DV × DV):=l.foldl (fun es x=>bM (.int .i64 x.addr) (.bool true) es) []
theorem Rf {l:List Host} {k:Nat} {x:Host} (h:l[k]? = some x):sr (l.take (k+1))=bM (.int .i64 x.addr) (.bool true) (sr (l.take k)):=by
 rw [cQ h,sr,List.foldl_append];rfl
theorem Jr (l:List Host):uD (sr l)∧∀ n,findD (.int .i64 n) (sr l)=if n∈l.map (·.addr) then some (.bool true) else none:=by
 have main:∀ (l:List Host) (es:List (DV × DV)) (C:List Int),uD es→(∀ n,findD (.int .i64 n) es=if n∈C then some (.bool true) else none) →
   uD (l.foldl (fun es x=>bM (.int .i64 x.addr) (.bool true) es) es)∧∀ n,findD (.int .i64 n) (l.foldl (fun es x=>bM (.int .i64 x.addr) (.bool true) es) es)=if n∈C++l.map (·.addr) then some (.bool true) else none:=by
  intro l
  induction l with
  |nil=>intro es C h1 h2; exact ⟨h1,by simpa using h2⟩
  |cons s l ih =>
   intro es C h1 h2
   have:=ih (bM (.int .i64 s.addr) (.bool true) es) (C++[s.addr]) (Jp h1) (fun n=>by
    rw [Jq h1,h2 n];by_cases h:n=s.addr
    ·simp [h]
    ·simp [h])
   simpa using this
 have:=main l [] [] (fun p hp=>by simp at hp) (fun n=>by simp [findD])
 simpa [sr] using this
theorem DU {l:List Host} {k:Nat} {x:Host} (hx:l[k]? = some x) (h:lq x=false):fu l=false:=by
 have:l.all lq=false:=by
  cases ha:l.all lq
  ·rfl
  ·rw [List.all_eq_true.1 ha x (List.mem_of_getElem? hx)] at h;cases h
 simp [fu,this]
theorem Ab (l:List Host) (hn:∀ x∈l,x.name.length≤maxLen):aq E 148 [.sl (l.map Host.enc)] (· = .bool (fu l)):=by
 refine eP Tryz.func148 ?_;refine ah (fun h1=>?_) (fun h1=>?_)
 ·refine gO Tryz.func148 ?_;have:fu l=false:=by simp [fu]; simp at h1; omega
  rw [this]
 ·have hlen:l.length≤64:=by simp at h1; omega
  refine gO Tryz.func148 ?_;refine gO Tryz.func148 ?_;refine I.loop (κ:=Nat) ([2,5]++rg 12 37) (fun k=>[(12,.d (.int .i64 k)),(2,.d (.bool false)),(3,.map 0)]) (fun k=>[(0,.map (sr (l.take k)))]) (fun k=>k≤l.length∧(l.take k).all lq=true∧((l.take k).map (·.addr)).Nodup) (fun k=>l.length - k) 0 ⟨Nat.zero_le _,rfl,by simp⟩ ?_ ?_
  ·(conv=>whnf);repeat (first | exact trivial | (refine And.intro (by first | with_reducible rfl | exact congrArg (DV.int .i64) (by omega) | exact rfl | exact congrArg (DV.int .i64) (wrap64 (by omega) (by omega)) | exact congrArg (DV.int .i64) ((wrap64 (by omega) (by omega)).trans (by omega))) ?_; conv=>whnf))
  rintro k ⟨hk,aH,dg⟩ IH;refine I.head af Tryz.func148 2000 ?_;(conv=>whnf);refine ah (fun h5=>?_) (fun h5=>?_)
  ·have ai:k<l.length:=by simpa using h5
   obtain ⟨x,hx⟩:=aD ai;have fM:=hn x (List.mem_of_getElem? hx);refine gO Tryz.func148 ?_;refine aB (e:=x.enc) (aN hx) rfl ?_;refine gO Tryz.func148 ?_;repeat' (first | with_reducible refine ao (fZ x.name fM) ?_ | with_reducible refine au (fZ x.name fM) ?_ | with_reducible refine ao (Jo x.name fM) ?_ | with_reducible refine au (Jo x.name fM) ?_ | with_reducible refine ao (DT x.addr) ?_ | with_reducible refine au (DT x.addr) ?_ | with_reducible refine cY ?_ | with_reducible refine cN ?_ | with_reducible refine ah (fun _=>?_) (fun _=>?_) | refine gA Tryz.func148 ?_ | refine gB ?_ | with_reducible rfl)
   all_goals try (rw [DU hx (by simp_all [lq] <;> omega)]; done)
   have mO:=(Jr (l.take k)).2 x.addr;have fe:=(Jr (l.take k)).1;have hb:lq x=true:=by simp_all [lq]
   refine ny (.bool false) (.bool false) (v := .bool (decide (x.addr∈(l.take k).map (·.addr)))) (f:=decide (x.addr∈(l.take k).map (·.addr))) ⟨_,rfl⟩ fe (fun w=>by kernel_rfl) (fun _ _ => .bool _) (by rw [mO]; split <;> simp_all) (by rw [mO]; split <;> simp_all) ?_;refine gO Tryz.func148 ?_;refine ah (fun h9=>?_) (fun h9=>?_)
   ·refine gO Tryz.func148 ?_;have hm:x.addr∈(l.take k).map (·.addr):=by simpa using h9
    have:fu l=false:=by
     have ov:¬ (l.map (·.addr)).Nodup:=fun gS=>by
      obtain ⟨y,hy,e⟩:=List.mem_map.1 hm;obtain ⟨j,hj⟩:=List.getElem?_of_mem hy;rw [List.getElem?_take] at hj;split at hj
      ·rename_i jI;obtain ⟨p1,e1⟩:=List.getElem?_eq_some_iff.1 hx;obtain ⟨p2,e2⟩:=List.getElem?_eq_some_iff.1 hj;have:=List.pairwise_iff_getElem.1 (List.nodup_iff_pairwise_ne.1 gS) j k (by simpa using p2) (by simpa using p1) jI;apply this;simp [e1,e2,e]
      ·cases hj
     simp [fu,ov]
    rw [this]
   ·have hm:x.addr ∉ (l.take k).map (·.addr):=by simpa using h9
    refine gO Tryz.func148 ?_;refine bc ⟨⟨_,rfl⟩,fe⟩ ?_;refine gO Tryz.func148 ?_;refine I.back (IH (k+1) ⟨by omega,dh aH hx hb,?_⟩ (by omega)) ?_
    ·rw [cQ hx,List.map_append,List.nodup_append];refine ⟨dg,by simp,fun a ha b mn e=>?_⟩;simp at mn;subst mn; subst e;exact hm ha
    ·(conv=>whnf);repeat (first | exact trivial | (refine sI ?_; conv=>whnf))
     refine And.intro (Rf hx).symm ?_;exact sZ
  ·have aC:l.length≤k:=by simpa using h5
   rw [List.take_of_length_le aC] at aH dg;refine gO Tryz.func148 ?_;simp [fu,aH,dg,hlen]
end Go.Proofs.YtfmdaiojokniiaaGreatDoor.P
end
section
namespace Go.Proofs.YtfmdaiojokniiaaGreatDoor.P
open Go Go.ax
set_option maxRecDepth 100000
set_option maxHeartbeats 4000000
theorem Rg (n:Int):aq E 222 [.int .i64 n] (· = .bool (!iX n)):=by
 refine eP Tryz.func222 ?_
 with_reducible refine ao (DT n) ?_
 refine gO Tryz.func222 ?_
 with_reducible rfl
theorem Rh (l:List Int) (hl:l.length≤1000000):aw E 281 [] [.d (.sl (l.map (.int .i64))),.fn (.func 222) [] []] (fun a b=>∃ n:Int,a = .d (.int .i64 n)∧b=[]∧(0≤n↔l.all iX=false)):=by
 refine aw.run af (fn:=Tryz.f281) Tryz.func281 (body:=Tryz.f281.body.getD .skip) rfl (by decide) 2000 rfl ?_;(conv=>whnf);refine I.loop (κ:=Nat) ([4,5]++rg 8 11) (fun k=>[(8,.d (.int .i64 k))]) (fun _=>[]) (fun k=>k≤l.length∧(l.take k).all iX=true) (fun k=>l.length - k) 0 ⟨Nat.zero_le _,rfl⟩ ?_ ?_
 ·exact sZ
 rintro k ⟨hk,aH⟩ IH;refine I.head af Tryz.func281 2000 ?_;(conv=>whnf);refine ah (fun h5=>?_) (fun h5=>?_)
 ·have ai:k<l.length:=by simpa using h5
  obtain ⟨x,hx⟩:=aD ai;refine gO Tryz.func281 ?_;refine aB (e := .int .i64 x) (aN hx) rfl ?_;refine gO Tryz.func281 ?_
  with_reducible refine ao (Rg x) ?_
  refine gO Tryz.func281 ?_;refine ah (fun h6=>?_) (fun h6=>?_)
  ·refine gO Tryz.func281 ?_;refine ⟨k,rfl,rfl,?_⟩;have:l.all iX=false:=by
    cases ha:l.all iX
    ·rfl
    ·have:=List.all_eq_true.1 ha x (List.mem_of_getElem? hx);simp [this] at h6
   simp [this]
  ·refine gO Tryz.func281 ?_;refine I.back (IH (k+1) ⟨by omega,dh aH hx (by simpa using h6)⟩ (by omega)) ?_;exact sZ
 ·have aC:l.length≤k:=by simpa using h5
  rw [List.take_of_length_le aC] at aH;refine gO Tryz.func281 ?_;exact ⟨_,rfl,rfl,by simp [aH]⟩
theorem Ri (l:List Int) (hl:l.length≤1000000):aw E 221 [] [.d (.sl (l.map (.int .i64))),.fn (.func 222) [] []] (fun a b=>a = .d (.bool (!l.all iX))∧b=[]):=by
 refine aw.run af (fn:=Tryz.f221) Tryz.func221 (body:=Tryz.f221.body.getD .skip) rfl (by decide) 2000 rfl ?_;(conv=>whnf);refine jK (Rh l hl) ?_;rintro r b ⟨n,rfl,rfl,h⟩;refine gO Tryz.func221 ?_;cases ha:l.all iX
 ·simp [h.2 ha]
 ·have:¬ 0≤n:=fun h0=>by rw [h.1 h0] at ha; cases ha
  simp; omega
def iY (a:cP) (l:List Int):Bool:=ev a&&decide (a.type=6)&&decide (a.name=[46])&&decide (1≤l.length)&&decide (l.length≤8)&&l.all iX
theorem Ac (a:cP) (l:List Int) (hf:a.Fits) (hl:l.length≤maxLen):aq E 150 [a.enc,.sl (l.map (.int .i64))] (· = .bool (iY a l)):=by
 refine eP Tryz.func150 ?_;repeat' (first | with_reducible refine ao (uo a hf) ?_ | with_reducible refine au (uo a hf) ?_ | with_reducible refine cY ?_ | with_reducible refine cN ?_ | with_reducible refine ah (fun _=>?_) (fun _=>?_) | refine gA Tryz.func150 ?_ | refine gB ?_ | with_reducible rfl)
 all_goals try (simp_all [iY] <;> omega; done)
 rename_i h1 h2 h3 h4 h5;refine jK (Ri l (by simp at h5; omega)) ?_;rintro r b ⟨rfl,rfl⟩;refine gO Tryz.func150 ?_;have e1:ev a=true:=by simpa using h1
 have e2:a.type=6:=by simpa using h2
 have e3:a.name=[46]:=by simpa using h3
 have e4:1≤l.length:=by simp at h4; omega
 have e5:l.length≤8:=by simp at h5; omega
 simp [iY,e1,e2,e3,e4,e5]
theorem Js (hs:List Host) (a:cP) (l:List Int):aq E 149 [.agg [.sl (hs.map Host.enc),.aL,.str a.name,.int .i64 a.type,.int .i64 a.cD,p0 a.data,.sl (l.map (.int .i64))]] (· = .bool true):=by
 refine eP Tryz.func149 ?_;refine aW (by decide) ?_;refine gO Tryz.func149 ?_;refine gO Tryz.func149 ?_;refine gO Tryz.func149 ?_;refine I.l4 ?_;refine I.run af Tryz.func149 2000 ?_;(conv=>whnf);refine aW (by decide) ?_;refine gO Tryz.func149 ?_;refine gO Tryz.func149 ?_;simp
theorem Jt (hs:List Host) (a:cP) (l:List Int) (hn:∀ x∈hs,x.name.length≤maxLen) (hf:a.Fits) (hl:l.length≤maxLen):aq E 78 [.agg [.sl (hs.map Host.enc),.aL,.str a.name,.int .i64 a.type,.int .i64 a.cD,p0 a.data,.sl (l.map (.int .i64))]] (· = .bool (fu hs&&iY a l)):=by
 refine eP Tryz.func78 ?_;repeat' (first | with_reducible refine ao (Ab hs hn) ?_ | with_reducible refine au (Ab hs hn) ?_ | with_reducible refine ao (Js hs a l) ?_ | with_reducible refine au (Js hs a l) ?_ | with_reducible refine ao (Ac a l hf hl) ?_ | with_reducible refine au (Ac a l hf hl) ?_ | with_reducible refine cY ?_ | with_reducible refine cN ?_ | with_reducible refine ah (fun _=>?_) (fun _=>?_) | refine gA Tryz.func78 ?_ | refine gB ?_ | with_reducible rfl)
 all_goals simp_all
end Go.Proofs.YtfmdaiojokniiaaGreatDoor.P
end
section
namespace Go.Proofs.YtfmdaiojokniiaaGreatDoor.P
open Go Go.ax
set_option maxRecDepth 100000
set_option maxHeartbeats 4000000
set_option linter.unusedSectionVars false
section
variable {α:Type} [DecidableEq α] {en:α→DV}
def lr (en:α→DV) (es:List (DV × DV)):Prop:=∀ p∈es,∃ a,p.1=en a
theorem DW {b:α} {v:DV}:∀ {es:List (DV × DV)},lr en es→lr en (bM (en b) v es)
 | [],_,p,hp=>by simp [bM] at hp; subst hp; exact ⟨_,rfl⟩
 |q::es,h,p,hp=>by
  unfold bM at hp;split at hp
  ·rcases List.mem_cons.1 hp with rfl | hp
   ·exact ⟨_,rfl⟩
   ·exact h p (List.mem_cons_of_mem _ hp)
  ·rcases List.mem_cons.1 hp with rfl | hp
   ·exact h _ (List.mem_cons_self ..)
   ·exact DW (fun r hr=>h r (List.mem_cons_of_mem _ hr)) p hp
theorem DX (hk:∀ a b,dY (en a) (en b)=decide (a=b)) {a b:α} {v:DV}:∀ {es:List (DV × DV)},lr en es→findD (en a) (bM (en b) v es)=if a=b then some v else findD (en a) es
 | [],_=>by simp [bM,findD,hk]
 |q::es,h=>by
  obtain ⟨s,hs⟩:=h q (List.mem_cons_self ..);obtain ⟨q1,q2⟩:=q;simp only at hs;subst hs;unfold bM;simp only [hk];by_cases e:b=s
  ·subst e;simp only [decide_true,if_true,findD,hk];by_cases e2:a=b
   ·simp [e2]
   ·simp [e2]
  ·have ih:=DX hk (a:=a) (b:=b) (v:=v) (es:=es) (fun r hr=>h r (List.mem_cons_of_mem _ hr));simp only [e,decide_false,Bool.false_eq_true,if_false,findD,hk,ih];by_cases e2:a=s
   ·subst e2;have:¬ a=b:=fun h=>e h.symm;simp [this]
   ·simp [e2]
def dJ (en:α→DV) (l:List α):List (DV × DV):=l.foldl (fun es x=>bM (en x) (.bool true) es) []
theorem DY {l:List α} {k:Nat} {x:α} (h:l[k]? = some x):dJ en (l.take (k+1))=bM (en x) (.bool true) (dJ en (l.take k)):=by
 rw [cQ h,dJ,List.foldl_append];rfl
theorem ss (l:List α) (x:α):dJ en (l++[x])=bM (en x) (.bool true) (dJ en l):=by
 rw [dJ,List.foldl_append];rfl
theorem mU (hk:∀ a b,dY (en a) (en b)=decide (a=b)) (l:List α):lr en (dJ en l)∧∀ a,findD (en a) (dJ en l)=if a∈l then some (.bool true) else none:=by
 have main:∀ (l:List α) (es:List (DV × DV)) (C:List α),lr en es→(∀ n,findD (en n) es=if n∈C then some (.bool true) else none) →
   lr en (l.foldl (fun es x=>bM (en x) (.bool true) es) es)∧∀ n,findD (en n) (l.foldl (fun es x=>bM (en x) (.bool true) es) es)=if n∈C++l then some (.bool true) else none:=by
  intro l
  induction l with
  |nil=>intro es C h1 h2; exact ⟨h1,by simpa using h2⟩
  |cons s l ih =>
   intro es C h1 h2
   have:=ih (bM (en s) (.bool true) es) (C++[s]) (DW h1) (fun n=>by
    rw [DX hk h1,h2 n];by_cases h:n=s
    ·simp [h]
    ·simp [h])
   simpa using this
 have:=main l [] [] (fun p hp=>by simp at hp) (fun n=>by simp [findD])
 simpa [dJ] using this
theorem uE (hk:∀ a b,dY (en a) (en b)=decide (a=b)) (l:List α) (a:α):(findD (en a) (dJ en l)).getD (.bool false) = .bool (decide (a∈l))∧(findD (en a) (dJ en l)).isSome=decide (a∈l):=by
 rw [(mU hk l).2 a];split <;> simp_all
def dK:List α→List α→List α
 |acc,[]=>acc
 |acc,x::l=>dK (if x∈acc then acc else acc++[x]) l
theorem Ju (acc l:List α) (x:α):dK acc (l++[x])=if x∈dK acc l then dK acc l else dK acc l++[x]:=by
 induction l generalizing acc with
 |nil=>rfl
 |cons y l ih =>
  show dK _ (l++[x])=_;rw [ih];rfl
theorem xu {x:α}:∀ {l acc:List α},x∈dK acc l↔x∈acc∨x∈l
 | [],acc=>by simp [dK]
 |y::l,acc=>by
  rw [dK,xu (l:=l)];split
  ·rename_i h;constructor
   ·rintro (h1 | h1)
    ·exact .inl h1
    ·exact .inr (List.mem_cons_of_mem _ h1)
   ·rintro (h1 | h1)
    ·exact .inl h1
    ·rcases List.mem_cons.1 h1 with rfl | h1
     ·exact .inl h
     ·exact .inr h1
  ·simp [or_assoc]
theorem DZ:∀ {l acc:List α},acc.Nodup→(dK acc l).Nodup
 | [],_,h=>h
 |y::l,acc,h=>by
  rw [dK];refine DZ ?_;split
  ·exact h
  ·rename_i hy;rw [List.nodup_append];exact ⟨h,by simp,fun a ha b hb e=>by simp at hb; subst hb; subst e; exact hy ha⟩
theorem Ad:∀ {l acc:List α},(dK acc l).length≤acc.length+l.length
 | [],_=>by simp [dK]
 |y::l,acc=>by
  rw [dK];refine Nat.le_trans Ad ?_;split <;> simp <;> omega
theorem Rj {a b:List α} (ha:a.Nodup) (hb:b.Nodup) (h:∀ x,x∈a↔x∈b):a.length=b.length:=((List.perm_ext_iff_of_nodup ha hb).2 h).length_eq
theorem Jv {l:List α} {k:Nat} {x:α} (h:l[k]? = some x):dK [] (l.take (k+1))=if x∈l.take k then dK [] (l.take k) else dK [] (l.take k)++[x]:=by
 rw [cQ h,Ju];have:=xu (x:=x) (l:=l.take k) (acc:=[]);simp only [List.not_mem_nil,false_or] at this;by_cases hx:x∈l.take k
 ·rw [if_pos hx,if_pos (this.2 hx)]
 ·rw [if_neg hx,if_neg (fun h=>hx (this.1 h))]
end
theorem uF (a b:Text):dY (.str a) (.str b)=decide (a=b):=by
 show (a==b)=_;rw [Bool.eq_iff_iff]; simp
theorem Jw (a b:Int):dY (.int .i64 a) (.int .i64 b)=decide (a=b):=by
 show (a==b)=_;rw [Bool.eq_iff_iff]; simp
abbrev cS:=Int × Text
@[reducible] def cS.en (p : cS) : DV := .agg [.int .i64 p.1, .str p.2]
theorem nX (a b:cS):dY (cS.en a) (cS.en b)=decide (a=b):=by
 show (((a.1==b.1))&&((a.2==b.2)&&true))=_;rw [Bool.eq_iff_iff];simp [Prod.ext_iff]
theorem Rk (c:a7):aq E 103 [c.enc] (· = .str c.az.aj):=by
 refine eP Tryz.func103 ?_
 with_reducible rfl
theorem Rl (l:List a7) (hl:l.length≤1000000):aw E 102 [] [.d (.sl (l.map a7.enc)),.fn (.func 103) [] []] (fun a b=>∃ es,a = .own 1 1∧b=[.map es,.arr 1 (9,1) ((dK [] (l.map (·.az.aj))).map .str)]):=by
 generalize hT:l.map (·.az.aj)=T;have Ae:T.length=l.length:=by rw [← hT]; simp
 refine aw.run af (fn:=Tryz.f102) Tryz.func102 (body:=Tryz.f102.body.getD .skip) rfl (by decide) 2000 rfl ?_;(conv=>whnf);refine gO Tryz.func102 ?_;refine gO Tryz.func102 ?_;refine I.tj 6 (9,1) (by decide) rfl ?_;refine gO Tryz.func102 ?_;refine I.loop (κ:=Nat) ([6,8,9]++rg 13 18) (fun k=>[(13,.d (.int .i64 k)),(6,.own 1 1),(5,.map 0)]) (fun k=>[(0,.map (dJ DV.str (dK [] (T.take k)))),(1,.arr 1 (9,1) ((dK [] (T.take k)).map .str))]) (fun k=>k≤l.length) (fun k=>l.length - k) 0 (Nat.zero_le _) ?_ ?_
 ·(conv=>whnf);repeat (first | exact trivial | (refine sI ?_; conv=>whnf))
  refine And.intro rfl ?_;(conv=>whnf);repeat (first | exact trivial | (refine sI ?_; conv=>whnf))
  refine And.intro rfl ?_;exact sZ
 intro k hk IH;refine I.head af Tryz.func102 2000 ?_;(conv=>whnf);refine ah (fun h5=>?_) (fun h5=>?_)
 ·have ai:k<l.length:=by simpa using h5
  obtain ⟨c,hc⟩:=aD ai;have D0:T[k]? = some c.az.aj:=by rw [← hT]; simp [hc]
  have Rm:=Ad (l:=T.take k) (acc:=[]);obtain ⟨fH,iZ⟩:=uE uF (dK [] (T.take k)) c.az.aj;have fe:=(mU uF (dK [] (T.take k))).1;refine gO Tryz.func102 ?_;refine aB (e:=c.enc) (aN hc) rfl ?_;refine gO Tryz.func102 ?_
  with_reducible refine ao (Rk c) ?_
  refine gO Tryz.func102 ?_;refine ny (.bool false) (.bool false) ⟨_,rfl⟩ fe (fun w=>by kernel_rfl) (fun _ _ => .bool _) fH iZ ?_;refine gO Tryz.func102 ?_;have aE:=Jv D0;by_cases hm:c.az.aj∈dK [] (T.take k)
  ·refine aW (by simp [hm]) ?_;refine gO Tryz.func102 ?_;refine I.back (IH (k+1) (by omega) (by omega)) ?_;have D1:c.az.aj∈T.take k:=by rw [xu] at hm; simpa using hm
   rw [if_pos D1] at aE;rw [aE];exact sZ
  ·refine aV (by simp [hm]) ?_;refine gO Tryz.func102 ?_;refine bc ⟨⟨_,rfl⟩,fe⟩ ?_;refine gO Tryz.func102 ?_;refine bc ⟨by simp at Rm ⊢; omega,by simp [DV.cells]⟩ ?_;refine gO Tryz.func102 ?_;refine I.back (IH (k+1) (by omega) (by omega)) ?_;have D1:¬ c.az.aj∈T.take k:=by rw [xu] at hm; simpa using hm
   rw [if_neg D1] at aE;rw [aE];(conv=>whnf);repeat (first | exact trivial | (refine sI ?_; conv=>whnf))
   refine And.intro (ss _ _).symm ?_;(conv=>whnf);repeat (first | exact trivial | (refine sI ?_; conv=>whnf))
   refine And.intro (by simp) ?_;exact sZ
 ·have aC:l.length≤k:=by simpa using h5
  rw [List.take_of_length_le (by omega)];refine gO Tryz.func102 ?_;exact ⟨_,rfl,rfl⟩
end Go.Proofs.YtfmdaiojokniiaaGreatDoor.P
end
