/- Several texts of mine, one behind the other. Conditions: as each says. -/
import Derived.Test.YtfmdaiojokniiaaGreatDoorV17
import Derived.Test.YtfmdaiojokniiaaGreatDoorV18
set_option linter.unusedVariables false
set_option linter.unusedSimpArgs false
section
namespace Go.Proofs.YtfmdaiojokniiaaGreatDoor.P
open Go Go.aw
set_option maxRecDepth 100000
set_option maxHeartbeats 4000000
def sX (t:Text):Bool:=Nm.valid t&&mF t
theorem JS (t:Text) (ht:t.length≤maxLen):aq E 218 [.str t] (· = .bool (sX t)):=by
 have lL:=DF t ht;unfold xw at lL;cases h:Nm.valid t
 ·simp only [h,Bool.false_eq_true,if_false] at lL;refine eP Tryz.func218 ?_
  with_reducible refine ao (lL) ?_
  refine gO Tryz.func218 ?_;refine aQ ?_;refine gO Tryz.func218 ?_;simp [sX,h]
 ·simp only [h,if_true] at lL;refine eP Tryz.func218 ?_
  with_reducible refine ao (lL) ?_
  refine gO Tryz.func218 ?_;cases hl:Nm.labels t with
  |nil =>
   refine aZ rfl ?_;refine gO Tryz.func218 ?_;simp [sX,mF,h,hl]
  |cons y ys =>
   have hy:(y::ys)[0]? = some y:=rfl;refine bh (by simp) ?_;refine gO Tryz.func218 ?_;refine aE (e := .str y) (xq hy) rfl ?_;refine gO Tryz.func218 ?_;simp [sX,mF,h,hl]
def jf (n:Int):Bool:=decide (1≤n)&&decide (n≤1000000)
theorem Ej (n:Int):aq E 219 [.int .i64 n] (· = .bool (jf n)):=by
 refine eP Tryz.func219 ?_;repeat' (first | with_reducible refine cY ?_ | with_reducible refine cN ?_ | with_reducible refine ai (fun _=>?_) (fun _=>?_) | refine gA Tryz.func219 ?_ | refine gB ?_ | with_reducible rfl)
 all_goals (simp_all [jf] <;> omega)
theorem Ax (a b:Int):dY (.int .i64 a) (.int .i64 b)=(a==b):=rfl
def vc (es:List (DV × DV)):Prop:=∀ p∈es,∃ s,p.1=DV.int .i64 s
theorem JT {n:Int} {v:DV}:∀ {es:List (DV × DV)},vc es→vc (bO (.int .i64 n) v es)
 | [],_,p,hp=>by simp [bO] at hp; subst hp; exact ⟨_,rfl⟩
 |q::es,h,p,hp=>by
  unfold bO at hp;split at hp
  ·rcases List.mem_cons.1 hp with rfl | hp
   ·exact ⟨_,rfl⟩
   ·exact h p (List.mem_cons_of_mem _ hp)
  ·rcases List.mem_cons.1 hp with rfl | hp
   ·exact h _ (List.mem_cons_self ..)
   ·exact JT (fun r hr=>h r (List.mem_cons_of_mem _ hr)) p hp
theorem JU {n m:Int} {v:DV}:∀ {es:List (DV × DV)},vc es→findD (.int .i64 m) (bO (.int .i64 n) v es)=if m==n then some v else findD (.int .i64 m) es
 | [],_=>by simp [bO,findD,Ax]
 |q::es,h=>by
  obtain ⟨s,hs⟩:=h q (List.mem_cons_self ..);obtain ⟨q1,q2⟩:=q;simp only at hs;subst hs;unfold bO;simp only [Ax];by_cases e:n=s
  ·subst e;simp only [beq_self_eq_true,if_true,findD,Ax];by_cases e2:m=n
   ·simp [e2]
   ·simp [e2]
  ·have ih:=JU (n:=n) (m:=m) (v:=v) (es:=es) (fun r hr=>h r (List.mem_cons_of_mem _ hr));have e':(n==s)=false:=by simpa using e
   simp only [e',Bool.false_eq_true,if_false,findD,Ax,ih];by_cases e2:m=s
   ·subst e2;have:(m==n)=false:=by simpa using fun h=>e h.symm
    simp [this]
   ·simp [e2]
def lP (x:Host):Bool:=Nm.valid x.name && !sX x.name&&decide (0≤x.owner)&&decide (x.owner<32)&&jf x.addr
def dW (l:List Host):Bool:=decide (l.length≤64)&&l.all lP&&decide ((l.map (·.addr)).Nodup)
def sY (l:List Host):List (DV × DV):=l.foldl (fun es x=>bO (.int .i64 x.addr) (.bool true) es) []
theorem RX {l:List Host} {k:Nat} {x:Host} (h:l[k]? = some x):sY (l.take (k+1))=bO (.int .i64 x.addr) (.bool true) (sY (l.take k)):=by
 rw [cI h,sY,List.foldl_append];rfl
theorem JV (l:List Host):vc (sY l)∧∀ n,findD (.int .i64 n) (sY l)=if n∈l.map (·.addr) then some (.bool true) else none:=by
 have main:∀ (l:List Host) (es:List (DV × DV)) (C:List Int),vc es→(∀ n,findD (.int .i64 n) es=if n∈C then some (.bool true) else none) →
   vc (l.foldl (fun es x=>bO (.int .i64 x.addr) (.bool true) es) es)∧∀ n,findD (.int .i64 n) (l.foldl (fun es x=>bO (.int .i64 x.addr) (.bool true) es) es)=if n∈C++l.map (·.addr) then some (.bool true) else none:=by
  intro l
  induction l with
  |nil=>intro es C h1 h2; exact ⟨h1,by simpa using h2⟩
  |cons s l ih =>
   intro es C h1 h2
   have:=ih (bO (.int .i64 s.addr) (.bool true) es) (C++[s.addr]) (JT h1) (fun n=>by
    rw [JU h1,h2 n];by_cases h:n=s.addr
    ·simp [h]
    ·simp [h])
   simpa using this
 have:=main l [] [] (fun p hp=>by simp at hp) (fun n=>by simp [findD])
 simpa [sY] using this
theorem Ek {l:List Host} {k:Nat} {x:Host} (hx:l[k]? = some x) (h:lP x=false):dW l=false:=by
 have:l.all lP=false:=by
  cases ha:l.all lP
  ·rfl
  ·rw [List.all_eq_true.1 ha x (List.mem_of_getElem? hx)] at h;cases h
 simp [dW,this]
theorem Ay (l:List Host) (hn:∀ x∈l,x.name.length≤maxLen):aq E 148 [.sl (l.map Host.enc)] (· = .bool (dW l)):=by
 refine eP Tryz.func148 ?_;refine ai (fun h1=>?_) (fun h1=>?_)
 ·refine gO Tryz.func148 ?_;have:dW l=false:=by simp [dW]; simp at h1; omega
  rw [this]
 ·have hlen:l.length≤64:=by simp at h1; omega
  refine gO Tryz.func148 ?_;refine gO Tryz.func148 ?_;refine I.loop (κ:=Nat) ([2,5]++rg 12 37) (fun k=>[(12,.d (.int .i64 k)),(2,.d (.bool false)),(3,.map 0)]) (fun k=>[(0,.map (sY (l.take k)))]) (fun k=>k≤l.length∧(l.take k).all lP=true∧((l.take k).map (·.addr)).Nodup) (fun k=>l.length - k) 0 ⟨Nat.zero_le _,rfl,by simp⟩ ?_ ?_
  ·(conv=>whnf);repeat (first | exact trivial | (refine And.intro (by first | with_reducible rfl | exact congrArg (DV.int .i64) (by omega) | exact rfl | exact congrArg (DV.int .i64) (wrap64 (by omega) (by omega)) | exact congrArg (DV.int .i64) ((wrap64 (by omega) (by omega)).trans (by omega))) ?_; conv=>whnf))
  rintro k ⟨hk,aW,ew⟩ IH;refine I.head af Tryz.func148 2000 ?_;(conv=>whnf);refine ai (fun h5=>?_) (fun h5=>?_)
  ·have aj:k<l.length:=by simpa using h5
   obtain ⟨x,hx⟩:=aL aj;have eC:=hn x (List.mem_of_getElem? hx);refine gO Tryz.func148 ?_;refine aE (e:=x.enc) (aX hx) rfl ?_;refine gO Tryz.func148 ?_;repeat' (first | with_reducible refine ao (gm x.name eC) ?_ | with_reducible refine ay (gm x.name eC) ?_ | with_reducible refine ao (JS x.name eC) ?_ | with_reducible refine ay (JS x.name eC) ?_ | with_reducible refine ao (Ej x.addr) ?_ | with_reducible refine ay (Ej x.addr) ?_ | with_reducible refine cY ?_ | with_reducible refine cN ?_ | with_reducible refine ai (fun _=>?_) (fun _=>?_) | refine gA Tryz.func148 ?_ | refine gB ?_ | with_reducible rfl)
   all_goals try (rw [Ek hx (by simp_all [lP] <;> omega)]; done)
   have nu:=(JV (l.take k)).2 x.addr;have fq:=(JV (l.take k)).1;have hb:lP x=true:=by simp_all [lP]
   refine n0 (.bool false) (.bool false) (v := .bool (decide (x.addr∈(l.take k).map (·.addr)))) (f:=decide (x.addr∈(l.take k).map (·.addr))) ⟨_,rfl⟩ fq (fun w=>by kernel_rfl) (fun _ _ => .bool _) (by rw [nu]; split <;> simp_all) (by rw [nu]; split <;> simp_all) ?_;refine gO Tryz.func148 ?_;refine ai (fun h9=>?_) (fun h9=>?_)
   ·refine gO Tryz.func148 ?_;have hm:x.addr∈(l.take k).map (·.addr):=by simpa using h9
    have:dW l=false:=by
     have oT:¬ (l.map (·.addr)).Nodup:=fun fU=>by
      obtain ⟨y,hy,e⟩:=List.mem_map.1 hm;obtain ⟨j,hj⟩:=List.getElem?_of_mem hy;rw [List.getElem?_take] at hj;split at hj
      ·rename_i lv;obtain ⟨p1,e1⟩:=List.getElem?_eq_some_iff.1 hx;obtain ⟨p2,e2⟩:=List.getElem?_eq_some_iff.1 hj;have:=List.pairwise_iff_getElem.1 (List.nodup_iff_pairwise_ne.1 fU) j k (by simpa using p2) (by simpa using p1) lv;apply this;simp [e1,e2,e]
      ·cases hj
     simp [dW,oT]
    rw [this]
   ·have hm:x.addr ∉ (l.take k).map (·.addr):=by simpa using h9
    refine gO Tryz.func148 ?_;refine a8 ⟨⟨_,rfl⟩,fq⟩ ?_;refine gO Tryz.func148 ?_;refine I.back (IH (k+1) ⟨by omega,fm aW hx hb,?_⟩ (by omega)) ?_
    ·rw [cI hx,List.map_append,List.nodup_append];refine ⟨ew,by simp,fun a ha b lQ e=>?_⟩;simp at lQ;subst lQ; subst e;exact hm ha
    ·(conv=>whnf);repeat (first | exact trivial | (refine sI ?_; conv=>whnf))
     refine And.intro (RX hx).symm ?_;exact sZ
  ·have aC:l.length≤k:=by simpa using h5
   rw [List.take_of_length_le aC] at aW ew;refine gO Tryz.func148 ?_;simp [dW,aW,ew,hlen]
end Go.Proofs.YtfmdaiojokniiaaGreatDoor.P
end
section
namespace Go.Proofs.YtfmdaiojokniiaaGreatDoor.P
open Go Go.aw
set_option maxRecDepth 100000
set_option maxHeartbeats 4000000
theorem RY (n:Int):aq E 222 [.int .i64 n] (· = .bool (!jf n)):=by
 refine eP Tryz.func222 ?_
 with_reducible refine ao (Ej n) ?_
 refine gO Tryz.func222 ?_
 with_reducible rfl
theorem RZ (l:List Int) (hl:l.length≤1000000):au E 281 [] [.d (.sl (l.map (.int .i64))),.fn (.func 222) [] []] (fun a b=>∃ n:Int,a = .d (.int .i64 n)∧b=[]∧(0≤n↔l.all jf=false)):=by
 refine au.run af (fn:=Tryz.f281) Tryz.func281 (body:=Tryz.f281.body.getD .skip) rfl (by decide) 2000 rfl ?_;(conv=>whnf);refine I.loop (κ:=Nat) ([4,5]++rg 8 11) (fun k=>[(8,.d (.int .i64 k))]) (fun _=>[]) (fun k=>k≤l.length∧(l.take k).all jf=true) (fun k=>l.length - k) 0 ⟨Nat.zero_le _,rfl⟩ ?_ ?_
 ·exact sZ
 rintro k ⟨hk,aW⟩ IH;refine I.head af Tryz.func281 2000 ?_;(conv=>whnf);refine ai (fun h5=>?_) (fun h5=>?_)
 ·have aj:k<l.length:=by simpa using h5
  obtain ⟨x,hx⟩:=aL aj;refine gO Tryz.func281 ?_;refine aE (e := .int .i64 x) (aX hx) rfl ?_;refine gO Tryz.func281 ?_
  with_reducible refine ao (RY x) ?_
  refine gO Tryz.func281 ?_;refine ai (fun h6=>?_) (fun h6=>?_)
  ·refine gO Tryz.func281 ?_;refine ⟨k,rfl,rfl,?_⟩;have:l.all jf=false:=by
    cases ha:l.all jf
    ·rfl
    ·have:=List.all_eq_true.1 ha x (List.mem_of_getElem? hx);simp [this] at h6
   simp [this]
  ·refine gO Tryz.func281 ?_;refine I.back (IH (k+1) ⟨by omega,fm aW hx (by simpa using h6)⟩ (by omega)) ?_;exact sZ
 ·have aC:l.length≤k:=by simpa using h5
  rw [List.take_of_length_le aC] at aW;refine gO Tryz.func281 ?_;exact ⟨_,rfl,rfl,by simp [aW]⟩
theorem R0 (l:List Int) (hl:l.length≤1000000):au E 221 [] [.d (.sl (l.map (.int .i64))),.fn (.func 222) [] []] (fun a b=>a = .d (.bool (!l.all jf))∧b=[]):=by
 refine au.run af (fn:=Tryz.f221) Tryz.func221 (body:=Tryz.f221.body.getD .skip) rfl (by decide) 2000 rfl ?_;(conv=>whnf);refine jx (RZ l hl) ?_;rintro r b ⟨n,rfl,rfl,h⟩;refine gO Tryz.func221 ?_;cases ha:l.all jf
 ·simp [h.2 ha]
 ·have:¬ 0≤n:=fun h0=>by rw [h.1 h0] at ha; cases ha
  simp; omega
def gJ (a:cS) (l:List Int):Bool:=ez a&&decide (a.type=6)&&decide (a.name=[46])&&decide (1≤l.length)&&decide (l.length≤8)&&l.all jf
theorem Az (a:cS) (l:List Int) (hf:a.Fits) (hl:l.length≤maxLen):aq E 150 [a.enc,.sl (l.map (.int .i64))] (· = .bool (gJ a l)):=by
 refine eP Tryz.func150 ?_;repeat' (first | with_reducible refine ao (uM a hf) ?_ | with_reducible refine ay (uM a hf) ?_ | with_reducible refine cY ?_ | with_reducible refine cN ?_ | with_reducible refine ai (fun _=>?_) (fun _=>?_) | refine gA Tryz.func150 ?_ | refine gB ?_ | with_reducible rfl)
 all_goals try (simp_all [gJ] <;> omega; done)
 rename_i h1 h2 h3 h4 h5;refine jx (R0 l (by simp at h5; omega)) ?_;rintro r b ⟨rfl,rfl⟩;refine gO Tryz.func150 ?_;have e1:ez a=true:=by simpa using h1
 have e2:a.type=6:=by simpa using h2
 have e3:a.name=[46]:=by simpa using h3
 have e4:1≤l.length:=by simp at h4; omega
 have e5:l.length≤8:=by simp at h5; omega
 simp [gJ,e1,e2,e3,e4,e5]
theorem JW (hs:List Host) (a:cS) (l:List Int):aq E 149 [.agg [.sl (hs.map Host.enc),.aH,.str a.name,.int .i64 a.type,.int .i64 a.cD,sx a.data,.sl (l.map (.int .i64))]] (· = .bool true):=by
 refine eP Tryz.func149 ?_;refine aZ (by decide) ?_;refine gO Tryz.func149 ?_;refine gO Tryz.func149 ?_;refine gO Tryz.func149 ?_;refine I.mw ?_;refine I.run af Tryz.func149 2000 ?_;(conv=>whnf);refine aZ (by decide) ?_;refine gO Tryz.func149 ?_;refine gO Tryz.func149 ?_;simp
theorem JX (hs:List Host) (a:cS) (l:List Int) (hn:∀ x∈hs,x.name.length≤maxLen) (hf:a.Fits) (hl:l.length≤maxLen):aq E 78 [.agg [.sl (hs.map Host.enc),.aH,.str a.name,.int .i64 a.type,.int .i64 a.cD,sx a.data,.sl (l.map (.int .i64))]] (· = .bool (dW hs&&gJ a l)):=by
 refine eP Tryz.func78 ?_;repeat' (first | with_reducible refine ao (Ay hs hn) ?_ | with_reducible refine ay (Ay hs hn) ?_ | with_reducible refine ao (JW hs a l) ?_ | with_reducible refine ay (JW hs a l) ?_ | with_reducible refine ao (Az a l hf hl) ?_ | with_reducible refine ay (Az a l hf hl) ?_ | with_reducible refine cY ?_ | with_reducible refine cN ?_ | with_reducible refine ai (fun _=>?_) (fun _=>?_) | refine gA Tryz.func78 ?_ | refine gB ?_ | with_reducible rfl)
 all_goals simp_all
end Go.Proofs.YtfmdaiojokniiaaGreatDoor.P
end
section
namespace Go.Proofs.YtfmdaiojokniiaaGreatDoor.P
open Go Go.aw
set_option maxRecDepth 100000
set_option maxHeartbeats 4000000
set_option linter.unusedSectionVars false
section
variable {α:Type} [DecidableEq α] {en:α→DV}
def lR (en:α→DV) (es:List (DV × DV)):Prop:=∀ p∈es,∃ a,p.1=en a
theorem El {b:α} {v:DV}:∀ {es:List (DV × DV)},lR en es→lR en (bO (en b) v es)
 | [],_,p,hp=>by simp [bO] at hp; subst hp; exact ⟨_,rfl⟩
 |q::es,h,p,hp=>by
  unfold bO at hp;split at hp
  ·rcases List.mem_cons.1 hp with rfl | hp
   ·exact ⟨_,rfl⟩
   ·exact h p (List.mem_cons_of_mem _ hp)
  ·rcases List.mem_cons.1 hp with rfl | hp
   ·exact h _ (List.mem_cons_self ..)
   ·exact El (fun r hr=>h r (List.mem_cons_of_mem _ hr)) p hp
theorem Em (hk:∀ a b,dY (en a) (en b)=decide (a=b)) {a b:α} {v:DV}:∀ {es:List (DV × DV)},lR en es→findD (en a) (bO (en b) v es)=if a=b then some v else findD (en a) es
 | [],_=>by simp [bO,findD,hk]
 |q::es,h=>by
  obtain ⟨s,hs⟩:=h q (List.mem_cons_self ..);obtain ⟨q1,q2⟩:=q;simp only at hs;subst hs;unfold bO;simp only [hk];by_cases e:b=s
  ·subst e;simp only [decide_true,if_true,findD,hk];by_cases e2:a=b
   ·simp [e2]
   ·simp [e2]
  ·have ih:=Em hk (a:=a) (b:=b) (v:=v) (es:=es) (fun r hr=>h r (List.mem_cons_of_mem _ hr));simp only [e,decide_false,Bool.false_eq_true,if_false,findD,hk,ih];by_cases e2:a=s
   ·subst e2;have:¬ a=b:=fun h=>e h.symm;simp [this]
   ·simp [e2]
def dO (en:α→DV) (l:List α):List (DV × DV):=l.foldl (fun es x=>bO (en x) (.bool true) es) []
theorem En {l:List α} {k:Nat} {x:α} (h:l[k]? = some x):dO en (l.take (k+1))=bO (en x) (.bool true) (dO en (l.take k)):=by
 rw [cI h,dO,List.foldl_append];rfl
theorem s4 (l:List α) (x:α):dO en (l++[x])=bO (en x) (.bool true) (dO en l):=by
 rw [dO,List.foldl_append];rfl
theorem ny (hk:∀ a b,dY (en a) (en b)=decide (a=b)) (l:List α):lR en (dO en l)∧∀ a,findD (en a) (dO en l)=if a∈l then some (.bool true) else none:=by
 have main:∀ (l:List α) (es:List (DV × DV)) (C:List α),lR en es→(∀ n,findD (en n) es=if n∈C then some (.bool true) else none) →
   lR en (l.foldl (fun es x=>bO (en x) (.bool true) es) es)∧∀ n,findD (en n) (l.foldl (fun es x=>bO (en x) (.bool true) es) es)=if n∈C++l then some (.bool true) else none:=by
  intro l
  induction l with
  |nil=>intro es C h1 h2; exact ⟨h1,by simpa using h2⟩
  |cons s l ih =>
   intro es C h1 h2
   have:=ih (bO (en s) (.bool true) es) (C++[s]) (El h1) (fun n=>by
    rw [Em hk h1,h2 n];by_cases h:n=s
    ·simp [h]
    ·simp [h])
   simpa using this
 have:=main l [] [] (fun p hp=>by simp at hp) (fun n=>by simp [findD])
 simpa [dO] using this
theorem ve (hk:∀ a b,dY (en a) (en b)=decide (a=b)) (l:List α) (a:α):(findD (en a) (dO en l)).getD (.bool false) = .bool (decide (a∈l))∧(findD (en a) (dO en l)).isSome=decide (a∈l):=by
 rw [(ny hk l).2 a];split <;> simp_all
def dv:List α→List α→List α
 |acc,[]=>acc
 |acc,x::l=>dv (if x∈acc then acc else acc++[x]) l
theorem JY (acc l:List α) (x:α):dv acc (l++[x])=if x∈dv acc l then dv acc l else dv acc l++[x]:=by
 induction l generalizing acc with
 |nil=>rfl
 |cons y l ih =>
  show dv _ (l++[x])=_;rw [ih];rfl
theorem qX {x:α}:∀ {l acc:List α},x∈dv acc l↔x∈acc∨x∈l
 | [],acc=>by simp [dv]
 |y::l,acc=>by
  rw [dv,qX (l:=l)];split
  ·rename_i h;constructor
   ·rintro (h1 | h1)
    ·exact .inl h1
    ·exact .inr (List.mem_cons_of_mem _ h1)
   ·rintro (h1 | h1)
    ·exact .inl h1
    ·rcases List.mem_cons.1 h1 with rfl | h1
     ·exact .inl h
     ·exact .inr h1
  ·simp [or_assoc]
theorem xU:∀ {l acc:List α},acc.Nodup→(dv acc l).Nodup
 | [],_,h=>h
 |y::l,acc,h=>by
  rw [dv];refine xU ?_;split
  ·exact h
  ·rename_i hy;rw [List.nodup_append];exact ⟨h,by simp,fun a ha b hb e=>by simp at hb; subst hb; subst e; exact hy ha⟩
theorem AA:∀ {l acc:List α},(dv acc l).length≤acc.length+l.length
 | [],_=>by simp [dv]
 |y::l,acc=>by
  rw [dv];refine Nat.le_trans AA ?_;split <;> simp <;> omega
theorem R2 {a b:List α} (ha:a.Nodup) (hb:b.Nodup) (h:∀ x,x∈a↔x∈b):a.length=b.length:=((List.perm_ext_iff_of_nodup ha hb).2 h).length_eq
theorem JZ {l:List α} {k:Nat} {x:α} (h:l[k]? = some x):dv [] (l.take (k+1))=if x∈l.take k then dv [] (l.take k) else dv [] (l.take k)++[x]:=by
 rw [cI h,JY];have:=qX (x:=x) (l:=l.take k) (acc:=[]);simp only [List.not_mem_nil,false_or] at this;by_cases hx:x∈l.take k
 ·rw [if_pos hx,if_pos (this.2 hx)]
 ·rw [if_neg hx,if_neg (fun h=>hx (this.1 h))]
end
theorem vf (a b:Text):dY (.str a) (.str b)=decide (a=b):=by
 show (a==b)=_;rw [Bool.eq_iff_iff]; simp
theorem J0 (a b:Int):dY (.int .i64 a) (.int .i64 b)=decide (a=b):=by
 show (a==b)=_;rw [Bool.eq_iff_iff]; simp
abbrev cP:=Int × Text
@[reducible] def cP.en (p : cP) : DV := .agg [.int .i64 p.1, .str p.2]
theorem oB (a b:cP):dY (cP.en a) (cP.en b)=decide (a=b):=by
 show (((a.1==b.1))&&((a.2==b.2)&&true))=_;rw [Bool.eq_iff_iff];simp [Prod.ext_iff]
theorem R3 (c:aS):aq E 103 [c.enc] (· = .str c.az.ah):=by
 refine eP Tryz.func103 ?_
 with_reducible rfl
theorem R4 (l:List aS) (hl:l.length≤1000000):au E 102 [] [.d (.sl (l.map aS.enc)),.fn (.func 103) [] []] (fun a b=>∃ es,a = .own 1 1∧b=[.map es,.arr 1 (9,1) ((dv [] (l.map (·.az.ah))).map .str)]):=by
 generalize hT:l.map (·.az.ah)=T;have AB:T.length=l.length:=by rw [← hT]; simp
 refine au.run af (fn:=Tryz.f102) Tryz.func102 (body:=Tryz.f102.body.getD .skip) rfl (by decide) 2000 rfl ?_;(conv=>whnf);refine gO Tryz.func102 ?_;refine gO Tryz.func102 ?_;refine I.tN 6 (9,1) (by decide) rfl ?_;refine gO Tryz.func102 ?_;refine I.loop (κ:=Nat) ([6,8,9]++rg 13 18) (fun k=>[(13,.d (.int .i64 k)),(6,.own 1 1),(5,.map 0)]) (fun k=>[(0,.map (dO DV.str (dv [] (T.take k)))),(1,.arr 1 (9,1) ((dv [] (T.take k)).map .str))]) (fun k=>k≤l.length) (fun k=>l.length - k) 0 (Nat.zero_le _) ?_ ?_
 ·(conv=>whnf);repeat (first | exact trivial | (refine sI ?_; conv=>whnf))
  refine And.intro rfl ?_;(conv=>whnf);repeat (first | exact trivial | (refine sI ?_; conv=>whnf))
  refine And.intro rfl ?_;exact sZ
 intro k hk IH;refine I.head af Tryz.func102 2000 ?_;(conv=>whnf);refine ai (fun h5=>?_) (fun h5=>?_)
 ·have aj:k<l.length:=by simpa using h5
  obtain ⟨c,hc⟩:=aL aj;have Eo:T[k]? = some c.az.ah:=by rw [← hT]; simp [hc]
  have R5:=AA (l:=T.take k) (acc:=[]);obtain ⟨fN,jg⟩:=ve vf (dv [] (T.take k)) c.az.ah;have fq:=(ny vf (dv [] (T.take k))).1;refine gO Tryz.func102 ?_;refine aE (e:=c.enc) (aX hc) rfl ?_;refine gO Tryz.func102 ?_
  with_reducible refine ao (R3 c) ?_
  refine gO Tryz.func102 ?_;refine n0 (.bool false) (.bool false) ⟨_,rfl⟩ fq (fun w=>by kernel_rfl) (fun _ _ => .bool _) fN jg ?_;refine gO Tryz.func102 ?_;have aF:=JZ Eo;by_cases hm:c.az.ah∈dv [] (T.take k)
  ·refine aZ (by simp [hm]) ?_;refine gO Tryz.func102 ?_;refine I.back (IH (k+1) (by omega) (by omega)) ?_;have Ep:c.az.ah∈T.take k:=by rw [qX] at hm; simpa using hm
   rw [if_pos Ep] at aF;rw [aF];exact sZ
  ·refine bh (by simp [hm]) ?_;refine gO Tryz.func102 ?_;refine a8 ⟨⟨_,rfl⟩,fq⟩ ?_;refine gO Tryz.func102 ?_;refine a8 ⟨by simp at R5 ⊢; omega,by simp [DV.cells]⟩ ?_;refine gO Tryz.func102 ?_;refine I.back (IH (k+1) (by omega) (by omega)) ?_;have Ep:¬ c.az.ah∈T.take k:=by rw [qX] at hm; simpa using hm
   rw [if_neg Ep] at aF;rw [aF];(conv=>whnf);repeat (first | exact trivial | (refine sI ?_; conv=>whnf))
   refine And.intro (s4 _ _).symm ?_;(conv=>whnf);repeat (first | exact trivial | (refine sI ?_; conv=>whnf))
   refine And.intro (by simp) ?_;exact sZ
 ·have aC:l.length≤k:=by simpa using h5
  rw [List.take_of_length_le (by omega)];refine gO Tryz.func102 ?_;exact ⟨_,rfl,rfl⟩
end Go.Proofs.YtfmdaiojokniiaaGreatDoor.P
end
