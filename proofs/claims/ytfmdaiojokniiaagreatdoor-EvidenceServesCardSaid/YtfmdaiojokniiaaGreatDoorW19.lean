/- Several texts of mine, one behind the other. Conditions: as each says. -/
import Derived.Test.YtfmdaiojokniiaaGreatDoorW16
import Derived.Test.YtfmdaiojokniiaaGreatDoorW17
set_option linter.unusedVariables false
set_option linter.unusedSimpArgs false
section
namespace Go.Proofs.YtfmdaiojokniiaaGreatDoor.P
open Go Go.aw
set_option maxRecDepth 100000
set_option maxHeartbeats 4000000
def wZ (t:Text):Bool:=Nm.valid t&&oA t
theorem IE (t:Text) (ht:t.length≤maxLen):au E 218 [.str t] (· = .bool (wZ t)):=by
 have kN:=CN t ht;unfold wz at kN;cases h:Nm.valid t
 ·simp only [h,Bool.false_eq_true,if_false] at kN;refine eP Tryz.func218 ?_
  with_reducible refine ar (kN) ?_
  refine gO Tryz.func218 ?_;refine aN ?_;refine gO Tryz.func218 ?_;simp [wZ,h]
 ·simp only [h,if_true] at kN;refine eP Tryz.func218 ?_
  with_reducible refine ar (kN) ?_
  refine gO Tryz.func218 ?_;cases hl:Nm.labels t with
  |nil =>
   refine aW rfl ?_;refine gO Tryz.func218 ?_;simp [wZ,oA,h,hl]
  |cons y ys =>
   have hy:(y::ys)[0]? = some y:=rfl;refine bg (by simp) ?_;refine gO Tryz.func218 ?_;refine aT (e := .str y) (Co hy) rfl ?_;refine gO Tryz.func218 ?_;simp [wZ,oA,h,hl]
def mq (n:Int):Bool:=decide (1≤n)&&decide (n≤1000000)
theorem Dj (n:Int):au E 219 [.int .i64 n] (· = .bool (mq n)):=by
 refine eP Tryz.func219 ?_;repeat' (first | with_reducible refine cY ?_ | with_reducible refine cN ?_ | with_reducible refine aj (fun _=>?_) (fun _=>?_) | refine gA Tryz.func219 ?_ | refine gB ?_ | with_reducible rfl)
 all_goals (simp_all [mq] <;> omega)
theorem zy (a b:Int):dR (.int .i64 a) (.int .i64 b)=(a==b):=rfl
def tZ (es:List (DV × DV)):Prop:=∀ p∈es,∃ s,p.1=DV.int .i64 s
theorem IF {n:Int} {v:DV}:∀ {es:List (DV × DV)},tZ es→tZ (bI (.int .i64 n) v es)
 | [],_,p,hp=>by simp [bI] at hp; subst hp; exact ⟨_,rfl⟩
 |q::es,h,p,hp=>by
  unfold bI at hp;split at hp
  ·rcases List.mem_cons.1 hp with rfl | hp
   ·exact ⟨_,rfl⟩
   ·exact h p (List.mem_cons_of_mem _ hp)
  ·rcases List.mem_cons.1 hp with rfl | hp
   ·exact h _ (List.mem_cons_self ..)
   ·exact IF (fun r hr=>h r (List.mem_cons_of_mem _ hr)) p hp
theorem IG {n m:Int} {v:DV}:∀ {es:List (DV × DV)},tZ es→findD (.int .i64 m) (bI (.int .i64 n) v es)=if m==n then some v else findD (.int .i64 m) es
 | [],_=>by simp [bI,findD,zy]
 |q::es,h=>by
  obtain ⟨s,hs⟩:=h q (List.mem_cons_self ..);obtain ⟨q1,q2⟩:=q;simp only at hs;subst hs;unfold bI;simp only [zy];by_cases e:n=s
  ·subst e;simp only [beq_self_eq_true,if_true,findD,zy];by_cases e2:m=n
   ·simp [e2]
   ·simp [e2]
  ·have ih:=IG (n:=n) (m:=m) (v:=v) (es:=es) (fun r hr=>h r (List.mem_cons_of_mem _ hr));have e':(n==s)=false:=by simpa using e
   simp only [e',Bool.false_eq_true,if_false,findD,zy,ih];by_cases e2:m=s
   ·subst e2;have:(m==n)=false:=by simpa using fun h=>e h.symm
    simp [this]
   ·simp [e2]
def p9 (x:Host):Bool:=Nm.valid x.name && !wZ x.name&&decide (0≤x.owner)&&decide (x.owner<32)&&mq x.addr
def fG (l:List Host):Bool:=decide (l.length≤64)&&l.all p9&&decide ((l.map (·.addr)).Nodup)
def rV (l:List Host):List (DV × DV):=l.foldl (fun es x=>bI (.int .i64 x.addr) (.bool true) es) []
theorem Qu {l:List Host} {k:Nat} {x:Host} (h:l[k]? = some x):rV (l.take (k+1))=bI (.int .i64 x.addr) (.bool true) (rV (l.take k)):=by
 rw [dm h,rV,List.foldl_append];rfl
theorem II (l:List Host):tZ (rV l)∧∀ n,findD (.int .i64 n) (rV l)=if n∈l.map (·.addr) then some (.bool true) else none:=by
 have main:∀ (l:List Host) (es:List (DV × DV)) (C:List Int),tZ es→(∀ n,findD (.int .i64 n) es=if n∈C then some (.bool true) else none) →
   tZ (l.foldl (fun es x=>bI (.int .i64 x.addr) (.bool true) es) es)∧∀ n,findD (.int .i64 n) (l.foldl (fun es x=>bI (.int .i64 x.addr) (.bool true) es) es)=if n∈C++l.map (·.addr) then some (.bool true) else none:=by
  intro l
  induction l with
  |nil=>intro es C h1 h2; exact ⟨h1,by simpa using h2⟩
  |cons s l ih =>
   intro es C h1 h2
   have:=ih (bI (.int .i64 s.addr) (.bool true) es) (C++[s.addr]) (IF h1) (fun n=>by
    rw [IG h1,h2 n];by_cases h:n=s.addr
    ·simp [h]
    ·simp [h])
   simpa using this
 have:=main l [] [] (fun p hp=>by simp at hp) (fun n=>by simp [findD])
 simpa [rV] using this
theorem Qv {l:List Host} {k:Nat} {x:Host} (hx:l[k]? = some x) (h:p9 x=false):fG l=false:=by
 have:l.all p9=false:=by
  cases ha:l.all p9
  ·rfl
  ·rw [List.all_eq_true.1 ha x (List.mem_of_getElem? hx)] at h;cases h
 simp [fG,this]
theorem zz (l:List Host) (hn:∀ x∈l,x.name.length≤maxLen):au E 148 [.sl (l.map Host.enc)] (· = .bool (fG l)):=by
 refine eP Tryz.func148 ?_;refine aj (fun h1=>?_) (fun h1=>?_)
 ·refine gO Tryz.func148 ?_;have:fG l=false:=by simp [fG]; simp at h1; omega
  rw [this]
 ·have hlen:l.length≤64:=by simp at h1; omega
  refine gO Tryz.func148 ?_;refine gO Tryz.func148 ?_;refine I.loop (κ:=Nat) ([2,5]++rg 12 37) (fun k=>[(12,.d (.int .i64 k)),(2,.d (.bool false)),(3,.map 0)]) (fun k=>[(0,.map (rV (l.take k)))]) (fun k=>k≤l.length∧(l.take k).all p9=true∧((l.take k).map (·.addr)).Nodup) (fun k=>l.length - k) 0 ⟨Nat.zero_le _,rfl,by simp⟩ ?_ ?_
  ·(conv=>whnf);repeat (first | exact trivial | (refine And.intro (by first | with_reducible rfl | exact congrArg (DV.int .i64) (by omega) | exact rfl | exact congrArg (DV.int .i64) (wrap64 (by omega) (by omega)) | exact congrArg (DV.int .i64) ((wrap64 (by omega) (by omega)).trans (by omega))) ?_; conv=>whnf))
  rintro k ⟨hk,a7,eS⟩ IH;refine I.head ag Tryz.func148 2000 ?_;(conv=>whnf);refine aj (fun h5=>?_) (fun h5=>?_)
  ·have ah:k<l.length:=by simpa using h5
   obtain ⟨x,hx⟩:=aU ah;have dJ:=hn x (List.mem_of_getElem? hx);refine gO Tryz.func148 ?_;refine aT (e:=x.enc) (bu hx) rfl ?_;refine gO Tryz.func148 ?_;repeat' (first | with_reducible refine ar (fQ x.name dJ) ?_ | with_reducible refine aR (fQ x.name dJ) ?_ | with_reducible refine ar (IE x.name dJ) ?_ | with_reducible refine aR (IE x.name dJ) ?_ | with_reducible refine ar (Dj x.addr) ?_ | with_reducible refine aR (Dj x.addr) ?_ | with_reducible refine cY ?_ | with_reducible refine cN ?_ | with_reducible refine aj (fun _=>?_) (fun _=>?_) | refine gA Tryz.func148 ?_ | refine gB ?_ | with_reducible rfl)
   all_goals try (rw [Qv hx (by simp_all [p9] <;> omega)]; done)
   have ml:=(II (l.take k)).2 x.addr;have eX:=(II (l.take k)).1;have hb:p9 x=true:=by simp_all [p9]
   refine mX (.bool false) (.bool false) (v := .bool (decide (x.addr∈(l.take k).map (·.addr)))) (f:=decide (x.addr∈(l.take k).map (·.addr))) ⟨_,rfl⟩ eX (fun w=>by kernel_rfl) (fun _ _ => .bool _) (by rw [ml]; split <;> simp_all) (by rw [ml]; split <;> simp_all) ?_;refine gO Tryz.func148 ?_;refine aj (fun h9=>?_) (fun h9=>?_)
   ·refine gO Tryz.func148 ?_;have hm:x.addr∈(l.take k).map (·.addr):=by simpa using h9
    have:fG l=false:=by
     have n0:¬ (l.map (·.addr)).Nodup:=fun oN=>by
      obtain ⟨y,hy,e⟩:=List.mem_map.1 hm;obtain ⟨j,hj⟩:=List.getElem?_of_mem hy;rw [List.getElem?_take] at hj;split at hj
      ·rename_i kD;obtain ⟨p1,e1⟩:=List.getElem?_eq_some_iff.1 hx;obtain ⟨p2,e2⟩:=List.getElem?_eq_some_iff.1 hj;have:=List.pairwise_iff_getElem.1 (List.nodup_iff_pairwise_ne.1 oN) j k (by simpa using p2) (by simpa using p1) kD;apply this;simp [e1,e2,e]
      ·cases hj
     simp [fG,n0]
    rw [this]
   ·have hm:x.addr ∉ (l.take k).map (·.addr):=by simpa using h9
    refine gO Tryz.func148 ?_;refine bp ⟨⟨_,rfl⟩,eX⟩ ?_;refine gO Tryz.func148 ?_;refine I.back (IH (k+1) ⟨by omega,iD a7 hx hb,?_⟩ (by omega)) ?_
    ·rw [dm hx,List.map_append,List.nodup_append];refine ⟨eS,by simp,fun a ha b kQ e=>?_⟩;simp at kQ;subst kQ; subst e;exact hm ha
    ·(conv=>whnf);repeat (first | exact trivial | (refine sI ?_; conv=>whnf))
     refine And.intro (Qu hx).symm ?_;exact sZ
  ·have aK:l.length≤k:=by simpa using h5
   rw [List.take_of_length_le aK] at a7 eS;refine gO Tryz.func148 ?_;simp [fG,a7,eS,hlen]
end Go.Proofs.YtfmdaiojokniiaaGreatDoor.P
end
section
namespace Go.Proofs.YtfmdaiojokniiaaGreatDoor.P
open Go Go.aw
set_option maxRecDepth 100000
set_option maxHeartbeats 4000000
theorem Qw (n:Int):au E 222 [.int .i64 n] (· = .bool (!mq n)):=by
 refine eP Tryz.func222 ?_
 with_reducible refine ar (Dj n) ?_
 refine gO Tryz.func222 ?_
 with_reducible rfl
theorem Qx (l:List Int) (hl:l.length≤1000000):aq E 281 [] [.d (.sl (l.map (.int .i64))),.fn (.func 222) [] []] (fun a b=>∃ n:Int,a = .d (.int .i64 n)∧b=[]∧(0≤n↔l.all mq=false)):=by
 refine aq.run ag (fn:=Tryz.f281) Tryz.func281 (body:=Tryz.f281.body.getD .skip) rfl (by decide) 2000 rfl ?_;(conv=>whnf);refine I.loop (κ:=Nat) ([4,5]++rg 8 11) (fun k=>[(8,.d (.int .i64 k))]) (fun _=>[]) (fun k=>k≤l.length∧(l.take k).all mq=true) (fun k=>l.length - k) 0 ⟨Nat.zero_le _,rfl⟩ ?_ ?_
 ·exact sZ
 rintro k ⟨hk,a7⟩ IH;refine I.head ag Tryz.func281 2000 ?_;(conv=>whnf);refine aj (fun h5=>?_) (fun h5=>?_)
 ·have ah:k<l.length:=by simpa using h5
  obtain ⟨x,hx⟩:=aU ah;refine gO Tryz.func281 ?_;refine aT (e := .int .i64 x) (bu hx) rfl ?_;refine gO Tryz.func281 ?_
  with_reducible refine ar (Qw x) ?_
  refine gO Tryz.func281 ?_;refine aj (fun h6=>?_) (fun h6=>?_)
  ·refine gO Tryz.func281 ?_;refine ⟨k,rfl,rfl,?_⟩;have:l.all mq=false:=by
    cases ha:l.all mq
    ·rfl
    ·have:=List.all_eq_true.1 ha x (List.mem_of_getElem? hx);simp [this] at h6
   simp [this]
  ·refine gO Tryz.func281 ?_;refine I.back (IH (k+1) ⟨by omega,iD a7 hx (by simpa using h6)⟩ (by omega)) ?_;exact sZ
 ·have aK:l.length≤k:=by simpa using h5
  rw [List.take_of_length_le aK] at a7;refine gO Tryz.func281 ?_;exact ⟨_,rfl,rfl,by simp [a7]⟩
theorem Qy (l:List Int) (hl:l.length≤1000000):aq E 221 [] [.d (.sl (l.map (.int .i64))),.fn (.func 222) [] []] (fun a b=>a = .d (.bool (!l.all mq))∧b=[]):=by
 refine aq.run ag (fn:=Tryz.f221) Tryz.func221 (body:=Tryz.f221.body.getD .skip) rfl (by decide) 2000 rfl ?_;(conv=>whnf);refine iT (Qx l hl) ?_;rintro r b ⟨n,rfl,rfl,h⟩;refine gO Tryz.func221 ?_;cases ha:l.all mq
 ·simp [h.2 ha]
 ·have:¬ 0≤n:=fun h0=>by rw [h.1 h0] at ha; cases ha
  simp; omega
def lR (a:dc) (l:List Int):Bool:=fF a&&decide (a.type=6)&&decide (a.name=[46])&&decide (1≤l.length)&&decide (l.length≤8)&&l.all mq
theorem zA (a:dc) (l:List Int) (hf:a.Fits) (hl:l.length≤maxLen):au E 150 [a.enc,.sl (l.map (.int .i64))] (· = .bool (lR a l)):=by
 refine eP Tryz.func150 ?_;repeat' (first | with_reducible refine ar (tP a hf) ?_ | with_reducible refine aR (tP a hf) ?_ | with_reducible refine cY ?_ | with_reducible refine cN ?_ | with_reducible refine aj (fun _=>?_) (fun _=>?_) | refine gA Tryz.func150 ?_ | refine gB ?_ | with_reducible rfl)
 all_goals try (simp_all [lR] <;> omega; done)
 rename_i h1 h2 h3 h4 h5;refine iT (Qy l (by simp at h5; omega)) ?_;rintro r b ⟨rfl,rfl⟩;refine gO Tryz.func150 ?_;have e1:fF a=true:=by simpa using h1
 have e2:a.type=6:=by simpa using h2
 have e3:a.name=[46]:=by simpa using h3
 have e4:1≤l.length:=by simp at h4; omega
 have e5:l.length≤8:=by simp at h5; omega
 simp [lR,e1,e2,e3,e4,e5]
theorem IJ (hs:List Host) (a:dc) (l:List Int):au E 149 [.agg [.sl (hs.map Host.enc),.aD,.str a.name,.int .i64 a.type,.int .i64 a.cV,tH a.data,.sl (l.map (.int .i64))]] (· = .bool true):=by
 refine eP Tryz.func149 ?_;refine aW (by decide) ?_;refine gO Tryz.func149 ?_;refine gO Tryz.func149 ?_;refine gO Tryz.func149 ?_;refine I.jV ?_;refine I.run ag Tryz.func149 2000 ?_;(conv=>whnf);refine aW (by decide) ?_;refine gO Tryz.func149 ?_;refine gO Tryz.func149 ?_;simp
theorem IK (hs:List Host) (a:dc) (l:List Int) (hn:∀ x∈hs,x.name.length≤maxLen) (hf:a.Fits) (hl:l.length≤maxLen):au E 78 [.agg [.sl (hs.map Host.enc),.aD,.str a.name,.int .i64 a.type,.int .i64 a.cV,tH a.data,.sl (l.map (.int .i64))]] (· = .bool (fG hs&&lR a l)):=by
 refine eP Tryz.func78 ?_;repeat' (first | with_reducible refine ar (zz hs hn) ?_ | with_reducible refine aR (zz hs hn) ?_ | with_reducible refine ar (IJ hs a l) ?_ | with_reducible refine aR (IJ hs a l) ?_ | with_reducible refine ar (zA a l hf hl) ?_ | with_reducible refine aR (zA a l hf hl) ?_ | with_reducible refine cY ?_ | with_reducible refine cN ?_ | with_reducible refine aj (fun _=>?_) (fun _=>?_) | refine gA Tryz.func78 ?_ | refine gB ?_ | with_reducible rfl)
 all_goals simp_all
end Go.Proofs.YtfmdaiojokniiaaGreatDoor.P
end
section
namespace Go.Proofs.YtfmdaiojokniiaaGreatDoor.P
open Go Go.aw
set_option maxRecDepth 100000
set_option maxHeartbeats 4000000
set_option linter.unusedSectionVars false
section
variable {α:Type} [DecidableEq α] {en:α→DV}
def kR (en:α→DV) (es:List (DV × DV)):Prop:=∀ p∈es,∃ a,p.1=en a
theorem Dk {b:α} {v:DV}:∀ {es:List (DV × DV)},kR en es→kR en (bI (en b) v es)
 | [],_,p,hp=>by simp [bI] at hp; subst hp; exact ⟨_,rfl⟩
 |q::es,h,p,hp=>by
  unfold bI at hp;split at hp
  ·rcases List.mem_cons.1 hp with rfl | hp
   ·exact ⟨_,rfl⟩
   ·exact h p (List.mem_cons_of_mem _ hp)
  ·rcases List.mem_cons.1 hp with rfl | hp
   ·exact h _ (List.mem_cons_self ..)
   ·exact Dk (fun r hr=>h r (List.mem_cons_of_mem _ hr)) p hp
theorem Dl (hk:∀ a b,dR (en a) (en b)=decide (a=b)) {a b:α} {v:DV}:∀ {es:List (DV × DV)},kR en es→findD (en a) (bI (en b) v es)=if a=b then some v else findD (en a) es
 | [],_=>by simp [bI,findD,hk]
 |q::es,h=>by
  obtain ⟨s,hs⟩:=h q (List.mem_cons_self ..);obtain ⟨q1,q2⟩:=q;simp only at hs;subst hs;unfold bI;simp only [hk];by_cases e:b=s
  ·subst e;simp only [decide_true,if_true,findD,hk];by_cases e2:a=b
   ·simp [e2]
   ·simp [e2]
  ·have ih:=Dl hk (a:=a) (b:=b) (v:=v) (es:=es) (fun r hr=>h r (List.mem_cons_of_mem _ hr));simp only [e,decide_false,Bool.false_eq_true,if_false,findD,hk,ih];by_cases e2:a=s
   ·subst e2;have:¬ a=b:=fun h=>e h.symm;simp [this]
   ·simp [e2]
def dK (en:α→DV) (l:List α):List (DV × DV):=l.foldl (fun es x=>bI (en x) (.bool true) es) []
theorem Dm {l:List α} {k:Nat} {x:α} (h:l[k]? = some x):dK en (l.take (k+1))=bI (en x) (.bool true) (dK en (l.take k)):=by
 rw [dm h,dK,List.foldl_append];rfl
theorem rW (l:List α) (x:α):dK en (l++[x])=bI (en x) (.bool true) (dK en l):=by
 rw [dK,List.foldl_append];rfl
theorem mr (hk:∀ a b,dR (en a) (en b)=decide (a=b)) (l:List α):kR en (dK en l)∧∀ a,findD (en a) (dK en l)=if a∈l then some (.bool true) else none:=by
 have main:∀ (l:List α) (es:List (DV × DV)) (C:List α),kR en es→(∀ n,findD (en n) es=if n∈C then some (.bool true) else none) →
   kR en (l.foldl (fun es x=>bI (en x) (.bool true) es) es)∧∀ n,findD (en n) (l.foldl (fun es x=>bI (en x) (.bool true) es) es)=if n∈C++l then some (.bool true) else none:=by
  intro l
  induction l with
  |nil=>intro es C h1 h2; exact ⟨h1,by simpa using h2⟩
  |cons s l ih =>
   intro es C h1 h2
   have:=ih (bI (en s) (.bool true) es) (C++[s]) (Dk h1) (fun n=>by
    rw [Dl hk h1,h2 n];by_cases h:n=s
    ·simp [h]
    ·simp [h])
   simpa using this
 have:=main l [] [] (fun p hp=>by simp at hp) (fun n=>by simp [findD])
 simpa [dK] using this
theorem ua (hk:∀ a b,dR (en a) (en b)=decide (a=b)) (l:List α) (a:α):(findD (en a) (dK en l)).getD (.bool false) = .bool (decide (a∈l))∧(findD (en a) (dK en l)).isSome=decide (a∈l):=by
 rw [(mr hk l).2 a];split <;> simp_all
def dP:List α→List α→List α
 |acc,[]=>acc
 |acc,x::l=>dP (if x∈acc then acc else acc++[x]) l
theorem IL (acc l:List α) (x:α):dP acc (l++[x])=if x∈dP acc l then dP acc l else dP acc l++[x]:=by
 induction l generalizing acc with
 |nil=>rfl
 |cons y l ih =>
  show dP _ (l++[x])=_;rw [ih];rfl
theorem ub {x:α}:∀ {l acc:List α},x∈dP acc l↔x∈acc∨x∈l
 | [],acc=>by simp [dP]
 |y::l,acc=>by
  rw [dP,ub (l:=l)];split
  ·rename_i h;constructor
   ·rintro (h1 | h1)
    ·exact .inl h1
    ·exact .inr (List.mem_cons_of_mem _ h1)
   ·rintro (h1 | h1)
    ·exact .inl h1
    ·rcases List.mem_cons.1 h1 with rfl | h1
     ·exact .inl h
     ·exact .inr h1
  ·simp [or_assoc]
theorem Dn:∀ {l acc:List α},acc.Nodup→(dP acc l).Nodup
 | [],_,h=>h
 |y::l,acc,h=>by
  rw [dP];refine Dn ?_;split
  ·exact h
  ·rename_i hy;rw [List.nodup_append];exact ⟨h,by simp,fun a ha b hb e=>by simp at hb; subst hb; subst e; exact hy ha⟩
theorem Dp:∀ {l acc:List α},(dP acc l).length≤acc.length+l.length
 | [],_=>by simp [dP]
 |y::l,acc=>by
  rw [dP];refine Nat.le_trans Dp ?_;split <;> simp <;> omega
theorem IM {l:List α} {k:Nat} {x:α} (h:l[k]? = some x):dP [] (l.take (k+1))=if x∈l.take k then dP [] (l.take k) else dP [] (l.take k)++[x]:=by
 rw [dm h,IL];have:=ub (x:=x) (l:=l.take k) (acc:=[]);simp only [List.not_mem_nil,false_or] at this;by_cases hx:x∈l.take k
 ·rw [if_pos hx,if_pos (this.2 hx)]
 ·rw [if_neg hx,if_neg (fun h=>hx (this.1 h))]
end
theorem uc (a b:Text):dR (.str a) (.str b)=decide (a=b):=by
 show (a==b)=_;rw [Bool.eq_iff_iff]; simp
theorem IN (a b:Int):dR (.int .i64 a) (.int .i64 b)=decide (a=b):=by
 show (a==b)=_;rw [Bool.eq_iff_iff]; simp
abbrev cL:=Int × Text
@[reducible] def cL.en (p : cL) : DV := .agg [.int .i64 p.1, .str p.2]
theorem nG (a b:cL):dR (cL.en a) (cL.en b)=decide (a=b):=by
 show (((a.1==b.1))&&((a.2==b.2)&&true))=_;rw [Bool.eq_iff_iff];simp [Prod.ext_iff]
theorem Qz (c:aX):au E 103 [c.enc] (· = .str c.ay.ai):=by
 refine eP Tryz.func103 ?_
 with_reducible rfl
theorem QA (l:List aX) (hl:l.length≤1000000):aq E 102 [] [.d (.sl (l.map aX.enc)),.fn (.func 103) [] []] (fun a b=>∃ es,a = .own 1 1∧b=[.map es,.arr 1 (9,1) ((dP [] (l.map (·.ay.ai))).map .str)]):=by
 generalize hT:l.map (·.ay.ai)=T;have Dq:T.length=l.length:=by rw [← hT]; simp
 refine aq.run ag (fn:=Tryz.f102) Tryz.func102 (body:=Tryz.f102.body.getD .skip) rfl (by decide) 2000 rfl ?_;(conv=>whnf);refine gO Tryz.func102 ?_;refine gO Tryz.func102 ?_;refine I.AS 6 (9,1) (by decide) rfl ?_;refine gO Tryz.func102 ?_;refine I.loop (κ:=Nat) ([6,8,9]++rg 13 18) (fun k=>[(13,.d (.int .i64 k)),(6,.own 1 1),(5,.map 0)]) (fun k=>[(0,.map (dK DV.str (dP [] (T.take k)))),(1,.arr 1 (9,1) ((dP [] (T.take k)).map .str))]) (fun k=>k≤l.length) (fun k=>l.length - k) 0 (Nat.zero_le _) ?_ ?_
 ·(conv=>whnf);repeat (first | exact trivial | (refine sI ?_; conv=>whnf))
  refine And.intro rfl ?_;(conv=>whnf);repeat (first | exact trivial | (refine sI ?_; conv=>whnf))
  refine And.intro rfl ?_;exact sZ
 intro k hk IH;refine I.head ag Tryz.func102 2000 ?_;(conv=>whnf);refine aj (fun h5=>?_) (fun h5=>?_)
 ·have ah:k<l.length:=by simpa using h5
  obtain ⟨c,hc⟩:=aU ah;have Dr:T[k]? = some c.ay.ai:=by rw [← hT]; simp [hc]
  have QB:=Dp (l:=T.take k) (acc:=[]);obtain ⟨gY,iG⟩:=ua uc (dP [] (T.take k)) c.ay.ai;have eX:=(mr uc (dP [] (T.take k))).1;refine gO Tryz.func102 ?_;refine aT (e:=c.enc) (bu hc) rfl ?_;refine gO Tryz.func102 ?_
  with_reducible refine ar (Qz c) ?_
  refine gO Tryz.func102 ?_;refine mX (.bool false) (.bool false) ⟨_,rfl⟩ eX (fun w=>by kernel_rfl) (fun _ _ => .bool _) gY iG ?_;refine gO Tryz.func102 ?_;have bB:=IM Dr;by_cases hm:c.ay.ai∈dP [] (T.take k)
  ·refine aW (by simp [hm]) ?_;refine gO Tryz.func102 ?_;refine I.back (IH (k+1) (by omega) (by omega)) ?_;have Ds:c.ay.ai∈T.take k:=by rw [ub] at hm; simpa using hm
   rw [if_pos Ds] at bB;rw [bB];exact sZ
  ·refine bg (by simp [hm]) ?_;refine gO Tryz.func102 ?_;refine bp ⟨⟨_,rfl⟩,eX⟩ ?_;refine gO Tryz.func102 ?_;refine bp ⟨by simp at QB ⊢; omega,by simp [DV.cells]⟩ ?_;refine gO Tryz.func102 ?_;refine I.back (IH (k+1) (by omega) (by omega)) ?_;have Ds:¬ c.ay.ai∈T.take k:=by rw [ub] at hm; simpa using hm
   rw [if_neg Ds] at bB;rw [bB];(conv=>whnf);repeat (first | exact trivial | (refine sI ?_; conv=>whnf))
   refine And.intro (rW _ _).symm ?_;(conv=>whnf);repeat (first | exact trivial | (refine sI ?_; conv=>whnf))
   refine And.intro (by simp) ?_;exact sZ
 ·have aK:l.length≤k:=by simpa using h5
  rw [List.take_of_length_le (by omega)];refine gO Tryz.func102 ?_;exact ⟨_,rfl,rfl⟩
end Go.Proofs.YtfmdaiojokniiaaGreatDoor.P
end
