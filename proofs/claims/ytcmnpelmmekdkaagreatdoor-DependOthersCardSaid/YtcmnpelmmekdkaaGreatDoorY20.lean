/- Several texts of mine, one behind the other. Conditions: as each says. -/
import Derived.Test.YtcmnpelmmekdkaaGreatDoorY6
import Derived.Test.YtcmnpelmmekdkaaGreatDoorY11
import Derived.Test.YtcmnpelmmekdkaaGreatDoorY13
set_option linter.unusedVariables false
set_option linter.unusedSimpArgs false
section
namespace Go.Proofs.YtcmnpelmmekdkaaGreatDoor.P
open Go Go.ax
set_option maxRecDepth 100000
set_option maxHeartbeats 4000000
theorem Df (t:Text):(Nm.back ⟨t.toArray⟩).length=(Nm.labels t).length:=by simp [Nm.back,jS]
theorem Xv {t:Text} {i:Nat} {x:Text} (h:(Nm.labels t)[i]? = some x):(Nm.back ⟨t.toArray⟩)[(Nm.labels t).length - 1 - i]? = some ⟨x.toArray⟩:=by
 have hi:=aZ h;simp only [Nm.back,jS,List.getElem?_map];rw [List.getElem?_reverse (by omega),show (Nm.labels t).length - 1 - ((Nm.labels t).length - 1 - i)=i by omega,h];rfl
def vc (t:Text):DV:=if Nm.valid t then .aL [.sl ((Nm.labels t).map .str),.int .i64 0] else .aL [.a8,.int .i64 11]
theorem Oz (t:Text) (ht:t.length≤maxLen):aA E 153 [.str t] (· = vc t):=by
 unfold aA;refine ⟨⟨_,Tryz.func153,rfl,by decide⟩,fun au w vs eG _ hv=>?_⟩;obtain ⟨hl,hv⟩:=hv;obtain ⟨v,rfl⟩:∃ v,vs=[v]:=by
  cases vs with
  |nil=>simp at hl
  |cons v r=>cases r with
   |nil=>exact ⟨v,rfl⟩
   |cons u r=>simp at hl
 have:=hv 0 (.str t) v rfl rfl;cases this;cases h:Nm.valid t
 ·refine (Wg ⟨t.toArray⟩ w (size_mk ht) (by rw [jS]; exact h)).mono fun e w' ⟨h1,h2⟩=>⟨_,vc t,h1,rfl,?_,h2⟩;simp only [vc,h]
  exact .aL _ _ rfl (fun j x v hx hv=>by
   match j with
   | 0=>simp at hx hv; subst hx; subst hv; exact .a8
   | 1=>simp at hx hv; subst hx; subst hv; exact .int _ _
   |j+2=>simp at hx)
 ·refine (Wb ⟨t.toArray⟩ w (by rw [jS]; exact h)).mono fun e w' ⟨B,k,hk,h1,h2,hB,dH⟩=>⟨_,vc t,h1,rfl,?_,h2⟩;simp only [vc,h,if_true];refine .aL _ _ rfl (fun j x v hx hv=>?_)
  match j with
  | 0 =>
   simp at hx hv; subst hx; subst hv;cases jq:Nm.labels t with
   |nil =>
    rw [Df,jq];exact .kO _
   |cons y ys =>
    have aJ:Nm.back ⟨t.toArray⟩≠[]:=by
     intro h0;have:=Df t;rw [h0,jq] at this;simp at this
    have OA:=hk aJ;rw [Df] at OA;have e1:(Nm.back ⟨t.toArray⟩).length=((Nm.labels t).map DV.str).length:=by rw [Df]; simp
    rw [e1,← jq];have cg:∀ (i j:Nat) (e x:DV),((Nm.labels t).map DV.str)[i]? = some e→e.cells[j]? = some x→∃ y,(Nm.labels t)[i]? = some y∧x = .str y∧j=0:=fun i j e x he hx=>by
     simp only [List.getElem?_map,Option.map_eq_some_iff] at he;obtain ⟨y,hy,rfl⟩:=he
     match j with
     | 0=>simp [DV.cells] at hx; exact ⟨y,hy,hx.symm,rfl⟩
     |j+1=>simp [DV.cells] at hx
    refine .sl _ B k _ 1 (fun i _=>match (Nm.labels t)[i]? with | some y => .string ⟨y.toArray⟩ | none=>undef) (fun _ hb=>by have:=eG B hb; omega) (by omega) (Nat.le_refl _) (fun i e he=>?_) (fun i j e x he hx=>?_) (fun i j e x he hx=>?_) (fun i j e x he hx=>?_)
    ·simp only [List.getElem?_map,Option.map_eq_some_iff] at he;obtain ⟨y,hy,rfl⟩:=he;rfl
    ·obtain ⟨y,hy,rfl,rfl⟩:=cg i j e x he hx;have hi:=aZ hy;have:=dH _ _ (Xv hy);simp only [hy];rw [show k+(i*1+0)=7 - ((Nm.labels t).length - 1 - i) by omega];exact this
    ·obtain ⟨y,hy,rfl,rfl⟩:=cg i j e x he hx;simp only [hy];exact .str y
    ·obtain ⟨y,hy,rfl,rfl⟩:=cg i j e x he hx;simp only [hy];rfl
  | 1=>simp at hx hv; subst hx; subst hv; exact .int _ _
  |j+2=>simp at hx
def ve (t:Text):Bool:=Nm.valid t&&rf t
theorem OB (t:Text) (ht:t.length≤maxLen):aA E 106 [.str t] (· = .bool (ve t)):=by
 have mN:=Oz t ht;unfold vc at mN;cases h:Nm.valid t
 ·simp only [h,Bool.false_eq_true,if_false] at mN;refine eP Tryz.func106 ?_
  with_reducible refine ar (mN) ?_
  refine gO Tryz.func106 ?_;refine ba ?_;refine gO Tryz.func106 ?_;simp [ve,h]
 ·simp only [h,if_true] at mN;refine eP Tryz.func106 ?_
  with_reducible refine ar (mN) ?_
  refine gO Tryz.func106 ?_;cases hl:Nm.labels t with
  |nil =>
   refine aI rfl ?_;refine gO Tryz.func106 ?_;simp [ve,rf,h,hl]
  |cons y ys =>
   have hy:(y::ys)[0]? = some y:=rfl;refine aM (by simp) ?_;refine gO Tryz.func106 ?_;refine aF (e := .str y) (uM hy) rfl ?_;refine gO Tryz.func106 ?_;simp [ve,rf,h,hl]
def jX (n:Int):Bool:=decide (1≤n)&&decide (n≤1000000)
theorem Hy (n:Int):aA E 107 [.int .i64 n] (· = .bool (jX n)):=by
 refine eP Tryz.func107 ?_;repeat' (first | with_reducible refine cY ?_ | with_reducible refine cN ?_ | with_reducible refine aw (fun _=>?_) (fun _=>?_) | refine gA Tryz.func107 ?_ | refine gB ?_ | refine gC ?_ | with_reducible rfl)
 all_goals (simp_all [jX] <;> omega)
theorem Dg (a b:Int):eS (.int .i64 a) (.int .i64 b)=(a==b):=rfl
def xB (es:List (DV × DV)):Prop:=∀ p∈es,∃ s,p.1=DV.int .i64 s
theorem OC {n:Int} {v:DV}:∀ {es:List (DV × DV)},xB es→xB (cD (.int .i64 n) v es)
 | [],_,p,hp=>by simp [cD] at hp; subst hp; exact ⟨_,rfl⟩
 |q::es,h,p,hp=>by
  unfold cD at hp;split at hp
  ·rcases List.mem_cons.1 hp with rfl | hp
   ·exact ⟨_,rfl⟩
   ·exact h p (List.mem_cons_of_mem _ hp)
  ·rcases List.mem_cons.1 hp with rfl | hp
   ·exact h _ (List.mem_cons_self ..)
   ·exact OC (fun r hr=>h r (List.mem_cons_of_mem _ hr)) p hp
theorem OD {n m:Int} {v:DV}:∀ {es:List (DV × DV)},xB es→findD (.int .i64 m) (cD (.int .i64 n) v es)=if m==n then some v else findD (.int .i64 m) es
 | [],_=>by simp [cD,findD,Dg]
 |q::es,h=>by
  obtain ⟨s,hs⟩:=h q (List.mem_cons_self ..);obtain ⟨q1,q2⟩:=q;simp only at hs;subst hs;unfold cD;simp only [Dg];by_cases e:n=s
  ·subst e;simp only [beq_self_eq_true,if_true,findD,Dg];by_cases e2:m=n
   ·simp [e2]
   ·simp [e2]
  ·have ih:=OD (n:=n) (m:=m) (v:=v) (es:=es) (fun r hr=>h r (List.mem_cons_of_mem _ hr));have e':(n==s)=false:=by simpa using e
   simp only [e',Bool.false_eq_true,if_false,findD,Dg,ih];by_cases e2:m=s
   ·subst e2;have:(m==n)=false:=by simpa using fun h=>e h.symm
    simp [this]
   ·simp [e2]
def mf (x:Host):Bool:=Nm.valid x.name && !ve x.name&&decide (0≤x.owner)&&decide (x.owner<32)&&jX x.addr
def jb (l:List Host):Bool:=decide (l.length≤64)&&l.all mf&&decide ((l.map (·.addr)).Nodup)
def vf (l:List Host):List (DV × DV):=l.foldl (fun es x=>cD (.int .i64 x.addr) (.bool true) es) []
theorem Xw {l:List Host} {k:Nat} {x:Host} (h:l[k]? = some x):vf (l.take (k+1))=cD (.int .i64 x.addr) (.bool true) (vf (l.take k)):=by
 rw [eI h,vf,List.foldl_append];rfl
theorem OE (l:List Host):xB (vf l)∧∀ n,findD (.int .i64 n) (vf l)=if n∈l.map (·.addr) then some (.bool true) else none:=by
 have main:∀ (l:List Host) (es:List (DV × DV)) (C:List Int),xB es→(∀ n,findD (.int .i64 n) es=if n∈C then some (.bool true) else none) →
   xB (l.foldl (fun es x=>cD (.int .i64 x.addr) (.bool true) es) es)∧∀ n,findD (.int .i64 n) (l.foldl (fun es x=>cD (.int .i64 x.addr) (.bool true) es) es)=if n∈C++l.map (·.addr) then some (.bool true) else none:=by
  intro l
  induction l with
  |nil=>intro es C h1 h2; exact ⟨h1,by simpa using h2⟩
  |cons s l ih =>
   intro es C h1 h2
   have:=ih (cD (.int .i64 s.addr) (.bool true) es) (C++[s.addr]) (OC h1) (fun n=>by
    rw [OD h1,h2 n];by_cases h:n=s.addr
    ·simp [h]
    ·simp [h])
   simpa using this
 have:=main l [] [] (fun p hp=>by simp at hp) (fun n=>by simp [findD])
 simpa [vf] using this
theorem Hz {l:List Host} {k:Nat} {x:Host} (hx:l[k]? = some x) (h:mf x=false):jb l=false:=by
 have:l.all mf=false:=by
  cases ha:l.all mf
  ·rfl
  ·rw [List.all_eq_true.1 ha x (List.mem_of_getElem? hx)] at h;cases h
 simp [jb,this]
theorem OF (l:List Host) (hn:∀ x∈l,x.name.length≤maxLen):aA E 69 [.sl (l.map Host.enc)] (· = .bool (jb l)):=by
 refine eP Tryz.func69 ?_;refine aw (fun h1=>?_) (fun h1=>?_)
 ·refine gO Tryz.func69 ?_;have:jb l=false:=by simp [jb]; simp at h1; omega
  rw [this]
 ·have hlen:l.length≤64:=by simp at h1; omega
  refine gO Tryz.func69 ?_;refine gO Tryz.func69 ?_;refine aa.loop (κ:=Nat) ([2,5]++rg 12 37) (fun k=>[(12,.d (.int .i64 k)),(2,.d (.bool false)),(3,.map 0)]) (fun k=>[(0,.map (vf (l.take k)))]) (fun k=>k≤l.length∧(l.take k).all mf=true∧((l.take k).map (·.addr)).Nodup) (fun k=>l.length - k) 0 ⟨Nat.zero_le _,rfl,by simp⟩ ?_ ?_
  ·(conv=>whnf);repeat (first | exact trivial | (refine And.intro (by first | with_reducible rfl | exact congrArg (DV.int .i64) (by omega) | exact rfl | exact congrArg (DV.int .i64) (wrap64 (by omega) (by omega)) | exact congrArg (DV.int .i64) ((wrap64 (by omega) (by omega)).trans (by omega))) ?_; conv=>whnf))
  rintro k ⟨hk,aT,fm⟩ IH;refine aa.head aj Tryz.func69 2000 ?_;(conv=>whnf);refine aw (fun h5=>?_) (fun h5=>?_)
  ·have ai:k<l.length:=by simpa using h5
   obtain ⟨x,hx⟩:=aY ai;have bS:=hn x (List.mem_of_getElem? hx);refine gO Tryz.func69 ?_;refine aF (e:=x.enc) (a7 hx) rfl ?_;refine gO Tryz.func69 ?_;repeat' (first | with_reducible refine ar (lk x.name bS) ?_ | with_reducible refine bg (lk x.name bS) ?_ | with_reducible refine ar (OB x.name bS) ?_ | with_reducible refine bg (OB x.name bS) ?_ | with_reducible refine ar (Hy x.addr) ?_ | with_reducible refine bg (Hy x.addr) ?_ | with_reducible refine cY ?_ | with_reducible refine cN ?_ | with_reducible refine aw (fun _=>?_) (fun _=>?_) | refine gA Tryz.func69 ?_ | refine gB ?_ | refine gC ?_ | with_reducible rfl)
   all_goals try (rw [Hz hx (by simp_all [mf] <;> omega)]; done)
   have dr:=(OE (l.take k)).2 x.addr;have mT:=(OE (l.take k)).1;have hb:mf x=true:=by simp_all [mf]
   refine iR (.bool false) (.bool false) (v := .bool (decide (x.addr∈(l.take k).map (·.addr)))) (f:=decide (x.addr∈(l.take k).map (·.addr))) ⟨_,rfl⟩ mT (fun w=>by kernel_rfl) (fun _ _ => .bool _) (by rw [dr]; split <;> simp_all) (by rw [dr]; split <;> simp_all) ?_;refine gO Tryz.func69 ?_;refine aw (fun h9=>?_) (fun h9=>?_)
   ·refine gO Tryz.func69 ?_;have hm:x.addr∈(l.take k).map (·.addr):=by simpa using h9
    have:jb l=false:=by
     have qy:¬ (l.map (·.addr)).Nodup:=fun iu=>by
      obtain ⟨y,hy,e⟩:=List.mem_map.1 hm;obtain ⟨j,hj⟩:=List.getElem?_of_mem hy;rw [List.getElem?_take] at hj;split at hj
      ·rename_i yQ;obtain ⟨p1,e1⟩:=List.getElem?_eq_some_iff.1 hx;obtain ⟨p2,e2⟩:=List.getElem?_eq_some_iff.1 hj;have:=List.pairwise_iff_getElem.1 (List.nodup_iff_pairwise_ne.1 iu) j k (by simpa using p2) (by simpa using p1) yQ;apply this;simp [e1,e2,e]
      ·cases hj
     simp [jb,qy]
    rw [this]
   ·have hm:x.addr ∉ (l.take k).map (·.addr):=by simpa using h9
    refine gO Tryz.func69 ?_;refine bQ ⟨⟨_,rfl⟩,mT⟩ ?_;refine gO Tryz.func69 ?_;refine aa.back (IH (k+1) ⟨by omega,jx aT hx hb,?_⟩ (by omega)) ?_
    ·rw [eI hx,List.map_append,List.nodup_append];refine ⟨fm,by simp,fun a ha b sW e=>?_⟩;simp at sW;subst sW; subst e;exact hm ha
    ·(conv=>whnf);repeat (first | exact trivial | (refine sI ?_; conv=>whnf))
     refine And.intro (Xw hx).symm ?_;exact sZ
  ·have aP:l.length≤k:=by simpa using h5
   rw [List.take_of_length_le aP] at aT fm;refine gO Tryz.func69 ?_;simp [jb,aT,fm,hlen]
end Go.Proofs.YtcmnpelmmekdkaaGreatDoor.P
end
section
namespace Go.Proofs.YtcmnpelmmekdkaaGreatDoor.P
open Go Go.ax
set_option maxRecDepth 100000
set_option maxHeartbeats 4000000
theorem Xx (n:Int):aA E 110 [.int .i64 n] (· = .bool (!jX n)):=by
 refine eP Tryz.func110 ?_
 with_reducible refine ar (Hy n) ?_
 refine gO Tryz.func110 ?_
 with_reducible rfl
theorem Xy (l:List Int) (hl:l.length≤1000000):aC E 170 [] [.d (.sl (l.map (.int .i64))),.fn (.func 110) [] []] (fun a b=>∃ n:Int,a = .d (.int .i64 n)∧b=[]∧(0≤n↔l.all jX=false)):=by
 refine aC.run aj (fn:=Tryz.f170) Tryz.func170 (body:=Tryz.f170.body.getD .skip) rfl (by decide) 2000 rfl ?_;(conv=>whnf);refine aa.loop (κ:=Nat) ([4,5]++rg 8 11) (fun k=>[(8,.d (.int .i64 k))]) (fun _=>[]) (fun k=>k≤l.length∧(l.take k).all jX=true) (fun k=>l.length - k) 0 ⟨Nat.zero_le _,rfl⟩ ?_ ?_
 ·exact sZ
 rintro k ⟨hk,aT⟩ IH;refine aa.head aj Tryz.func170 2000 ?_;(conv=>whnf);refine aw (fun h5=>?_) (fun h5=>?_)
 ·have ai:k<l.length:=by simpa using h5
  obtain ⟨x,hx⟩:=aY ai;refine gO Tryz.func170 ?_;refine aF (e := .int .i64 x) (a7 hx) rfl ?_;refine gO Tryz.func170 ?_
  with_reducible refine ar (Xx x) ?_
  refine gO Tryz.func170 ?_;refine aw (fun h6=>?_) (fun h6=>?_)
  ·refine gO Tryz.func170 ?_;refine ⟨k,rfl,rfl,?_⟩;have:l.all jX=false:=by
    cases ha:l.all jX
    ·rfl
    ·have:=List.all_eq_true.1 ha x (List.mem_of_getElem? hx);simp [this] at h6
   simp [this]
  ·refine gO Tryz.func170 ?_;refine aa.back (IH (k+1) ⟨by omega,jx aT hx (by simpa using h6)⟩ (by omega)) ?_;exact sZ
 ·have aP:l.length≤k:=by simpa using h5
  rw [List.take_of_length_le aP] at aT;refine gO Tryz.func170 ?_;exact ⟨_,rfl,rfl,by simp [aT]⟩
theorem Xz (l:List Int) (hl:l.length≤1000000):aC E 109 [] [.d (.sl (l.map (.int .i64))),.fn (.func 110) [] []] (fun a b=>a = .d (.bool (!l.all jX))∧b=[]):=by
 refine aC.run aj (fn:=Tryz.f109) Tryz.func109 (body:=Tryz.f109.body.getD .skip) rfl (by decide) 2000 rfl ?_;(conv=>whnf);refine uf (Xy l hl) ?_;rintro r b ⟨n,rfl,rfl,h⟩;refine gO Tryz.func109 ?_;cases ha:l.all jX
 ·simp [h.2 ha]
 ·have:¬ 0≤n:=fun h0=>by rw [h.1 h0] at ha; cases ha
  simp; omega
def nS (a:eu) (l:List Int):Bool:=fc a&&decide (a.type=6)&&decide (a.name=[46])&&decide (1≤l.length)&&decide (l.length≤8)&&l.all jX
theorem OG (a:eu) (l:List Int) (hf:a.Fits) (hl:l.length≤maxLen):aA E 71 [a.enc,.sl (l.map (.int .i64))] (· = .bool (nS a l)):=by
 refine eP Tryz.func71 ?_;repeat' (first | with_reducible refine ar (Cv a hf) ?_ | with_reducible refine bg (Cv a hf) ?_ | with_reducible refine cY ?_ | with_reducible refine cN ?_ | with_reducible refine aw (fun _=>?_) (fun _=>?_) | refine gA Tryz.func71 ?_ | refine gB ?_ | refine gC ?_ | with_reducible rfl)
 all_goals try (simp_all [nS] <;> omega; done)
 rename_i h1 h2 h3 h4 h5;refine uf (Xz l (by simp at h5; omega)) ?_;rintro r b ⟨rfl,rfl⟩;refine gO Tryz.func71 ?_;have e1:fc a=true:=by simpa using h1
 have e2:a.type=6:=by simpa using h2
 have e3:a.name=[46]:=by simpa using h3
 have e4:1≤l.length:=by simp at h4; omega
 have e5:l.length≤8:=by simp at h5; omega
 simp [nS,e1,e2,e3,e4,e5]
end Go.Proofs.YtcmnpelmmekdkaaGreatDoor.P
end
section
namespace Go.Proofs.YtcmnpelmmekdkaaGreatDoor.P
open Go Go.ax
set_option maxRecDepth 100000
set_option maxHeartbeats 4000000
set_option linter.unusedSectionVars false
section
variable {α:Type} [DecidableEq α] {en:α→DV}
def lA (en:α→DV) (es:List (DV × DV)):Prop:=∀ p∈es,∃ a,p.1=en a
theorem Dh {b:α} {v:DV}:∀ {es:List (DV × DV)},lA en es→lA en (cD (en b) v es)
 | [],_,p,hp=>by simp [cD] at hp; subst hp; exact ⟨_,rfl⟩
 |q::es,h,p,hp=>by
  unfold cD at hp;split at hp
  ·rcases List.mem_cons.1 hp with rfl | hp
   ·exact ⟨_,rfl⟩
   ·exact h p (List.mem_cons_of_mem _ hp)
  ·rcases List.mem_cons.1 hp with rfl | hp
   ·exact h _ (List.mem_cons_self ..)
   ·exact Dh (fun r hr=>h r (List.mem_cons_of_mem _ hr)) p hp
theorem Di (hk:∀ a b,eS (en a) (en b)=decide (a=b)) {a b:α} {v:DV}:∀ {es:List (DV × DV)},lA en es→findD (en a) (cD (en b) v es)=if a=b then some v else findD (en a) es
 | [],_=>by simp [cD,findD,hk]
 |q::es,h=>by
  obtain ⟨s,hs⟩:=h q (List.mem_cons_self ..);obtain ⟨q1,q2⟩:=q;simp only at hs;subst hs;unfold cD;simp only [hk];by_cases e:b=s
  ·subst e;simp only [decide_true,if_true,findD,hk];by_cases e2:a=b
   ·simp [e2]
   ·simp [e2]
  ·have ih:=Di hk (a:=a) (b:=b) (v:=v) (es:=es) (fun r hr=>h r (List.mem_cons_of_mem _ hr));simp only [e,decide_false,Bool.false_eq_true,if_false,findD,hk,ih];by_cases e2:a=s
   ·subst e2;have:¬ a=b:=fun h=>e h.symm;simp [this]
   ·simp [e2]
def fq (en:α→DV) (l:List α):List (DV × DV):=l.foldl (fun es x=>cD (en x) (.bool true) es) []
theorem OH {l:List α} {k:Nat} {x:α} (h:l[k]? = some x):fq en (l.take (k+1))=cD (en x) (.bool true) (fq en (l.take k)):=by
 rw [eI h,fq,List.foldl_append];rfl
theorem xC (l:List α) (x:α):fq en (l++[x])=cD (en x) (.bool true) (fq en l):=by
 rw [fq,List.foldl_append];rfl
theorem pR (hk:∀ a b,eS (en a) (en b)=decide (a=b)) (l:List α):lA en (fq en l)∧∀ a,findD (en a) (fq en l)=if a∈l then some (.bool true) else none:=by
 have main:∀ (l:List α) (es:List (DV × DV)) (C:List α),lA en es→(∀ n,findD (en n) es=if n∈C then some (.bool true) else none) →
   lA en (l.foldl (fun es x=>cD (en x) (.bool true) es) es)∧∀ n,findD (en n) (l.foldl (fun es x=>cD (en x) (.bool true) es) es)=if n∈C++l then some (.bool true) else none:=by
  intro l
  induction l with
  |nil=>intro es C h1 h2; exact ⟨h1,by simpa using h2⟩
  |cons s l ih =>
   intro es C h1 h2
   have:=ih (cD (en s) (.bool true) es) (C++[s]) (Dh h1) (fun n=>by
    rw [Di hk h1,h2 n];by_cases h:n=s
    ·simp [h]
    ·simp [h])
   simpa using this
 have:=main l [] [] (fun p hp=>by simp at hp) (fun n=>by simp [findD])
 simpa [fq] using this
theorem Ar (hk:∀ a b,eS (en a) (en b)=decide (a=b)) (l:List α) (a:α):(findD (en a) (fq en l)).getD (.bool false) = .bool (decide (a∈l))∧(findD (en a) (fq en l)).isSome=decide (a∈l):=by
 rw [(pR hk l).2 a];split <;> simp_all
def fu:List α→List α→List α
 |acc,[]=>acc
 |acc,x::l=>fu (if x∈acc then acc else acc++[x]) l
theorem OI (acc l:List α) (x:α):fu acc (l++[x])=if x∈fu acc l then fu acc l else fu acc l++[x]:=by
 induction l generalizing acc with
 |nil=>rfl
 |cons y l ih =>
  show fu _ (l++[x])=_;rw [ih];rfl
theorem vg {x:α}:∀ {l acc:List α},x∈fu acc l↔x∈acc∨x∈l
 | [],acc=>by simp [fu]
 |y::l,acc=>by
  rw [fu,vg (l:=l)];split
  ·rename_i h;constructor
   ·rintro (h1 | h1)
    ·exact .inl h1
    ·exact .inr (List.mem_cons_of_mem _ h1)
   ·rintro (h1 | h1)
    ·exact .inl h1
    ·rcases List.mem_cons.1 h1 with rfl | h1
     ·exact .inl h
     ·exact .inr h1
  ·simp [or_assoc]
theorem As:∀ {l acc:List α},acc.Nodup→(fu acc l).Nodup
 | [],_,h=>h
 |y::l,acc,h=>by
  rw [fu];refine As ?_;split
  ·exact h
  ·rename_i hy;rw [List.nodup_append];exact ⟨h,by simp,fun a ha b hb e=>by simp at hb; subst hb; subst e; exact hy ha⟩
theorem HE:∀ {l acc:List α},(fu acc l).length≤acc.length+l.length
 | [],_=>by simp [fu]
 |y::l,acc=>by
  rw [fu];refine Nat.le_trans HE ?_;split <;> simp <;> omega
theorem OJ {l:List α} {k:Nat} {x:α} (h:l[k]? = some x):fu [] (l.take (k+1))=if x∈l.take k then fu [] (l.take k) else fu [] (l.take k)++[x]:=by
 rw [eI h,OI];have:=vg (x:=x) (l:=l.take k) (acc:=[]);simp only [List.not_mem_nil,false_or] at this;by_cases hx:x∈l.take k
 ·rw [if_pos hx,if_pos (this.2 hx)]
 ·rw [if_neg hx,if_neg (fun h=>hx (this.1 h))]
end
theorem rC (a b:Text):eS (.str a) (.str b)=decide (a=b):=by
 show (a==b)=_;rw [Bool.eq_iff_iff]; simp
theorem xD (a b:Int):eS (.int .i64 a) (.int .i64 b)=decide (a=b):=by
 show (a==b)=_;rw [Bool.eq_iff_iff]; simp
abbrev pS:=Int × Text
@[reducible] def pS.en (p : pS) : DV := .agg [.int .i64 p.1, .str p.2]
theorem OL (a b:pS):eS (pS.en a) (pS.en b)=decide (a=b):=by
 show (((a.1==b.1))&&((a.2==b.2)&&true))=_;rw [Bool.eq_iff_iff];simp [Prod.ext_iff]
end Go.Proofs.YtcmnpelmmekdkaaGreatDoor.P
end
