/- Lemmas of mine. Conditions: as stated. -/
import Derived.Test.YtfmdaiojokniiaaGreatDoorS10
import Derived.Test.YtfmdaiojokniiaaGreatDoorS11
set_option linter.unusedVariables false
set_option linter.unusedSimpArgs false
open Bool renaming false_eq_true->aet,eq_iff_iff->ahf
open List renaming mem_cons_of_mem->aeR,mem_cons->afu,mem_cons_self->aeQ,foldl_append->ah8,mem_of_getElem?->afh,take_of_length_le->afS,all_eq_true->ad',getElem?_eq_some_iff->ag2,nodup_append->aeK
open Nat renaming zero_le->afv
section
namespace Go.Proofs.YtfmdaiojokniiaaGreatDoor.P
open Go Go.aA
set_option maxRecDepth 100000
set_option maxHeartbeats 4000000
def vI(t:Text):Bool:=Nm.valid t&&l5 t
theorem NF(t:Text)(ht:t.length<=maxLen):ar E 218 [.str t] (· = .bool (vI t)):=by
 have nI:=GK t ht;unfold Ag at nI;cases h:Nm.valid t
 ·simp only[h,aet,if_false]at nI;refine eP F218 ?_
  with_reducible refine aq (nI) ?_
  refine gO F218 ?_;refine aR ?_;refine gO F218 ?_;simp[vI,h]
 ·simp only[h,if_true]at nI;refine eP F218 ?_
  with_reducible refine aq (nI) ?_
  refine gO F218 ?_;cases hl:Nm.labels t with
  |nil =>
   refine aU rfl ?_;refine gO F218 ?_;simp[vI,l5,h,hl]
  |cons y ys =>
   have hy:(y::ys)[0]?=some y:=rfl;refine aY (by simp) ?_;refine gO F218 ?_;refine aD (e := .str y) (tg hy) rfl ?_;refine gO F218 ?_;simp[vI,l5,h,hl]
def kG(n:Int):Bool:=decide (1<=n)&&decide (n<=1000000)
theorem Hy(n:Int):ar E 219 [.int .i64 n] (· = .bool (kG n)):=by
 refine eP Tryz.func219 ?_;repeat' (first|with_reducible(first|refine cY ?_|refine cN ?_|refine ai (fun _=>?_) (fun _=>?_))|refine gA Tryz.func219 ?_|refine gB ?_|with_reducible rfl)
 all_goals (simp_all[kG]<;>omega)
theorem Dj(a b:Int):eL (.int .i64 a) (.int .i64 b)=(a==b):=rfl
def x5(es:List (DV × DV)):Prop:=∀ p∈es,∃ s,p.1=DV.int .i64 s
theorem NG{n:Int}{v:DV}:∀ {es:List (DV × DV)},x5 es->x5 (bW (.int .i64 n) v es)
 |[],_,p,hp=>by simp[bW]at hp;subst hp;exact⟨_,rfl⟩
 |q::es,h,p,hp=>by
  unfold bW at hp;split at hp
  ·rcases afu.1 hp with rfl|hp
   ·exact⟨_,rfl⟩
   ·exact h p (aeR _ hp)
  ·rcases afu.1 hp with rfl|hp
   ·exact h _ (aeQ ..)
   ·exact NG (fun r hr=>h r (aeR _ hr)) p hp
theorem NH{n m:Int}{v:DV}:∀ {es:List (DV × DV)},x5 es->findD (.int .i64 m) (bW (.int .i64 n) v es)=if m==n then some v else findD (.int .i64 m) es
 |[],_=>by simp[bW,findD,Dj]
 |q::es,h=>by
  obtain⟨s,hs⟩:=h q (aeQ ..);obtain⟨q1,q2⟩:=q;simp only at hs;subst hs;unfold bW;simp only[Dj];by_cases e:n=s
  ·subst e;simp only[beq_self_eq_true,if_true,findD,Dj];by_cases e2:m=n
   ·simp[e2]
   ·simp[e2]
  ·have ih:=NH (n:=n) (m:=m) (v:=v) (es:=es) (fun r hr=>h r (aeR _ hr));have e':(n==s)=false:=by simpa using e
   simp only[e',aet,if_false,findD,Dj,ih];by_cases e2:m=s
   ·subst e2;have:(m==n)=false:=by simpa using fun h=>e h.symm
    simp[this]
   ·simp[e2]
def nL(x:Host):Bool:=Nm.valid x.name && !vI x.name&&decide (0<=x.owner)&&decide (x.owner<32)&&kG x.addr
def fD(l:List Host):Bool:=decide (l.length<=64)&&l.all nL&&decide ((l.map (·.addr)).Nodup)
def vJ(l:List Host):List (DV × DV):=l.foldl (fun es x=>bW (.int .i64 x.addr) (.bool true) es) []
theorem WA{l:List Host}{k:Nat}{x:Host}(h:l[k]?=some x):vJ (l.take (k+1))=bW (.int .i64 x.addr) (.bool true) (vJ (l.take k)):=by
 rw[cG h,vJ,ah8];rfl
theorem NI(l:List Host):x5 (vJ l)/\∀ n,findD (.int .i64 n) (vJ l)=if n∈l.map (·.addr)then some (.bool true)else none:=by
 have main:∀ (l:List Host) (es:List (DV × DV)) (C:List Int),x5 es->(∀ n,findD (.int .i64 n) es=if n∈C then some (.bool true)else none) ->
   x5 (l.foldl (fun es x=>bW (.int .i64 x.addr) (.bool true) es) es)/\∀ n,findD (.int .i64 n) (l.foldl (fun es x=>bW (.int .i64 x.addr) (.bool true) es) es)=if n∈C++l.map (·.addr)then some (.bool true)else none:=by
  intro l
  induction l with
  |nil=>intro es C h1 h2;exact⟨h1,by simpa using h2⟩
  |cons s l ih =>
   intro es C h1 h2
   have:=ih (bW (.int .i64 s.addr) (.bool true) es) (C++[s.addr]) (NG h1) (fun n=>by
    rw[NH h1,h2 n];by_cases h:n=s.addr
    ·simp[h]
    ·simp[h])
   simpa using this
 have:=main l [] [] (fun p hp=>by simp at hp) (fun n=>by simp[findD])
 simpa [vJ]using this
theorem Hz{l:List Host}{k:Nat}{x:Host}(hx:l[k]?=some x)(h:nL x=false):fD l=false:=by
 have:l.all nL=false:=by
  cases ha:l.all nL
  ·rfl
  ·rw[ad'.1 ha x (afh hx)]at h;cases h
 simp[fD,this]
theorem Dk(l:List Host)(hn:∀ x∈l,x.name.length<=maxLen):ar E 148 [.sl (l.map Host.enc)] (· = .bool (fD l)):=by
 refine eP F148 ?_;refine ai (fun h1=>?_) (fun h1=>?_)
 ·refine gO F148 ?_;have:fD l=false:=by simp[fD];simp at h1;omega
  rw[this]
 ·have hlen:l.length<=64:=by simp at h1;omega
  refine gO F148 ?_;refine gO F148 ?_;refine J.loop (κ:=Nat) ([2,5]++rg 12 37) (fun k=>[(12,.d (.int .i64 k)),(2,.d (.bool false)),(3,.map 0)]) (fun k=>[(0,.map (vJ (l.take k)))]) (fun k=>k<=l.length/\(l.take k).all nL=true/\((l.take k).map (·.addr)).Nodup) (fun k=>l.length-k) 0 ⟨afv _,rfl,by simp⟩ ?_ ?_
  ·(conv=>whnf);repeat (first|exact trivial|(refine And.intro (by first|with_reducible rfl|exact congrArg (DV.int .i64) (by omega)|exact rfl|exact congrArg (DV.int .i64) (wrap64 (by omega) (by omega))|exact congrArg (DV.int .i64) ((wrap64 (by omega) (by omega)).trans (by omega))) ?_;conv=>whnf))
  rintro k ⟨hk,aL,c8⟩ IH;refine J.head ag F148 2000 ?_;(conv=>whnf);refine ai (fun h5=>?_) (fun h5=>?_)
  ·have ah:k<l.length:=by simpa using h5
   obtain⟨x,hx⟩:=aH ah;have ib:=hn x (afh hx);refine gO F148 ?_;refine aD (e:=x.enc) (aO hx) rfl ?_;refine gO F148 ?_;repeat' (first|with_reducible(first|refine aq (gU x.name ib) ?_|refine ax (gU x.name ib) ?_|refine aq (NF x.name ib) ?_|refine ax (NF x.name ib) ?_|refine aq (Hy x.addr) ?_|refine ax (Hy x.addr) ?_|refine cY ?_|refine cN ?_|refine ai (fun _=>?_) (fun _=>?_))|refine gA F148 ?_|refine gB ?_|with_reducible rfl)
   all_goals try (rw[Hz hx (by simp_all[nL]<;>omega)];done)
   have pc:=(NI (l.take k)).2 x.addr;have fC:=(NI (l.take k)).1;have hb:nL x=true:=by simp_all[nL]
   refine oX (.bool false) (.bool false) (v := .bool (decide (x.addr∈(l.take k).map (·.addr)))) (f:=decide (x.addr∈(l.take k).map (·.addr))) ⟨_,rfl⟩ fC (fun w=>by kernel_rfl) (fun _ _ => .bool _) (by rw[pc];split<;>simp_all) (by rw[pc];split<;>simp_all) ?_;refine gO F148 ?_;refine ai (fun h9=>?_) (fun h9=>?_)
   ·refine gO F148 ?_;have hm:x.addr∈(l.take k).map (·.addr):=by simpa using h9
    have:fD l=false:=by
     have qI:¬ (l.map (·.addr)).Nodup:=fun jn=>by
      obtain⟨y,hy,e⟩:=List.mem_map.1 hm;obtain⟨j,hj⟩:=List.getElem?_of_mem hy;rw[List.getElem?_take]at hj;split at hj
      ·rename_i lM;obtain⟨p1,e1⟩:=ag2.1 hx;obtain⟨p2,e2⟩:=ag2.1 hj;have:=List.pairwise_iff_getElem.1 (List.nodup_iff_pairwise_ne.1 jn) j k (by simpa using p2) (by simpa using p1) lM;apply this;simp[e1,e2,e]
      ·cases hj
     simp[fD,qI]
    rw[this]
   ·have hm:x.addr ∉ (l.take k).map (·.addr):=by simpa using h9
    refine gO F148 ?_;refine aW ⟨⟨_,rfl⟩,fC⟩ ?_;refine gO F148 ?_;refine J.back (IH (k+1) ⟨by omega,dv aL hx hb,?_⟩ (by omega)) ?_
    ·rw[cG hx,List.map_append,aeK];refine⟨c8,by simp,fun a ha b kH e=>?_⟩;simp at kH;subst kH;subst e;exact hm ha
    ·(conv=>whnf);repeat (first|exact trivial|(refine sI ?_;conv=>whnf))
     refine And.intro (WA hx).symm ?_;exact sZ
  ·have aC:l.length<=k:=by simpa using h5
   rw[afS aC]at aL c8;refine gO F148 ?_;simp[fD,aL,c8,hlen]
end Go.Proofs.YtfmdaiojokniiaaGreatDoor.P
end
section
namespace Go.Proofs.YtfmdaiojokniiaaGreatDoor.P
open Go Go.aA
set_option maxRecDepth 100000
set_option maxHeartbeats 4000000
theorem WB(n:Int):ar E 222 [.int .i64 n] (· = .bool (!kG n)):=by
 refine eP Tryz.func222 ?_
 with_reducible refine aq (Hy n) ?_
 refine gO Tryz.func222 ?_
 with_reducible rfl
theorem WC(l:List Int)(hl:l.length<=1000000):aw E 281 [] [.d (.sl (l.map (.int .i64))),.fn (.func 222) [] []] (fun a b=>∃ n:Int,a=.d (.int .i64 n)/\b=[]/\(0<=n↔l.all kG=false)):=by
 refine aw.run ag (fn:=Tryz.f281) Tryz.func281 (body:=Tryz.f281.body.getD .skip) rfl (by decide) 2000 rfl ?_;(conv=>whnf);refine J.loop (κ:=Nat) ([4,5]++rg 8 11) (fun k=>[(8,.d (.int .i64 k))]) (fun _=>[]) (fun k=>k<=l.length/\(l.take k).all kG=true) (fun k=>l.length-k) 0 ⟨afv _,rfl⟩ ?_ ?_
 ·exact sZ
 rintro k ⟨hk,aL⟩ IH;refine J.head ag F281 2000 ?_;(conv=>whnf);refine ai (fun h5=>?_) (fun h5=>?_)
 ·have ah:k<l.length:=by simpa using h5
  obtain⟨x,hx⟩:=aH ah;refine gO F281 ?_;refine aD (e := .int .i64 x) (aO hx) rfl ?_;refine gO F281 ?_
  with_reducible refine aq (WB x) ?_
  refine gO F281 ?_;refine ai (fun h6=>?_) (fun h6=>?_)
  ·refine gO F281 ?_;refine⟨k,rfl,rfl,?_⟩;have:l.all kG=false:=by
    cases ha:l.all kG
    ·rfl
    ·have:=ad'.1 ha x (afh hx);simp[this]at h6
   simp[this]
  ·refine gO F281 ?_;refine J.back (IH (k+1) ⟨by omega,dv aL hx (by simpa using h6)⟩ (by omega)) ?_;exact sZ
 ·have aC:l.length<=k:=by simpa using h5
  rw[afS aC]at aL;refine gO F281 ?_;exact⟨_,rfl,rfl,by simp[aL]⟩
theorem WD(l:List Int)(hl:l.length<=1000000):aw E 221 [] [.d (.sl (l.map (.int .i64))),.fn (.func 222) [] []] (fun a b=>a=.d (.bool (!l.all kG))/\b=[]):=by
 refine aw.run ag (fn:=Tryz.f221) Tryz.func221 (body:=Tryz.f221.body.getD .skip) rfl (by decide) 2000 rfl ?_;(conv=>whnf);refine jK (WC l hl) ?_;rintro r b ⟨n,rfl,rfl,h⟩;refine gO Tryz.func221 ?_;cases ha:l.all kG
 ·simp[h.2 ha]
 ·have:¬ 0<=n:=fun h0=>by rw[h.1 h0]at ha;cases ha
  simp;omega
def jo(a:cM)(l:List Int):Bool:=er a&&decide (a.type=6)&&decide (a.name=[46])&&decide (1<=l.length)&&decide (l.length<=8)&&l.all kG
theorem Dl(a:cM)(l:List Int)(hf:a.Fits)(hl:l.length<=maxLen):ar E 150 [a.enc,.sl (l.map (.int .i64))] (· = .bool (jo a l)):=by
 refine eP Tryz.func150 ?_;repeat' (first|with_reducible(first|refine aq (tp a hf) ?_|refine ax (tp a hf) ?_|refine cY ?_|refine cN ?_|refine ai (fun _=>?_) (fun _=>?_))|refine gA Tryz.func150 ?_|refine gB ?_|with_reducible rfl)
 all_goals try (simp_all[jo]<;>omega;done)
 rename_i h1 h2 h3 h4 h5;refine jK (WD l (by simp at h5;omega)) ?_;rintro r b ⟨rfl,rfl⟩;refine gO Tryz.func150 ?_;have e1:er a=true:=by simpa using h1
 have e2:a.type=6:=by simpa using h2
 have e3:a.name=[46]:=by simpa using h3
 have e4:1<=l.length:=by simp at h4;omega
 have e5:l.length<=8:=by simp at h5;omega
 simp[jo,e1,e2,e3,e4,e5]
theorem NJ(hs:List Host)(a:cM)(l:List Int):ar E 149 [.agg [.sl (hs.map Host.enc),.aI,.str a.name,.int .i64 a.type,.int .i64 a.bY,pX a.data,.sl (l.map (.int .i64))]] (· = .bool true):=by
 refine eP F149 ?_;refine aU (by decide) ?_;refine gO F149 ?_;refine gO F149 ?_;refine gO F149 ?_;refine J.mB ?_;refine J.run ag F149 2000 ?_;(conv=>whnf);refine aU (by decide) ?_;refine gO F149 ?_;refine gO F149 ?_;simp
theorem NK(hs:List Host)(a:cM)(l:List Int)(hn:∀ x∈hs,x.name.length<=maxLen)(hf:a.Fits)(hl:l.length<=maxLen):ar E 78 [.agg [.sl (hs.map Host.enc),.aI,.str a.name,.int .i64 a.type,.int .i64 a.bY,pX a.data,.sl (l.map (.int .i64))]] (· = .bool (fD hs&&jo a l)):=by
 refine eP Tryz.func78 ?_;repeat' (first|with_reducible(first|refine aq (Dk hs hn) ?_|refine ax (Dk hs hn) ?_|refine aq (NJ hs a l) ?_|refine ax (NJ hs a l) ?_|refine aq (Dl a l hf hl) ?_|refine ax (Dl a l hf hl) ?_|refine cY ?_|refine cN ?_|refine ai (fun _=>?_) (fun _=>?_))|refine gA Tryz.func78 ?_|refine gB ?_|with_reducible rfl)
 all_goals simp_all
end Go.Proofs.YtfmdaiojokniiaaGreatDoor.P
end
section
namespace Go.Proofs.YtfmdaiojokniiaaGreatDoor.P
open Go Go.aA
set_option maxRecDepth 100000
set_option maxHeartbeats 4000000
set_option linter.unusedSectionVars false
section
variable {α:Type} [DecidableEq α] {en:α->DV}
def mP(en:α->DV)(es:List (DV × DV)):Prop:=∀ p∈es,∃ a,p.1=en a
theorem HA{b:α}{v:DV}:∀ {es:List (DV × DV)},mP en es->mP en (bW (en b) v es)
 |[],_,p,hp=>by simp[bW]at hp;subst hp;exact⟨_,rfl⟩
 |q::es,h,p,hp=>by
  unfold bW at hp;split at hp
  ·rcases afu.1 hp with rfl|hp
   ·exact⟨_,rfl⟩
   ·exact h p (aeR _ hp)
  ·rcases afu.1 hp with rfl|hp
   ·exact h _ (aeQ ..)
   ·exact HA (fun r hr=>h r (aeR _ hr)) p hp
theorem HB(hk:∀ a b,eL (en a) (en b)=decide (a=b)){a b:α}{v:DV}:∀ {es:List (DV × DV)},mP en es->findD (en a) (bW (en b) v es)=if a=b then some v else findD (en a) es
 |[],_=>by simp[bW,findD,hk]
 |q::es,h=>by
  obtain⟨s,hs⟩:=h q (aeQ ..);obtain⟨q1,q2⟩:=q;simp only at hs;subst hs;unfold bW;simp only[hk];by_cases e:b=s
  ·subst e;simp only[decide_true,if_true,findD,hk];by_cases e2:a=b
   ·simp[e2]
   ·simp[e2]
  ·have ih:=HB hk (a:=a) (b:=b) (v:=v) (es:=es) (fun r hr=>h r (aeR _ hr));simp only[e,decide_false,aet,if_false,findD,hk,ih];by_cases e2:a=s
   ·subst e2;have:¬ a=b:=fun h=>e h.symm;simp[this]
   ·simp[e2]
def ev(en:α->DV)(l:List α):List (DV × DV):=l.foldl (fun es x=>bW (en x) (.bool true) es) []
theorem HC{l:List α}{k:Nat}{x:α}(h:l[k]?=some x):ev en (l.take (k+1))=bW (en x) (.bool true) (ev en (l.take k)):=by
 rw[cG h,ev,ah8];rfl
theorem tH(l:List α)(x:α):ev en (l++[x])=bW (en x) (.bool true) (ev en l):=by
 rw[ev,ah8];rfl
theorem oG(hk:∀ a b,eL (en a) (en b)=decide (a=b))(l:List α):mP en (ev en l)/\∀ a,findD (en a) (ev en l)=if a∈l then some (.bool true)else none:=by
 have main:∀ (l:List α) (es:List (DV × DV)) (C:List α),mP en es->(∀ n,findD (en n) es=if n∈C then some (.bool true)else none) ->
   mP en (l.foldl (fun es x=>bW (en x) (.bool true) es) es)/\∀ n,findD (en n) (l.foldl (fun es x=>bW (en x) (.bool true) es) es)=if n∈C++l then some (.bool true)else none:=by
  intro l
  induction l with
  |nil=>intro es C h1 h2;exact⟨h1,by simpa using h2⟩
  |cons s l ih =>
   intro es C h1 h2
   have:=ih (bW (en s) (.bool true) es) (C++[s]) (HA h1) (fun n=>by
    rw[HB hk h1,h2 n];by_cases h:n=s
    ·simp[h]
    ·simp[h])
   simpa using this
 have:=main l [] [] (fun p hp=>by simp at hp) (fun n=>by simp[findD])
 simpa [ev]using this
theorem vK(hk:∀ a b,eL (en a) (en b)=decide (a=b))(l:List α)(a:α):(findD (en a) (ev en l)).getD (.bool false)=.bool (decide (a∈l))/\(findD (en a) (ev en l)).isSome=decide (a∈l):=by
 rw[(oG hk l).2 a];split<;>simp_all
def eI:List α->List α->List α
 |acc,[]=>acc
 |acc,x::l=>eI (if x∈acc then acc else acc++[x]) l
theorem NL(acc l:List α)(x:α):eI acc (l++[x])=if x∈eI acc l then eI acc l else eI acc l++[x]:=by
 induction l generalizing acc with
 |nil=>rfl
 |cons y l ih =>
  show eI _ (l++[x])=_;rw[ih];rfl
theorem AG{x:α}:∀ {l acc:List α},x∈eI acc l↔x∈acc\/x∈l
 |[],acc=>by simp[eI]
 |y::l,acc=>by
  rw[eI,AG (l:=l)];split
  ·rename_i h;constructor
   ·rintro(h1|h1)
    ·exact .inl h1
    ·exact .inr (aeR _ h1)
   ·rintro(h1|h1)
    ·exact .inl h1
    ·rcases afu.1 h1 with rfl|h1
     ·exact .inl h
     ·exact .inr h1
  ·simp[or_assoc]
theorem HD:∀ {l acc:List α},acc.Nodup->(eI acc l).Nodup
 |[],_,h=>h
 |y::l,acc,h=>by
  rw[eI];refine HD ?_;split
  ·exact h
  ·rename_i hy;rw[aeK];exact⟨h,by simp,fun a ha b hb e=>by simp at hb;subst hb;subst e;exact hy ha⟩
theorem Dm:∀ {l acc:List α},(eI acc l).length<=acc.length+l.length
 |[],_=>by simp[eI]
 |y::l,acc=>by
  rw[eI];refine Nat.le_trans Dm ?_;split<;>simp<;>omega
theorem WE{a b:List α}(ha:a.Nodup)(hb:b.Nodup)(h:∀ x,x∈a↔x∈b):a.length=b.length:=((List.perm_ext_iff_of_nodup ha hb).2 h).length_eq
theorem NM{l:List α}{k:Nat}{x:α}(h:l[k]?=some x):eI [] (l.take (k+1))=if x∈l.take k then eI [] (l.take k)else eI [] (l.take k)++[x]:=by
 rw[cG h,NL];have:=AG (x:=x) (l:=l.take k) (acc:=[]);simp only[List.not_mem_nil,false_or]at this;by_cases hx:x∈l.take k
 ·rw[if_pos hx,if_pos (this.2 hx)]
 ·rw[if_neg hx,if_neg (fun h=>hx (this.1 h))]
end
theorem x6(a b:Text):eL (.str a) (.str b)=decide (a=b):=by
 show(a==b)=_;rw[ahf];simp
theorem NN(a b:Int):eL (.int .i64 a) (.int .i64 b)=decide (a=b):=by
 show(a==b)=_;rw[ahf];simp
abbrev cH:=Int × Text
@[reducible] def cH.en (p : cH) : DV := .agg [.int .i64 p.1, .str p.2]
theorem qm(a b:cH):eL (cH.en a) (cH.en b)=decide (a=b):=by
 show(((a.1==b.1))&&((a.2==b.2)&&true))=_;rw[ahf];simp[Prod.ext_iff]
theorem WG(c:aQ):ar E 103 [c.enc] (· = .str c.au.ao):=by
 refine eP Tryz.func103 ?_
 with_reducible rfl
theorem WH(l:List aQ)(hl:l.length<=1000000):aw E 102 [] [.d (.sl (l.map aQ.enc)),.fn (.func 103) [] []] (fun a b=>∃ es,a=.own 1 1/\b=[.map es,.arr 1 (9,1) ((eI [] (l.map (·.au.ao))).map .str)]):=by
 generalize hT:l.map (·.au.ao)=T;have Dn:T.length=l.length:=by rw[<- hT];simp
 refine aw.run ag (fn:=Tryz.f102) Tryz.func102 (body:=Tryz.f102.body.getD .skip) rfl (by decide) 2000 rfl ?_;(conv=>whnf);refine gO F102 ?_;refine gO F102 ?_;refine J.wX 6 (9,1) (by decide) rfl ?_;refine gO F102 ?_;refine J.loop (κ:=Nat) ([6,8,9]++rg 13 18) (fun k=>[(13,.d (.int .i64 k)),(6,.own 1 1),(5,.map 0)]) (fun k=>[(0,.map (ev DV.str (eI [] (T.take k)))),(1,.arr 1 (9,1) ((eI [] (T.take k)).map .str))]) (fun k=>k<=l.length) (fun k=>l.length-k) 0 (afv _) ?_ ?_
 ·(conv=>whnf);repeat (first|exact trivial|(refine sI ?_;conv=>whnf))
  refine And.intro rfl ?_;(conv=>whnf);repeat (first|exact trivial|(refine sI ?_;conv=>whnf))
  refine And.intro rfl ?_;exact sZ
 intro k hk IH;refine J.head ag F102 2000 ?_;(conv=>whnf);refine ai (fun h5=>?_) (fun h5=>?_)
 ·have ah:k<l.length:=by simpa using h5
  obtain⟨c,hc⟩:=aH ah;have HE:T[k]?=some c.au.ao:=by rw[<- hT];simp[hc]
  have WI:=Dm (l:=T.take k) (acc:=[]);obtain⟨gJ,jq⟩:=vK x6 (eI [] (T.take k)) c.au.ao;have fC:=(oG x6 (eI [] (T.take k))).1;refine gO F102 ?_;refine aD (e:=c.enc) (aO hc) rfl ?_;refine gO F102 ?_
  with_reducible refine aq (WG c) ?_
  refine gO F102 ?_;refine oX (.bool false) (.bool false) ⟨_,rfl⟩ fC (fun w=>by kernel_rfl) (fun _ _ => .bool _) gJ jq ?_;refine gO F102 ?_;have aG:=NM HE;by_cases hm:c.au.ao∈eI [] (T.take k)
  ·refine aU (by simp[hm]) ?_;refine gO F102 ?_;refine J.back (IH (k+1) (by omega) (by omega)) ?_;have HF:c.au.ao∈T.take k:=by rw[AG]at hm;simpa using hm
   rw[if_pos HF]at aG;rw[aG];exact sZ
  ·refine aY (by simp[hm]) ?_;refine gO F102 ?_;refine aW ⟨⟨_,rfl⟩,fC⟩ ?_;refine gO F102 ?_;refine aW ⟨by simp at WI ⊢;omega,by simp[DV.cells]⟩ ?_;refine gO F102 ?_;refine J.back (IH (k+1) (by omega) (by omega)) ?_;have HF:¬ c.au.ao∈T.take k:=by rw[AG]at hm;simpa using hm
   rw[if_neg HF]at aG;rw[aG];(conv=>whnf);repeat (first|exact trivial|(refine sI ?_;conv=>whnf))
   refine And.intro (tH _ _).symm ?_;(conv=>whnf);repeat (first|exact trivial|(refine sI ?_;conv=>whnf))
   refine And.intro (by simp) ?_;exact sZ
 ·have aC:l.length<=k:=by simpa using h5
  rw[afS (by omega)];refine gO F102 ?_;exact⟨_,rfl,rfl⟩
end Go.Proofs.YtfmdaiojokniiaaGreatDoor.P
end
