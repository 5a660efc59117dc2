/- Lemmas of mine. Conditions: as stated. -/
import Derived.Test.YtfmdaiojokniiaaGreatDoorU7
import Derived.Test.YtfmdaiojokniiaaGreatDoorU8
set_option linter.unusedVariables false
set_option linter.unusedSimpArgs false
section
namespace Go.Proofs.YtfmdaiojokniiaaGreatDoor.P
open Go Go.ay
set_option maxRecDepth 100000
set_option maxHeartbeats 4000000
def vn(t:Text):Bool:=Nm.valid t&&lM t
theorem MJ(t:Text)(ht:t.length<=maxLen):aq E 218 [.str t] (· = .bool (vn t)):=by
 have nu:=Ga t ht;unfold zO at nu;cases h:Nm.valid t
 ·simp only[h,Bool.false_eq_true,if_false]at nu;refine eP F218 ?_
  with_reducible refine ao (nu) ?_
  refine gO F218 ?_;refine aR ?_;refine gO F218 ?_;simp[vn,h]
 ·simp only[h,if_true]at nu;refine eP F218 ?_
  with_reducible refine ao (nu) ?_
  refine gO F218 ?_;cases hl:Nm.labels t with
  |nil =>
   refine aW rfl ?_;refine gO F218 ?_;simp[vn,lM,h,hl]
  |cons y ys =>
   have hy:(y::ys)[0]?=some y:=rfl;refine aU (by simp) ?_;refine gO F218 ?_;refine aB (e := .str y) (sP hy) rfl ?_;refine gO F218 ?_;simp[vn,lM,h,hl]
def kf(n:Int):Bool:=decide (1<=n)&&decide (n<=1000000)
theorem GW(n:Int):aq E 219 [.int .i64 n] (· = .bool (kf n)):=by
 refine eP Tryz.func219 ?_;repeat' (first|with_reducible(first|refine cY ?_|refine cN ?_|refine ai (fun _=>?_) (fun _=>?_))|refine gA Tryz.func219 ?_|refine gB ?_|with_reducible rfl)
 all_goals (simp_all[kf]<;>omega)
theorem CV(a b:Int):eE (.int .i64 a) (.int .i64 b)=(a==b):=rfl
def xI(es:List (DV × DV)):Prop:=∀ p∈es,∃ s,p.1=DV.int .i64 s
theorem MK{n:Int}{v:DV}:∀ {es:List (DV × DV)},xI es->xI (bU (.int .i64 n) v es)
 |[],_,p,hp=>by simp[bU]at hp;subst hp;exact⟨_,rfl⟩
 |q::es,h,p,hp=>by
  unfold bU at hp;split at hp
  ·rcases List.mem_cons.1 hp with rfl|hp
   ·exact⟨_,rfl⟩
   ·exact h p (List.mem_cons_of_mem _ hp)
  ·rcases List.mem_cons.1 hp with rfl|hp
   ·exact h _ (List.mem_cons_self ..)
   ·exact MK (fun r hr=>h r (List.mem_cons_of_mem _ hr)) p hp
theorem ML{n m:Int}{v:DV}:∀ {es:List (DV × DV)},xI es->findD (.int .i64 m) (bU (.int .i64 n) v es)=if m==n then some v else findD (.int .i64 m) es
 |[],_=>by simp[bU,findD,CV]
 |q::es,h=>by
  obtain⟨s,hs⟩:=h q (List.mem_cons_self ..);obtain⟨q1,q2⟩:=q;simp only at hs;subst hs;unfold bU;simp only[CV];by_cases e:n=s
  ·subst e;simp only[beq_self_eq_true,if_true,findD,CV];by_cases e2:m=n
   ·simp[e2]
   ·simp[e2]
  ·have ih:=ML (n:=n) (m:=m) (v:=v) (es:=es) (fun r hr=>h r (List.mem_cons_of_mem _ hr));have e':(n==s)=false:=by simpa using e
   simp only[e',Bool.false_eq_true,if_false,findD,CV,ih];by_cases e2:m=s
   ·subst e2;have:(m==n)=false:=by simpa using fun h=>e h.symm
    simp[this]
   ·simp[e2]
def nx(x:Host):Bool:=Nm.valid x.name && !vn x.name&&decide (0<=x.owner)&&decide (x.owner<32)&&kf x.addr
def gy(l:List Host):Bool:=decide (l.length<=64)&&l.all nx&&decide ((l.map (·.addr)).Nodup)
def vp(l:List Host):List (DV × DV):=l.foldl (fun es x=>bU (.int .i64 x.addr) (.bool true) es) []
theorem Vw{l:List Host}{k:Nat}{x:Host}(h:l[k]?=some x):vp (l.take (k+1))=bU (.int .i64 x.addr) (.bool true) (vp (l.take k)):=by
 rw[cK h,vp,List.foldl_append];rfl
theorem MM(l:List Host):xI (vp l)/\∀ n,findD (.int .i64 n) (vp l)=if n∈l.map (·.addr)then some (.bool true)else none:=by
 have main:∀ (l:List Host) (es:List (DV × DV)) (C:List Int),xI es->(∀ n,findD (.int .i64 n) es=if n∈C then some (.bool true)else none) ->
   xI (l.foldl (fun es x=>bU (.int .i64 x.addr) (.bool true) es) es)/\∀ n,findD (.int .i64 n) (l.foldl (fun es x=>bU (.int .i64 x.addr) (.bool true) es) es)=if n∈C++l.map (·.addr)then some (.bool true)else none:=by
  intro l
  induction l with
  |nil=>intro es C h1 h2;exact⟨h1,by simpa using h2⟩
  |cons s l ih =>
   intro es C h1 h2
   have:=ih (bU (.int .i64 s.addr) (.bool true) es) (C++[s.addr]) (MK h1) (fun n=>by
    rw[ML h1,h2 n];by_cases h:n=s.addr
    ·simp[h]
    ·simp[h])
   simpa using this
 have:=main l [] [] (fun p hp=>by simp at hp) (fun n=>by simp[findD])
 simpa [vp]using this
theorem GX{l:List Host}{k:Nat}{x:Host}(hx:l[k]?=some x)(h:nx x=false):gy l=false:=by
 have:l.all nx=false:=by
  cases ha:l.all nx
  ·rfl
  ·rw[List.all_eq_true.1 ha x (List.mem_of_getElem? hx)]at h;cases h
 simp[gy,this]
theorem CW(l:List Host)(hn:∀ x∈l,x.name.length<=maxLen):aq E 148 [.sl (l.map Host.enc)] (· = .bool (gy l)):=by
 refine eP F148 ?_;refine ai (fun h1=>?_) (fun h1=>?_)
 ·refine gO F148 ?_;have:gy l=false:=by simp[gy];simp at h1;omega
  rw[this]
 ·have hlen:l.length<=64:=by simp at h1;omega
  refine gO F148 ?_;refine gO F148 ?_;refine I.loop (κ:=Nat) ([2,5]++rg 12 37) (fun k=>[(12,.d (.int .i64 k)),(2,.d (.bool false)),(3,.map 0)]) (fun k=>[(0,.map (vp (l.take k)))]) (fun k=>k<=l.length/\(l.take k).all nx=true/\((l.take k).map (·.addr)).Nodup) (fun k=>l.length-k) 0 ⟨Nat.zero_le _,rfl,by simp⟩ ?_ ?_
  ·(conv=>whnf);repeat (first|exact trivial|(refine And.intro (by first|with_reducible rfl|exact congrArg (DV.int .i64) (by omega)|exact rfl|exact congrArg (DV.int .i64) (wrap64 (by omega) (by omega))|exact congrArg (DV.int .i64) ((wrap64 (by omega) (by omega)).trans (by omega))) ?_;conv=>whnf))
  rintro k ⟨hk,aJ,cX⟩ IH;refine I.head ab F148 2000 ?_;(conv=>whnf);refine ai (fun h5=>?_) (fun h5=>?_)
  ·have ah:k<l.length:=by simpa using h5
   obtain⟨x,hx⟩:=aG ah;have gS:=hn x (List.mem_of_getElem? hx);refine gO F148 ?_;refine aB (e:=x.enc) (aN hx) rfl ?_;refine gO F148 ?_;repeat' (first|with_reducible(first|refine ao (gG x.name gS) ?_|refine au (gG x.name gS) ?_|refine ao (MJ x.name gS) ?_|refine au (MJ x.name gS) ?_|refine ao (GW x.addr) ?_|refine au (GW x.addr) ?_|refine cY ?_|refine cN ?_|refine ai (fun _=>?_) (fun _=>?_))|refine gA F148 ?_|refine gB ?_|with_reducible rfl)
   all_goals try (rw[GX hx (by simp_all[nx]<;>omega)];done)
   have oW:=(MM (l.take k)).2 x.addr;have fp:=(MM (l.take k)).1;have hb:nx x=true:=by simp_all[nx]
   refine oK (.bool false) (.bool false) (v := .bool (decide (x.addr∈(l.take k).map (·.addr)))) (f:=decide (x.addr∈(l.take k).map (·.addr))) ⟨_,rfl⟩ fp (fun w=>by kernel_rfl) (fun _ _ => .bool _) (by rw[oW];split<;>simp_all) (by rw[oW];split<;>simp_all) ?_;refine gO F148 ?_;refine ai (fun h9=>?_) (fun h9=>?_)
   ·refine gO F148 ?_;have hm:x.addr∈(l.take k).map (·.addr):=by simpa using h9
    have:gy l=false:=by
     have qp:¬ (l.map (·.addr)).Nodup:=fun jc=>by
      obtain⟨y,hy,e⟩:=List.mem_map.1 hm;obtain⟨j,hj⟩:=List.getElem?_of_mem hy;rw[List.getElem?_take]at hj;split at hj
      ·rename_i ly;obtain⟨p1,e1⟩:=List.getElem?_eq_some_iff.1 hx;obtain⟨p2,e2⟩:=List.getElem?_eq_some_iff.1 hj;have:=List.pairwise_iff_getElem.1 (List.nodup_iff_pairwise_ne.1 jc) j k (by simpa using p2) (by simpa using p1) ly;apply this;simp[e1,e2,e]
      ·cases hj
     simp[gy,qp]
    rw[this]
   ·have hm:x.addr ∉ (l.take k).map (·.addr):=by simpa using h9
    refine gO F148 ?_;refine aV ⟨⟨_,rfl⟩,fp⟩ ?_;refine gO F148 ?_;refine I.back (IH (k+1) ⟨by omega,dw aJ hx hb,?_⟩ (by omega)) ?_
    ·rw[cK hx,List.map_append,List.nodup_append];refine⟨cX,by simp,fun a ha b kg e=>?_⟩;simp at kg;subst kg;subst e;exact hm ha
    ·(conv=>whnf);repeat (first|exact trivial|(refine sI ?_;conv=>whnf))
     refine And.intro (Vw hx).symm ?_;exact sZ
  ·have aA:l.length<=k:=by simpa using h5
   rw[List.take_of_length_le aA]at aJ cX;refine gO F148 ?_;simp[gy,aJ,cX,hlen]
end Go.Proofs.YtfmdaiojokniiaaGreatDoor.P
end
section
namespace Go.Proofs.YtfmdaiojokniiaaGreatDoor.P
open Go Go.ay
set_option maxRecDepth 100000
set_option maxHeartbeats 4000000
theorem Vx(n:Int):aq E 222 [.int .i64 n] (· = .bool (!kf n)):=by
 refine eP Tryz.func222 ?_
 with_reducible refine ao (GW n) ?_
 refine gO Tryz.func222 ?_
 with_reducible rfl
theorem Vy(l:List Int)(hl:l.length<=1000000):ar E 281 [] [.d (.sl (l.map (.int .i64))),.fn (.func 222) [] []] (fun a b=>∃ n:Int,a=.d (.int .i64 n)/\b=[]/\(0<=n↔l.all kf=false)):=by
 refine ar.run ab (fn:=Tryz.f281) Tryz.func281 (body:=Tryz.f281.body.getD .skip) rfl (by decide) 2000 rfl ?_;(conv=>whnf);refine I.loop (κ:=Nat) ([4,5]++rg 8 11) (fun k=>[(8,.d (.int .i64 k))]) (fun _=>[]) (fun k=>k<=l.length/\(l.take k).all kf=true) (fun k=>l.length-k) 0 ⟨Nat.zero_le _,rfl⟩ ?_ ?_
 ·exact sZ
 rintro k ⟨hk,aJ⟩ IH;refine I.head ab F281 2000 ?_;(conv=>whnf);refine ai (fun h5=>?_) (fun h5=>?_)
 ·have ah:k<l.length:=by simpa using h5
  obtain⟨x,hx⟩:=aG ah;refine gO F281 ?_;refine aB (e := .int .i64 x) (aN hx) rfl ?_;refine gO F281 ?_
  with_reducible refine ao (Vx x) ?_
  refine gO F281 ?_;refine ai (fun h6=>?_) (fun h6=>?_)
  ·refine gO F281 ?_;refine⟨k,rfl,rfl,?_⟩;have:l.all kf=false:=by
    cases ha:l.all kf
    ·rfl
    ·have:=List.all_eq_true.1 ha x (List.mem_of_getElem? hx);simp[this]at h6
   simp[this]
  ·refine gO F281 ?_;refine I.back (IH (k+1) ⟨by omega,dw aJ hx (by simpa using h6)⟩ (by omega)) ?_;exact sZ
 ·have aA:l.length<=k:=by simpa using h5
  rw[List.take_of_length_le aA]at aJ;refine gO F281 ?_;exact⟨_,rfl,rfl,by simp[aJ]⟩
theorem Vz(l:List Int)(hl:l.length<=1000000):ar E 221 [] [.d (.sl (l.map (.int .i64))),.fn (.func 222) [] []] (fun a b=>a=.d (.bool (!l.all kf))/\b=[]):=by
 refine ar.run ab (fn:=Tryz.f221) Tryz.func221 (body:=Tryz.f221.body.getD .skip) rfl (by decide) 2000 rfl ?_;(conv=>whnf);refine jv (Vy l hl) ?_;rintro r b ⟨n,rfl,rfl,h⟩;refine gO Tryz.func221 ?_;cases ha:l.all kf
 ·simp[h.2 ha]
 ·have:¬ 0<=n:=fun h0=>by rw[h.1 h0]at ha;cases ha
  simp;omega
def kh(a:cM)(l:List Int):Bool:=ef a&&decide (a.type=6)&&decide (a.name=[46])&&decide (1<=l.length)&&decide (l.length<=8)&&l.all kf
theorem CX(a:cM)(l:List Int)(hf:a.Fits)(hl:l.length<=maxLen):aq E 150 [a.enc,.sl (l.map (.int .i64))] (· = .bool (kh a l)):=by
 refine eP Tryz.func150 ?_;repeat' (first|with_reducible(first|refine ao (sU a hf) ?_|refine au (sU a hf) ?_|refine cY ?_|refine cN ?_|refine ai (fun _=>?_) (fun _=>?_))|refine gA Tryz.func150 ?_|refine gB ?_|with_reducible rfl)
 all_goals try (simp_all[kh]<;>omega;done)
 rename_i h1 h2 h3 h4 h5;refine jv (Vz l (by simp at h5;omega)) ?_;rintro r b ⟨rfl,rfl⟩;refine gO Tryz.func150 ?_;have e1:ef a=true:=by simpa using h1
 have e2:a.type=6:=by simpa using h2
 have e3:a.name=[46]:=by simpa using h3
 have e4:1<=l.length:=by simp at h4;omega
 have e5:l.length<=8:=by simp at h5;omega
 simp[kh,e1,e2,e3,e4,e5]
theorem MN(hs:List Host)(a:cM)(l:List Int):aq E 149 [.agg [.sl (hs.map Host.enc),.aH,.str a.name,.int .i64 a.type,.int .i64 a.cy,pE a.data,.sl (l.map (.int .i64))]] (· = .bool true):=by
 refine eP F149 ?_;refine aW (by decide) ?_;refine gO F149 ?_;refine gO F149 ?_;refine gO F149 ?_;refine I.mg ?_;refine I.run ab F149 2000 ?_;(conv=>whnf);refine aW (by decide) ?_;refine gO F149 ?_;refine gO F149 ?_;simp
theorem MO(hs:List Host)(a:cM)(l:List Int)(hn:∀ x∈hs,x.name.length<=maxLen)(hf:a.Fits)(hl:l.length<=maxLen):aq E 78 [.agg [.sl (hs.map Host.enc),.aH,.str a.name,.int .i64 a.type,.int .i64 a.cy,pE a.data,.sl (l.map (.int .i64))]] (· = .bool (gy hs&&kh a l)):=by
 refine eP Tryz.func78 ?_;repeat' (first|with_reducible(first|refine ao (CW hs hn) ?_|refine au (CW hs hn) ?_|refine ao (MN hs a l) ?_|refine au (MN hs a l) ?_|refine ao (CX a l hf hl) ?_|refine au (CX a l hf hl) ?_|refine cY ?_|refine cN ?_|refine ai (fun _=>?_) (fun _=>?_))|refine gA Tryz.func78 ?_|refine gB ?_|with_reducible rfl)
 all_goals simp_all
end Go.Proofs.YtfmdaiojokniiaaGreatDoor.P
end
section
namespace Go.Proofs.YtfmdaiojokniiaaGreatDoor.P
open Go Go.ay
set_option maxRecDepth 100000
set_option maxHeartbeats 4000000
set_option linter.unusedSectionVars false
section
variable {α:Type} [DecidableEq α] {en:α->DV}
def mA(en:α->DV)(es:List (DV × DV)):Prop:=∀ p∈es,∃ a,p.1=en a
theorem GY{b:α}{v:DV}:∀ {es:List (DV × DV)},mA en es->mA en (bU (en b) v es)
 |[],_,p,hp=>by simp[bU]at hp;subst hp;exact⟨_,rfl⟩
 |q::es,h,p,hp=>by
  unfold bU at hp;split at hp
  ·rcases List.mem_cons.1 hp with rfl|hp
   ·exact⟨_,rfl⟩
   ·exact h p (List.mem_cons_of_mem _ hp)
  ·rcases List.mem_cons.1 hp with rfl|hp
   ·exact h _ (List.mem_cons_self ..)
   ·exact GY (fun r hr=>h r (List.mem_cons_of_mem _ hr)) p hp
theorem GZ(hk:∀ a b,eE (en a) (en b)=decide (a=b)){a b:α}{v:DV}:∀ {es:List (DV × DV)},mA en es->findD (en a) (bU (en b) v es)=if a=b then some v else findD (en a) es
 |[],_=>by simp[bU,findD,hk]
 |q::es,h=>by
  obtain⟨s,hs⟩:=h q (List.mem_cons_self ..);obtain⟨q1,q2⟩:=q;simp only at hs;subst hs;unfold bU;simp only[hk];by_cases e:b=s
  ·subst e;simp only[decide_true,if_true,findD,hk];by_cases e2:a=b
   ·simp[e2]
   ·simp[e2]
  ·have ih:=GZ hk (a:=a) (b:=b) (v:=v) (es:=es) (fun r hr=>h r (List.mem_cons_of_mem _ hr));simp only[e,decide_false,Bool.false_eq_true,if_false,findD,hk,ih];by_cases e2:a=s
   ·subst e2;have:¬ a=b:=fun h=>e h.symm;simp[this]
   ·simp[e2]
def ek(en:α->DV)(l:List α):List (DV × DV):=l.foldl (fun es x=>bU (en x) (.bool true) es) []
theorem G0{l:List α}{k:Nat}{x:α}(h:l[k]?=some x):ek en (l.take (k+1))=bU (en x) (.bool true) (ek en (l.take k)):=by
 rw[cK h,ek,List.foldl_append];rfl
theorem te(l:List α)(x:α):ek en (l++[x])=bU (en x) (.bool true) (ek en l):=by
 rw[ek,List.foldl_append];rfl
theorem oo(hk:∀ a b,eE (en a) (en b)=decide (a=b))(l:List α):mA en (ek en l)/\∀ a,findD (en a) (ek en l)=if a∈l then some (.bool true)else none:=by
 have main:∀ (l:List α) (es:List (DV × DV)) (C:List α),mA en es->(∀ n,findD (en n) es=if n∈C then some (.bool true)else none) ->
   mA en (l.foldl (fun es x=>bU (en x) (.bool true) es) es)/\∀ n,findD (en n) (l.foldl (fun es x=>bU (en x) (.bool true) es) es)=if n∈C++l then some (.bool true)else none:=by
  intro l
  induction l with
  |nil=>intro es C h1 h2;exact⟨h1,by simpa using h2⟩
  |cons s l ih =>
   intro es C h1 h2
   have:=ih (bU (en s) (.bool true) es) (C++[s]) (GY h1) (fun n=>by
    rw[GZ hk h1,h2 n];by_cases h:n=s
    ·simp[h]
    ·simp[h])
   simpa using this
 have:=main l [] [] (fun p hp=>by simp at hp) (fun n=>by simp[findD])
 simpa [ek]using this
theorem vq(hk:∀ a b,eE (en a) (en b)=decide (a=b))(l:List α)(a:α):(findD (en a) (ek en l)).getD (.bool false)=.bool (decide (a∈l))/\(findD (en a) (ek en l)).isSome=decide (a∈l):=by
 rw[(oo hk l).2 a];split<;>simp_all
def eC:List α->List α->List α
 |acc,[]=>acc
 |acc,x::l=>eC (if x∈acc then acc else acc++[x]) l
theorem MP(acc l:List α)(x:α):eC acc (l++[x])=if x∈eC acc l then eC acc l else eC acc l++[x]:=by
 induction l generalizing acc with
 |nil=>rfl
 |cons y l ih =>
  show eC _ (l++[x])=_;rw[ih];rfl
theorem Ai{x:α}:∀ {l acc:List α},x∈eC acc l↔x∈acc\/x∈l
 |[],acc=>by simp[eC]
 |y::l,acc=>by
  rw[eC,Ai (l:=l)];split
  ·rename_i h;constructor
   ·rintro(h1|h1)
    ·exact .inl h1
    ·exact .inr (List.mem_cons_of_mem _ h1)
   ·rintro(h1|h1)
    ·exact .inl h1
    ·rcases List.mem_cons.1 h1 with rfl|h1
     ·exact .inl h
     ·exact .inr h1
  ·simp[or_assoc]
theorem G1:∀ {l acc:List α},acc.Nodup->(eC acc l).Nodup
 |[],_,h=>h
 |y::l,acc,h=>by
  rw[eC];refine G1 ?_;split
  ·exact h
  ·rename_i hy;rw[List.nodup_append];exact⟨h,by simp,fun a ha b hb e=>by simp at hb;subst hb;subst e;exact hy ha⟩
theorem CY:∀ {l acc:List α},(eC acc l).length<=acc.length+l.length
 |[],_=>by simp[eC]
 |y::l,acc=>by
  rw[eC];refine Nat.le_trans CY ?_;split<;>simp<;>omega
theorem VA{a b:List α}(ha:a.Nodup)(hb:b.Nodup)(h:∀ x,x∈a↔x∈b):a.length=b.length:=((List.perm_ext_iff_of_nodup ha hb).2 h).length_eq
theorem MQ{l:List α}{k:Nat}{x:α}(h:l[k]?=some x):eC [] (l.take (k+1))=if x∈l.take k then eC [] (l.take k)else eC [] (l.take k)++[x]:=by
 rw[cK h,MP];have:=Ai (x:=x) (l:=l.take k) (acc:=[]);simp only[List.not_mem_nil,false_or]at this;by_cases hx:x∈l.take k
 ·rw[if_pos hx,if_pos (this.2 hx)]
 ·rw[if_neg hx,if_neg (fun h=>hx (this.1 h))]
end
theorem xJ(a b:Text):eE (.str a) (.str b)=decide (a=b):=by
 show(a==b)=_;rw[Bool.eq_iff_iff];simp
theorem MR(a b:Int):eE (.int .i64 a) (.int .i64 b)=decide (a=b):=by
 show(a==b)=_;rw[Bool.eq_iff_iff];simp
abbrev dj:=Int × Text
@[reducible] def dj.en (p : dj) : DV := .agg [.int .i64 p.1, .str p.2]
theorem pV(a b:dj):eE (dj.en a) (dj.en b)=decide (a=b):=by
 show(((a.1==b.1))&&((a.2==b.2)&&true))=_;rw[Bool.eq_iff_iff];simp[Prod.ext_iff]
theorem VB(c:aY):aq E 103 [c.enc] (· = .str c.aw.aj):=by
 refine eP Tryz.func103 ?_
 with_reducible rfl
theorem VC(l:List aY)(hl:l.length<=1000000):ar E 102 [] [.d (.sl (l.map aY.enc)),.fn (.func 103) [] []] (fun a b=>∃ es,a=.own 1 1/\b=[.map es,.arr 1 (9,1) ((eC [] (l.map (·.aw.aj))).map .str)]):=by
 generalize hT:l.map (·.aw.aj)=T;have CZ:T.length=l.length:=by rw[<- hT];simp
 refine ar.run ab (fn:=Tryz.f102) Tryz.func102 (body:=Tryz.f102.body.getD .skip) rfl (by decide) 2000 rfl ?_;(conv=>whnf);refine gO F102 ?_;refine gO F102 ?_;refine I.wB 6 (9,1) (by decide) rfl ?_;refine gO F102 ?_;refine I.loop (κ:=Nat) ([6,8,9]++rg 13 18) (fun k=>[(13,.d (.int .i64 k)),(6,.own 1 1),(5,.map 0)]) (fun k=>[(0,.map (ek DV.str (eC [] (T.take k)))),(1,.arr 1 (9,1) ((eC [] (T.take k)).map .str))]) (fun k=>k<=l.length) (fun k=>l.length-k) 0 (Nat.zero_le _) ?_ ?_
 ·(conv=>whnf);repeat (first|exact trivial|(refine sI ?_;conv=>whnf))
  refine And.intro rfl ?_;(conv=>whnf);repeat (first|exact trivial|(refine sI ?_;conv=>whnf))
  refine And.intro rfl ?_;exact sZ
 intro k hk IH;refine I.head ab F102 2000 ?_;(conv=>whnf);refine ai (fun h5=>?_) (fun h5=>?_)
 ·have ah:k<l.length:=by simpa using h5
  obtain⟨c,hc⟩:=aG ah;have G2:T[k]?=some c.aw.aj:=by rw[<- hT];simp[hc]
  have VE:=CY (l:=T.take k) (acc:=[]);obtain⟨gw,jd⟩:=vq xJ (eC [] (T.take k)) c.aw.aj;have fp:=(oo xJ (eC [] (T.take k))).1;refine gO F102 ?_;refine aB (e:=c.enc) (aN hc) rfl ?_;refine gO F102 ?_
  with_reducible refine ao (VB c) ?_
  refine gO F102 ?_;refine oK (.bool false) (.bool false) ⟨_,rfl⟩ fp (fun w=>by kernel_rfl) (fun _ _ => .bool _) gw jd ?_;refine gO F102 ?_;have aF:=MQ G2;by_cases hm:c.aw.aj∈eC [] (T.take k)
  ·refine aW (by simp[hm]) ?_;refine gO F102 ?_;refine I.back (IH (k+1) (by omega) (by omega)) ?_;have G3:c.aw.aj∈T.take k:=by rw[Ai]at hm;simpa using hm
   rw[if_pos G3]at aF;rw[aF];exact sZ
  ·refine aU (by simp[hm]) ?_;refine gO F102 ?_;refine aV ⟨⟨_,rfl⟩,fp⟩ ?_;refine gO F102 ?_;refine aV ⟨by simp at VE ⊢;omega,by simp[DV.cells]⟩ ?_;refine gO F102 ?_;refine I.back (IH (k+1) (by omega) (by omega)) ?_;have G3:¬ c.aw.aj∈T.take k:=by rw[Ai]at hm;simpa using hm
   rw[if_neg G3]at aF;rw[aF];(conv=>whnf);repeat (first|exact trivial|(refine sI ?_;conv=>whnf))
   refine And.intro (te _ _).symm ?_;(conv=>whnf);repeat (first|exact trivial|(refine sI ?_;conv=>whnf))
   refine And.intro (by simp) ?_;exact sZ
 ·have aA:l.length<=k:=by simpa using h5
  rw[List.take_of_length_le (by omega)];refine gO F102 ?_;exact⟨_,rfl,rfl⟩
end Go.Proofs.YtfmdaiojokniiaaGreatDoor.P
end
