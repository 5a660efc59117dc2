/- Lemmas of mine. Conditions: as stated. -/
import Derived.Test.YtlhehdgciafakaaGreatDoorQ9
import Derived.Test.YtlhehdgciafakaaGreatDoorQ10
set_option linter.unusedVariables false
set_option linter.unusedSimpArgs false
open Bool renaming false_eq_true->ah0,eq_iff_iff->akN
open List renaming mem_cons_of_mem->aip,mem_cons->ai3,mem_cons_self->aio,foldl_append->alH,mem_of_getElem?->aiQ,take_of_length_le->ajq,all_eq_true->ahH,getElem?_eq_some_iff->akz,nodup_append->aii
open Nat renaming zero_le->ai4
section
namespace Go.Proofs.YtlhehdgciafakaaGreatDoor.P
open Go Go.az
set_option maxRecDepth 100000
set_option maxHeartbeats 4000000
def xw(t:Text):Bool:=Nm.valid t&&nf t
theorem PZ(t:Text)(ht:t.length<=maxLen):aq E 191 [.str t] (· = .bool (xw t)):=by
 have ng:=Eg t ht;unfold zm at ng;cases h:Nm.valid t
 ·simp only[h,ah0,if_false]at ng;refine eP F191.h ?_
  with_reducible refine ao (ng) ?_
  refine gC ?_;refine vF ?_;simp[xw,h]
 ·simp only[h,if_true]at ng;refine eP F191.h ?_
  with_reducible refine ao (ng) ?_
  refine gC ?_;cases hl:Nm.labels t with
  |nil =>
   refine aP rfl (gC ?_);simp[xw,nf,h,hl]
  |cons y ys =>
   have hy:(y::ys)[0]?=some y:=rfl;refine aN sP (gC ?_);refine aR (e := .str y) (tr hy) rfl (gC ?_);simp[xw,nf,h,hl]
def lR(n:Int):Bool:=decide (1<=n)&&decide (n<=1000000)
theorem Jx(n:Int):aq E 192 [.int .i64 n] (· = .bool (lR n)):=by
 refine eP Tryz.func192 ?_;repeat' (first|with_reducible(first|refine cX ?_|apply ah<;>intro)|refine gA Tryz.func192 ?_|refine gB ?_|with_reducible rfl)
 all_goals (simp_all[lR]<;>omega)
theorem EP(a b:Int):fy (.int .i64 a) (.int .i64 b)=(a==b):=rfl
def zE(es:List (DV × DV)):Prop:=∀ p∈es,∃ s,p.1=DV.int .i64 s
theorem P0{n:Int}{v:DV}:∀ {es:List (DV × DV)},zE es->zE (b8 (.int .i64 n) v es)
 |[],_,p,hp=>by simp[b8]at hp;subst hp;exact⟨_,rfl⟩
 |q::es,h,p,hp=>by
  unfold b8 at hp;split at hp
  ·rcases ai3.1 hp with rfl|hp
   ·exact⟨_,rfl⟩
   ·exact h p (aip _ hp)
  ·rcases ai3.1 hp with rfl|hp
   ·exact h _ (aio ..)
   ·exact P0 (fun r hr=>h r (aip _ hr)) p hp
theorem P1{n m:Int}{v:DV}:∀ {es:List (DV × DV)},zE es->findD (.int .i64 m) (b8 (.int .i64 n) v es)=if m==n then some v else findD (.int .i64 m) es
 |[],_=>by simp[b8,findD,EP]
 |q::es,h=>by
  obtain⟨s,hs⟩:=h q (aio ..);obtain⟨q1,q2⟩:=q;simp only at hs;subst hs;unfold b8;simp only[EP];by_cases e:n=s
  ·subst e;simp only[beq_self_eq_true,if_true,findD,EP];by_cases e2:m=n
   ·simp[e2]
   ·simp[e2]
  ·have ih:=P1 (n:=n) (m:=m) (v:=v) (es:=es) (fun r hr=>h r (aip _ hr));have e':(n==s)=false:=zD e
   simp only[e',ah0,if_false,findD,EP,ih];by_cases e2:m=s
   ·subst e2;have:(m==n)=false:=by simpa using fun h=>e h.symm
    simp[this]
   ·simp[e2]
def oX(x:Host):Bool:=Nm.valid x.name && !xw x.name&&decide (0<=x.owner)&&decide (x.owner<32)&&lR x.addr
def gb(l:List Host):Bool:=decide (l.length<=64)&&l.all oX&&decide ((l.map (·.addr)).Nodup)
def xx(l:List Host):List (DV × DV):=l.foldl (fun es x=>b8 (.int .i64 x.addr) (.bool true) es) []
theorem Za{l:List Host}{k:Nat}{x:Host}(h:l[k]?=some x):xx (l.take (k+1))=b8 (.int .i64 x.addr) (.bool true) (xx (l.take k)):=by
 rw[cj h,xx,alH];rfl
theorem P2(l:List Host):zE (xx l)/\∀ n,findD (.int .i64 n) (xx l)=if n∈l.map (·.addr)then some (.bool true)else none:=by
 have main:∀ (l:List Host) (es:List (DV × DV)) (C:List Int),zE es->(∀ n,findD (.int .i64 n) es=if n∈C then some (.bool true)else none) ->
   zE (l.foldl (fun es x=>b8 (.int .i64 x.addr) (.bool true) es) es)/\∀ n,findD (.int .i64 n) (l.foldl (fun es x=>b8 (.int .i64 x.addr) (.bool true) es) es)=if n∈C++l.map (·.addr)then some (.bool true)else none:=by
  intro l
  induction l with
  |nil=>intro es C h1 h2;exact⟨h1,zD h2⟩
  |cons s l ih =>
   intro es C h1 h2
   have:=ih (b8 (.int .i64 s.addr) (.bool true) es) (C++[s.addr]) (P0 h1) (fun n=>by
    rw[P1 h1,h2 n];by_cases h:n=s.addr
    ·simp[h]
    ·simp[h])
   simpa using this
 have:=main l [] [] (fun p hp=>by simp at hp) (fun n=>by simp[findD])
 simpa [xx]using this
theorem Jy{l:List Host}{k:Nat}{x:Host}(hx:l[k]?=some x)(h:oX x=false):gb l=false:=by
 have:l.all oX=false:=by
  cases ha:l.all oX
  ·rfl
  ·rw[ahH.1 ha x (aiQ hx)]at h;cases h
 simp[gb,this]
theorem ER(l:List Host)(hn:∀ x∈l,x.name.length<=maxLen):aq E 122 [.sl (l.map Host.enc)] (· = .bool (gb l)):=by
 refine eP F122.h ?_;apply ah<;>intro h1
 ·refine gC ?_;have:gb l=false:=by simp[gb];simp at h1;omega
  rw[this]
 ·have hlen:l.length<=64:=by simp at h1;omega
  refine gC ?_;refine gC ?_;refine I.lP l.length ([2,5]++rg 12 37) (fun k=>[(12,.d (.int .i64 k)),(2,.d (.bool false)),(3,.map 0)]) (fun k=>[(0,.map (xx (l.take k)))]) (fun k=>k<=l.length/\(l.take k).all oX=true/\((l.take k).map (·.addr)).Nodup) ⟨ai4 _,rfl,by simp⟩ ?_ ?_
  ·(conv=>whnf);repeat (first|exact trivial|(refine And.intro (by first|with_reducible rfl|exact congrArg (DV.int .i64) oM|exact rfl|exact congrArg (DV.int .i64) (wrap64 oM oM)|exact congrArg (DV.int .i64) ((wrap64 oM oM).trans oM)) ?_;conv=>whnf))
  rintro k ⟨hk,aM,cW⟩ IH;refine zA ?_ ?_<;>intro h5
  ·have ai:k<l.length:=zD h5
   obtain⟨x,hx⟩:=aI ai;have eb:=hn x (aiQ hx);refine gC ?_;refine eM hx (gC ?_);repeat' (first|with_reducible(first|refine cC (iP x.name eb) ?_|refine cC (PZ x.name eb) ?_|refine cC (Jx x.addr) ?_|refine cX ?_|apply ah<;>intro)|refine gE ?_|with_reducible rfl)
   all_goals try (rw[Jy hx (by simp_all[oX]<;>omega)];done)
   have qC:=(P2 (l.take k)).2 x.addr;have gv:=(P2 (l.take k)).1;have hb:oX x=true:=by simp_all[oX]
   refine qm (.bool false) (.bool false) (v := .bool (decide (x.addr∈(l.take k).map (·.addr)))) (f:=decide (x.addr∈(l.take k).map (·.addr))) ⟨_,rfl⟩ gv (fun w=>by kernel_rfl) (fun _ _ => .bool _) (by rw[qC];split<;>simp_all) (by rw[qC];split<;>simp_all) ?_;refine gC ?_;apply ah<;>intro h9
   ·refine gC ?_;have hm:x.addr∈(l.take k).map (·.addr):=zD h9
    have:gb l=false:=by
     have sN:¬ (l.map (·.addr)).Nodup:=fun kY=>by
      obtain⟨y,hy,e⟩:=List.mem_map.1 hm;obtain⟨j,hj⟩:=List.getElem?_of_mem hy;rw[List.getElem?_take]at hj;split at hj
      ·rename_i lz;obtain⟨p1,e1⟩:=akz.1 hx;obtain⟨p2,e2⟩:=akz.1 hj;have:=List.pairwise_iff_getElem.1 (List.nodup_iff_pairwise_ne.1 kY) j k (zD p2) (zD p1) lz;apply this;simp[e1,e2,e]
      ·cases hj
     simp[gb,sN]
    rw[this]
   ·have hm:x.addr ∉ (l.take k).map (·.addr):=zD h9
    refine gC ?_;refine bj ⟨⟨_,rfl⟩,gv⟩ (gC ?_);refine I.back (IH (k+1) ⟨by omega,ea aM hx hb,?_⟩ oM) ?_
    ·rw[cj hx,List.map_append,aii];refine⟨cW,by simp,fun a ha b la e=>?_⟩;simp at la;subst la;subst e;exact hm ha
    ·refine sY ?_
     exact And.intro (Za hx).symm sZ
  ·have aA:l.length<=k:=zD h5
   rw[ajq aA]at aM cW;refine gC ?_;simp[gb,aM,cW,hlen]
end Go.Proofs.YtlhehdgciafakaaGreatDoor.P
end
section
namespace Go.Proofs.YtlhehdgciafakaaGreatDoor.P
open Go Go.az
set_option maxRecDepth 100000
set_option maxHeartbeats 4000000
theorem Zb(n:Int):aq E 195 [.int .i64 n] (· = .bool (!lR n)):=by
 refine eP Tryz.func195 ?_
 with_reducible refine ao (Jx n) ?_
 refine gO Tryz.func195 ?_
 with_reducible rfl
theorem Zc(l:List Int)(hl:l.length<=1000000):au E 266 [] [.d (.sl (l.map (.int .i64))),.fn (.func 195) [] []] (fun a b=>∃ n:Int,a=.d (.int .i64 n)/\b=[]/\(0<=n↔l.all lR=false)):=by
 refine aE ?_;refine I.lP l.length ([4,5]++rg 8 11) (fun k=>[(8,.d (.int .i64 k))]) (fun _=>[]) (fun k=>k<=l.length/\(l.take k).all lR=true) ⟨ai4 _,rfl⟩ ?_ ?_
 ·exact sZ
 rintro k ⟨hk,aM⟩ IH;refine zA ?_ ?_<;>intro h5
 ·have ai:k<l.length:=zD h5
  obtain⟨x,hx⟩:=aI ai;refine gC ?_;refine aR (e := .int .i64 x) (bC hx) rfl (gC ?_)
  with_reducible refine ao (Zb x) ?_
  refine gC ?_;apply ah<;>intro h6
  ·refine gC ?_;refine⟨k,rfl,rfl,?_⟩;have:l.all lR=false:=by
    cases ha:l.all lR
    ·rfl
    ·have:=ahH.1 ha x (aiQ hx);simp[this]at h6
   simp[this]
  ·refine gC ?_;exact I.back (IH (k+1) ⟨by omega,ea aM hx (zD h6)⟩ oM) sZ
 ·have aA:l.length<=k:=zD h5
  rw[ajq aA]at aM;refine gC ?_;exact⟨_,rfl,rfl,by simp[aM]⟩
theorem Zd(l:List Int)(hl:l.length<=1000000):au E 194 [] [.d (.sl (l.map (.int .i64))),.fn (.func 195) [] []] (fun a b=>a=.d (.bool (!l.all lR))/\b=[]):=by
 refine aE ?_;refine lB (Zc l hl) ?_;rintro r b ⟨n,rfl,rfl,h⟩;refine gC ?_;cases ha:l.all lR
 ·simp[h.2 ha]
 ·have:¬ 0<=n:=fun h0=>by rw[h.1 h0]at ha;cases ha
  simp;omega
def kx(a:dw)(l:List Int):Bool:=eX a&&decide (a.type=6)&&decide (a.name=[46])&&decide (1<=l.length)&&decide (l.length<=8)&&l.all lR
theorem ES(a:dw)(l:List Int)(hf:a.Fits)(hl:l.length<=maxLen):aq E 124 [a.enc,.sl (l.map (.int .i64))] (· = .bool (kx a l)):=by
 refine eP F124.h ?_;repeat' (first|with_reducible(first|refine cC (vj a hf) ?_|refine cX ?_|apply ah<;>intro)|refine gE ?_|with_reducible rfl)
 all_goals try (simp_all[kx]<;>omega;done)
 rename_i h1 h2 h3 h4 h5;refine lB (Zd l (by simp at h5;omega)) ?_;rintro r b ⟨rfl,rfl⟩;refine gC ?_;have e1:eX a=true:=zD h1
 have e2:a.type=6:=zD h2
 have e3:a.name=[46]:=zD h3
 have e4:1<=l.length:=by simp at h4;omega
 have e5:l.length<=8:=by simp at h5;omega
 simp[kx,e1,e2,e3,e4,e5]
theorem P3(hs:List Host)(a:dw)(l:List Int):aq E 123 [.agg [.sl (hs.map Host.enc),.aF,.str a.name,.int .i64 a.type,.int .i64 a.dD,rH a.data,.sl (l.map (.int .i64))]] (· = .bool true):=by
 refine eP F123.h ?_;refine aP dC (gC ?_);refine gC ?_;refine gC ?_;refine I.te ?_;refine I.run ag F123.h 2000 ?_;(conv=>whnf);refine aP dC (gC ?_);refine gC ?_;simp
theorem P4(hs:List Host)(a:dw)(l:List Int)(hn:∀ x∈hs,x.name.length<=maxLen)(hf:a.Fits)(hl:l.length<=maxLen):aq E 63 [.agg [.sl (hs.map Host.enc),.aF,.str a.name,.int .i64 a.type,.int .i64 a.dD,rH a.data,.sl (l.map (.int .i64))]] (· = .bool (gb hs&&kx a l)):=by
 refine eP F63.h ?_;repeat' (first|with_reducible(first|refine cC (ER hs hn) ?_|refine cC (P3 hs a l) ?_|refine cC (ES a l hf hl) ?_|refine cX ?_|apply ah<;>intro)|refine gE ?_|with_reducible rfl)
 all_goals simp_all
end Go.Proofs.YtlhehdgciafakaaGreatDoor.P
end
section
namespace Go.Proofs.YtlhehdgciafakaaGreatDoor.P
open Go Go.az
set_option maxRecDepth 100000
set_option maxHeartbeats 4000000
set_option linter.unusedSectionVars false
section
variable {α:Type} [DecidableEq α] {en:α->DV}
def nX(en:α->DV)(es:List (DV × DV)):Prop:=∀ p∈es,∃ a,p.1=en a
theorem Jz{b:α}{v:DV}:∀ {es:List (DV × DV)},nX en es->nX en (b8 (en b) v es)
 |[],_,p,hp=>by simp[b8]at hp;subst hp;exact⟨_,rfl⟩
 |q::es,h,p,hp=>by
  unfold b8 at hp;split at hp
  ·rcases ai3.1 hp with rfl|hp
   ·exact⟨_,rfl⟩
   ·exact h p (aip _ hp)
  ·rcases ai3.1 hp with rfl|hp
   ·exact h _ (aio ..)
   ·exact Jz (fun r hr=>h r (aip _ hr)) p hp
theorem JA(hk:∀ a b,fy (en a) (en b)=decide (a=b)){a b:α}{v:DV}:∀ {es:List (DV × DV)},nX en es->findD (en a) (b8 (en b) v es)=if a=b then some v else findD (en a) es
 |[],_=>by simp[b8,findD,hk]
 |q::es,h=>by
  obtain⟨s,hs⟩:=h q (aio ..);obtain⟨q1,q2⟩:=q;simp only at hs;subst hs;unfold b8;simp only[hk];by_cases e:b=s
  ·subst e;simp only[decide_true,if_true,findD,hk];by_cases e2:a=b
   ·simp[e2]
   ·simp[e2]
  ·have ih:=JA hk (a:=a) (b:=b) (v:=v) (es:=es) (fun r hr=>h r (aip _ hr));simp only[e,decide_false,ah0,if_false,findD,hk,ih];by_cases e2:a=s
   ·subst e2;have:¬ a=b:=fun h=>e h.symm;simp[this]
   ·simp[e2]
def eY(en:α->DV)(l:List α):List (DV × DV):=l.foldl (fun es x=>b8 (en x) (.bool true) es) []
theorem JB{l:List α}{k:Nat}{x:α}(h:l[k]?=some x):eY en (l.take (k+1))=b8 (en x) (.bool true) (eY en (l.take k)):=by
 rw[cj h,eY,alH];rfl
theorem vC(l:List α)(x:α):eY en (l++[x])=b8 (en x) (.bool true) (eY en l):=by
 rw[eY,alH];rfl
theorem pU(hk:∀ a b,fy (en a) (en b)=decide (a=b))(l:List α):nX en (eY en l)/\∀ a,findD (en a) (eY en l)=if a∈l then some (.bool true)else none:=by
 have main:∀ (l:List α) (es:List (DV × DV)) (C:List α),nX en es->(∀ n,findD (en n) es=if n∈C then some (.bool true)else none) ->
   nX en (l.foldl (fun es x=>b8 (en x) (.bool true) es) es)/\∀ n,findD (en n) (l.foldl (fun es x=>b8 (en x) (.bool true) es) es)=if n∈C++l then some (.bool true)else none:=by
  intro l
  induction l with
  |nil=>intro es C h1 h2;exact⟨h1,zD h2⟩
  |cons s l ih =>
   intro es C h1 h2
   have:=ih (b8 (en s) (.bool true) es) (C++[s]) (Jz h1) (fun n=>by
    rw[JA hk h1,h2 n];by_cases h:n=s
    ·simp[h]
    ·simp[h])
   simpa using this
 have:=main l [] [] (fun p hp=>by simp at hp) (fun n=>by simp[findD])
 simpa [eY]using this
theorem xy(hk:∀ a b,fy (en a) (en b)=decide (a=b))(l:List α)(a:α):(findD (en a) (eY en l)).getD (.bool false)=.bool (decide (a∈l))/\(findD (en a) (eY en l)).isSome=decide (a∈l):=by
 rw[(pU hk l).2 a];split<;>simp_all
def er:List α->List α->List α
 |acc,[]=>acc
 |acc,x::l=>er (if x∈acc then acc else acc++[x]) l
theorem P5(acc l:List α)(x:α):er acc (l++[x])=if x∈er acc l then er acc l else er acc l++[x]:=by
 induction l generalizing acc with
 |nil=>rfl
 |cons y l ih =>
  show er _ (l++[x])=_;rw[ih];rfl
theorem tQ{x:α}:∀ {l acc:List α},x∈er acc l↔x∈acc\/x∈l
 |[],acc=>by simp[er]
 |y::l,acc=>by
  rw[er,tQ (l:=l)];split
  ·rename_i h;constructor
   ·rintro(h1|h1)
    ·exact .inl h1
    ·exact .inr (aip _ h1)
   ·rintro(h1|h1)
    ·exact .inl h1
    ·rcases ai3.1 h1 with rfl|h1
     ·exact .inl h
     ·exact .inr h1
  ·simp[or_assoc]
theorem B7:∀ {l acc:List α},acc.Nodup->(er acc l).Nodup
 |[],_,h=>h
 |y::l,acc,h=>by
  rw[er];refine B7 ?_;split
  ·exact h
  ·rename_i hy;rw[aii];exact⟨h,by simp,fun a ha b hb e=>by simp at hb;subst hb;subst e;exact hy ha⟩
theorem B8:∀ {l acc:List α},(er acc l).length<=acc.length+l.length
 |[],_=>by simp[er]
 |y::l,acc=>by
  rw[er];refine Nat.le_trans B8 ?_;split<;>simp<;>omega
theorem Ze{a b:List α}(ha:a.Nodup)(hb:b.Nodup)(h:∀ x,x∈a↔x∈b):a.length=b.length:=((List.perm_ext_iff_of_nodup ha hb).2 h).length_eq
theorem JC{l:List α}{k:Nat}{x:α}(h:l[k]?=some x):er [] (l.take (k+1))=if x∈l.take k then er [] (l.take k)else er [] (l.take k)++[x]:=by
 rw[cj h,P5];have:=tQ (x:=x) (l:=l.take k) (acc:=[]);simp only[List.not_mem_nil,false_or]at this;by_cases hx:x∈l.take k
 ·rw[if_pos hx,if_pos (this.2 hx)]
 ·rw[if_neg hx,if_neg (fun h=>hx (this.1 h))]
end
theorem zF(a b:Text):fy (.str a) (.str b)=decide (a=b):=by
 show(a==b)=_;rw[akN];simp
theorem P6(a b:Int):fy (.int .i64 a) (.int .i64 b)=decide (a=b):=by
 show(a==b)=_;rw[akN];simp
abbrev cU:=Int × Text
@[reducible] def cU.en (p : cU) : DV := .agg [.int .i64 p.1, .str p.2]
theorem r8(a b:cU):fy (cU.en a) (cU.en b)=decide (a=b):=by
 show(((a.1==b.1))&&((a.2==b.2)&&true))=_;rw[akN];simp[Prod.ext_iff]
theorem Zf(c:aT):aq E 69 [c.enc] (· = .str c.ar.af):=by
 refine eP Tryz.func69 ?_
 with_reducible rfl
theorem Zg(l:List aT)(hl:l.length<=1000000):au E 68 [] [.d (.sl (l.map aT.enc)),.fn (.func 69) [] []] (fun a b=>∃ es,a=.own 1 1/\b=[.map es,.arr 1 (9,1) ((er [] (l.map (·.ar.af))).map .str)]):=by
 generalize hT:l.map (·.ar.af)=T;have ET:T.length=l.length:=by rw[<- hT];simp
 refine aE ?_;refine gC ?_;refine gC ?_;refine I.nH 6 (9,1) dC rfl (gC ?_);refine I.lP l.length ([6,8,9]++rg 13 18) (fun k=>[(13,.d (.int .i64 k)),(6,.own 1 1),(5,.map 0)]) (fun k=>[(0,.map (eY DV.str (er [] (T.take k)))),(1,.arr 1 (9,1) ((er [] (T.take k)).map .str))]) (fun k=>k<=l.length) (ai4 _) ?_ ?_
 ·refine sY ?_
  refine⟨rfl, ?_⟩;refine sY ?_
  refine⟨rfl, ?_⟩;exact sZ
 intro k hk IH;refine zA ?_ ?_<;>intro h5
 ·have ai:k<l.length:=zD h5
  obtain⟨c,hc⟩:=aI ai;have B9:T[k]?=some c.ar.af:=by rw[<- hT];simp[hc]
  have Zh:=B8 (l:=T.take k) (acc:=[]);obtain⟨gU,jx⟩:=xy zF (er [] (T.take k)) c.ar.af;have gv:=(pU zF (er [] (T.take k))).1;refine gC ?_;refine eM hc (gC ?_)
  with_reducible refine ao (Zf c) ?_
  refine gC ?_;refine qm (.bool false) (.bool false) ⟨_,rfl⟩ gv (fun w=>by kernel_rfl) (fun _ _ => .bool _) gU jx (gC ?_);have aJ:=JC B9;by_cases hm:c.ar.af∈er [] (T.take k)
  ·refine aP (by simp[hm]) (gC ?_);refine I.back (IH (k+1) oM oM) ?_;have JD:c.ar.af∈T.take k:=by rw[tQ]at hm;simpa using hm
   rw[if_pos JD]at aJ;rw[aJ];exact sZ
  ·refine aN (by simp[hm]) (gC ?_);refine bj ⟨⟨_,rfl⟩,gv⟩ (gC ?_);refine bj ⟨by simp at Zh ⊢;omega,by simp[DV.cells]⟩ ?_;refine gC ?_;refine I.back (IH (k+1) oM oM) ?_;have JD:¬ c.ar.af∈T.take k:=by rw[tQ]at hm;simpa using hm
   rw[if_neg JD]at aJ;rw[aJ];refine sY ?_
   refine And.intro (vC _ _).symm ?_;refine sY ?_
   refine⟨by simp, ?_⟩;exact sZ
 ·have aA:l.length<=k:=zD h5
  rw[ajq oM];refine gC ?_;exact⟨_,rfl,rfl⟩
end Go.Proofs.YtlhehdgciafakaaGreatDoor.P
end
