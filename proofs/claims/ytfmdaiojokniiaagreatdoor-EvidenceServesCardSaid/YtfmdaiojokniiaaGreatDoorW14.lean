/- Several texts of mine, one behind the other. Conditions: as each says. -/
import Derived.Test.YtfmdaiojokniiaaGreatDoorW13
set_option linter.unusedVariables false
set_option linter.unusedSimpArgs false
section
namespace Go.Proofs.YtfmdaiojokniiaaGreatDoor.P
open Go Go.aw
set_option maxRecDepth 100000
set_option maxHeartbeats 4000000
def oA (t:Text):Bool:=match Nm.labels t with
 | []=>false
 |x::_=>x==[42]
def cmpL:List Text→List Text→Int
 | [],[]=>0
 | [],_::_ => -1
 |_::_,[]=>1
 |x::l,y::m=>if Op.bytesLess x y then -1 else if x==y then cmpL l m else 1
def bO (a b:Text):Int:=cmpL (Nm.labels a).reverse (Nm.labels b).reverse
def nw (a b:dc):Int:=if bO a.name b.name≠0 then bO a.name b.name else iZ a.type b.type
end Go.Proofs.YtfmdaiojokniiaaGreatDoor.P
end
section
namespace Go.Proofs.YtfmdaiojokniiaaGreatDoor.P
open Go Go.aw
set_option maxRecDepth 100000
set_option maxHeartbeats 4000000
theorem oB {α:Type} {a b:List α} {k:Nat} {x y:α} (h:a.take k=b.take k) (ha:a[k]? = some x) (hb:b[k]? = some y) (e:x=y):a.take (k+1)=b.take (k+1):=by
 subst e;rw [dm ha,dm hb,h]
theorem oC {α:Type} {a b:List α} {k:Nat} (h:a.take k=b.take k) (ha:a.length≤k) (hb:b.length≤k):a=b:=by
 rwa [List.take_of_length_le ha,List.take_of_length_le hb] at h
theorem lO {α:Type} {a b:List α} {k:Nat} {x y:α} (ha:a[k]? = some x) (hb:b[k]? = some y) (e:x≠y):a≠b:=by
 rintro rfl;rw [ha] at hb;cases hb;exact e rfl
def y5 (a b:Datum):Bool:=(a.text==b.text&&(a.n==b.n&&(a.m==b.m&&true)))
theorem Hu {a b:Datum}:y5 a b=true↔a=b:=by
 obtain ⟨a1,a2,a3⟩:=a;obtain ⟨b1,b2,b3⟩:=b;simp [y5]
theorem Hv (a b:dc) (ha:a.data.length≤2147483648):au E 116 [a.enc,b.enc] (· = .bool (decide (a=b))):=by
 obtain ⟨an,at',al,ad⟩:=a;obtain ⟨bn,bt,bl,bd⟩:=b;simp only at ha;refine eP Tryz.func116 ?_;repeat' (first | with_reducible refine cY ?_ | with_reducible refine cN ?_ | with_reducible refine aj (fun _=>?_) (fun _=>?_) | refine gA Tryz.func116 ?_ | refine gB ?_ | with_reducible rfl)
 all_goals try (simp_all; done)
 case' refine_2.refine_2.refine_2.refine_1 =>
  rename_i h4;rw [decide_eq_false];intro h;have:=congrArg (fun s:dc=>s.data.length) h;simp only at this;simp [this] at h4
 all_goals
  rename_i h1 h2 h3 h4;simp only [bne_eq_false_iff_eq,Bool.not_eq_false',beq_iff_eq,List.length_map] at h1 h2 h3 h4;subst h1;subst h2;subst h3;have hl:ad.length=bd.length:=by omega
  rw [show decide (dc.mk an at' al ad=dc.mk an at' al bd)=decide (ad=bd) by simp];refine gO Tryz.func116 ?_;refine I.loop (κ:=Nat) ([4,5]++rg 34 18) (fun k=>[(5,.d (.int .i64 k))]) (fun _=>[]) (fun k=>k≤ad.length∧ad.take k=bd.take k) (fun k=>ad.length - k) 0 ⟨Nat.zero_le _,rfl⟩ ?_ ?_
  ·exact sZ
  ·intro k hk IH;refine I.head ag Tryz.func116 2000 ?_;(conv=>whnf);refine aj (fun h5=>?_) (fun h5=>?_)
   ·have ah:k<ad.length:=by simpa using h5
    obtain ⟨x,hx⟩:=aU ah;obtain ⟨y,hy⟩:=aU (l:=bd) (k:=k) (by omega);refine gO Tryz.func116 ?_;refine I.bU ag bV 2000 (by kernel_rfl) ?_;(conv=>whnf);refine gv x.enc (by omega) (nr hx) rfl ?_;refine gD ?_;refine gv y.enc (by omega) (nr hy) rfl ?_;refine gD ?_;refine gO Tryz.func116 ?_;refine aj (fun h6=>?_) (fun h6=>?_)
    ·have aE:x≠y:=fun e=>by
      have:=Hu.2 e;simp [y5] at this;simp [this] at h6
     refine gO Tryz.func116 ?_;rw [decide_eq_false (lO hx hy aE)]
    ·have he:x=y:=Hu.1 (by simpa [y5] using h6);refine gO Tryz.func116 ?_;refine I.back (IH (k+1) ⟨by omega,oB hk.2 hx hy he⟩ (by omega)) ?_;exact sZ
   ·have aK:k=ad.length:=by simp at h5; omega
    refine gO Tryz.func116 ?_;rw [decide_eq_true (oC hk.2 (by omega) (by omega))]
theorem OX (a b:Signed) (ha:a.set.data.length≤2147483648) (hs:a.sigs.length≤2147483648):au E 138 [a.enc,b.enc] (· = .bool (decide (a=b))):=by
 obtain ⟨y6,ad⟩:=a;obtain ⟨y7,bd⟩:=b;simp only at ha hs;rw [show decide (Signed.mk y6 ad=Signed.mk y7 bd)=(decide (y6=y7)&&decide (ad=bd)) by simp];have Hw:=Hv y6 y7 ha;generalize decide (y6=y7)=q at Hw ⊢;refine eP Tryz.func138 ?_
 with_reducible refine ar (Hw) ?_
 refine gO Tryz.func138 ?_;cases q
 ·refine bg rfl ?_;refine gO Tryz.func138 ?_;refine aY ?_;refine gO Tryz.func138 ?_;rfl
 ·refine aW rfl ?_;refine gO Tryz.func138 ?_;refine aj (fun h4=>?_) (fun h4=>?_)
  ·refine gO Tryz.func138 ?_;rw [decide_eq_false]
   ·rfl
   ·rintro rfl;simp at h4
  ·simp only [bne_eq_false_iff_eq,List.length_map] at h4;have hl:ad.length=bd.length:=by omega
   rw [Bool.true_and];refine gO Tryz.func138 ?_;refine I.loop (κ:=Nat) ([4,5]++rg 21 18) (fun k=>[(5,.d (.int .i64 k))]) (fun _=>[]) (fun k=>k≤ad.length∧ad.take k=bd.take k) (fun k=>ad.length - k) 0 ⟨Nat.zero_le _,rfl⟩ ?_ ?_
   ·exact sZ
   ·intro k hk IH;refine I.head ag Tryz.func138 2000 ?_;(conv=>whnf);refine aj (fun h5=>?_) (fun h5=>?_)
    ·have ah:k<ad.length:=by simpa using h5
     obtain ⟨x,hx⟩:=aU ah;obtain ⟨y,hy⟩:=aU (l:=bd) (k:=k) (by omega);refine gO Tryz.func138 ?_;refine I.bU ag bV 2000 (by kernel_rfl) ?_;(conv=>whnf);refine gv x.enc (by omega) (nr hx) rfl ?_;refine gD ?_;refine gv y.enc (by omega) (nr hy) rfl ?_;refine gD ?_;refine gO Tryz.func138 ?_;refine aj (fun h6=>?_) (fun h6=>?_)
     ·have aE:x≠y:=fun e=>by
       have:=Ht.2 e;simp [y4] at this;simp [this] at h6
      refine gO Tryz.func138 ?_;rw [decide_eq_false (lO hx hy aE)]
     ·have he:x=y:=Ht.1 (by simpa [y4] using h6);refine gO Tryz.func138 ?_;refine I.back (IH (k+1) ⟨by omega,oB hk.2 hx hy he⟩ (by omega)) ?_;exact sZ
    ·have aK:k=ad.length:=by simp at h5; omega
     refine gO Tryz.func138 ?_;rw [decide_eq_true (oC hk.2 (by omega) (by omega))]
structure Signed.kb (s:Signed):Prop where
 data:s.set.data.length≤2147483648
 sigs:s.sigs.length≤2147483648
theorem OY (a b:List Signed) (hl:a.length≤2147483648) (ha:∀ s∈a,s.kb):au E 72 [wj a,wj b] (· = .bool (decide (a=b))):=by
 refine eP Tryz.func72 ?_;refine aj (fun h4=>?_) (fun h4=>?_)
 ·refine gO Tryz.func72 ?_;rw [decide_eq_false];rintro rfl;simp at h4
 ·simp only [bne_eq_false_iff_eq,List.length_map] at h4;have kN:a.length=b.length:=by omega
  refine gO Tryz.func72 ?_;refine I.loop (κ:=Nat) ([4,5]++rg 11 16) (fun k=>[(5,.d (.int .i64 k))]) (fun _=>[]) (fun k=>k≤a.length∧a.take k=b.take k) (fun k=>a.length - k) 0 ⟨Nat.zero_le _,rfl⟩ ?_ ?_
  ·exact sZ
  ·intro k hk IH;refine I.head ag Tryz.func72 2000 ?_;(conv=>whnf);refine aj (fun h5=>?_) (fun h5=>?_)
   ·have ah:k<a.length:=by simpa using h5
    obtain ⟨x,hx⟩:=aU ah;obtain ⟨y,hy⟩:=aU (l:=b) (k:=k) (by omega);have mh:=ha x (List.mem_of_getElem? hx);refine gO Tryz.func72 ?_;refine I.bU ag bV 2000 (by kernel_rfl) ?_;(conv=>whnf);refine gv x.enc (by omega) (nr hx) rfl ?_;refine gD ?_;refine gv y.enc (by omega) (nr hy) rfl ?_;refine gD ?_;refine aR (OX x y mh.data mh.sigs) ?_;refine gD ?_;refine gO Tryz.func72 ?_;refine aj (fun h6=>?_) (fun h6=>?_)
    ·have aE:x≠y:=by simpa using h6
     refine gO Tryz.func72 ?_;rw [decide_eq_false (lO hx hy aE)]
    ·have he:x=y:=by simpa using h6
     refine gO Tryz.func72 ?_;refine I.back (IH (k+1) ⟨by omega,oB hk.2 hx hy he⟩ (by omega)) ?_;exact sZ
   ·have aK:k=a.length:=by simp at h5; omega
    refine gO Tryz.func72 ?_;rw [decide_eq_true (oC hk.2 (by omega) (by omega))]
structure aF.kb (z:aF):Prop where
 ae:z.ae.length≤2147483648
 each:∀ s∈z.ae,s.kb
theorem OZ (a b:aF) (ha:a.kb):au E 27 [a.enc,b.enc] (· = .bool (decide (a=b))):=by
 obtain ⟨aa,sa⟩:=a;obtain ⟨ba,sb⟩:=b;rw [show decide (aF.mk aa sa=aF.mk ba sb)=(decide (aa=ba)&&decide (sa=sb)) by simp];have hs:=OY sa sb ha.ae ha.each;refine eP Tryz.func27 ?_;repeat' (first | with_reducible refine ar (hs) ?_ | with_reducible refine aR (hs) ?_ | with_reducible refine cY ?_ | with_reducible refine cN ?_ | with_reducible refine aj (fun _=>?_) (fun _=>?_) | refine gA Tryz.func27 ?_ | refine gB ?_ | with_reducible rfl)
 all_goals simp_all
end Go.Proofs.YtfmdaiojokniiaaGreatDoor.P
end
section
namespace Go.Proofs.YtfmdaiojokniiaaGreatDoor.P
open Go Go.aw
set_option maxRecDepth 100000
set_option maxHeartbeats 4000000
def chain {α:Type} (ok:α→Bool) (rel:α→α→Bool):Option α→List α→Bool
 |_,[]=>true
 |p,x::l=>ok x&&(match p with | none=>true | some q=>rel q x)&&chain ok rel (some x) l
def cJ {α:Type} (l:List α) (k:Nat):Option α:=if k=0 then none else l[k - 1]?
theorem CT {α:Type} {ok:α→Bool} {rel:α→α→Bool} {l:List α} {k:Nat} {x:α} (hx:l[k]? = some x):chain ok rel (cJ l k) (l.drop k)=(ok x&&(match cJ l k with | none=>true | some q=>rel q x)&&chain ok rel (cJ l (k+1)) (l.drop (k+1))):=by
 have hk:=aP hx;rw [List.drop_eq_getElem_cons hk];have e1:l[k]=x:=by simpa [hk] using hx
 have e2:cJ l (k+1)=some x:=by simp [cJ,hx]
 rw [e1,e2];rfl
theorem CU {α:Type} {l:List α} {k:Nat} (h0:0<k) (hk:k≤l.length):∃ q,l[k - 1]? = some q∧cJ l k=some q:=by
 obtain ⟨q,hq⟩:=aU (l:=l) (k:=k - 1) (by omega);exact ⟨q,hq,by simp [cJ,hq]; omega⟩
def kc (ai:Text) (g0 g:di):Bool:=(g.ay==ai)&&decide (1≤g.key)&&decide (g.key≤1000000)&&decide (1≤g.lG)&&decide (g.lG≤3)&&(g.bQ==g0.bQ)&&(g.upto==g0.upto)&&decide (0≤g.bQ)&&decide (g.bQ≤g.upto)&&decide (g.upto≤20000000)
def pT (q g:di):Bool:=decide (q.key<g.key)
def nx (l:List di) (ai:Text):Bool:=decide ((l.length:Int)≤6)&&chain (kc ai (l.headD CS)) pT none l
theorem O0 {l:List di} {k:Nat} (h:k<l.length):l[0]? = some (l.headD CS):=by
 cases l with
 |nil=>simp at h
 |cons x l=>rfl
def y8 (t:Int) (ai:Bool):Bool:=if ai then t != 3&&t != 6 else t != 4&&t != 7
def cP (q:br) (s:Signed):Bool:=s.set.name==q.name&&s.set.type==q.type
def aO (l:List Signed) (q:br):Int:=match l.findIdx? (cP q) with
 |some i=>i
 |none => -1
theorem O1 {l:List Signed} {q:br} {k:Nat} {x:Signed} (h:∀ j y,j<k→l[j]? = some y→cP q y=false) (hx:l[k]? = some x) (hq:cP q x=true):aO l q=k:=by
 have:l.findIdx? (cP q)=some k:=by
  rw [List.findIdx?_eq_some_iff_getElem];have hk:=aP hx;refine ⟨hk,?_,fun j hj=>?_⟩
  ·have:l[k]=x:=by simpa [hk] using hx
   rw [this]; exact hq
  ·have:=h j l[j] hj (by simp);rw [this]; decide
 rw [aO,this]
end Go.Proofs.YtfmdaiojokniiaaGreatDoor.P
end
section
namespace Go.Proofs.YtfmdaiojokniiaaGreatDoor.P
open Go Go.aw
set_option maxRecDepth 100000
set_option maxHeartbeats 4000000
def tQ (s:Signed):Bool := !(decide ((s.set.data.length:Int)>20)) && !(decide ((s.sigs.length:Int)>20))
def tR (z:aF):Bool:=(z.ae.take 101).all tQ&&decide ((z.ae.length:Int)≤100)
theorem O2 (z:aF):au E 34 [z.enc] (· = .bool (tR z)):=by
 obtain ⟨ai,l⟩:=z;unfold tR;simp only;refine eP Tryz.func34 ?_;refine I.loop (κ:=Nat) (rg 2 32) (fun k=>[(3,.d (.int .i64 k))]) (fun _=>[]) (fun k=>k≤l.length∧k≤101∧(l.take k).all tQ=true) (fun k=>l.length - k) 0 ⟨Nat.zero_le _,by omega,rfl⟩ ?_ ?_
 ·exact sZ
 ·intro k hk IH;refine I.head ag Tryz.func34 2000 ?_;(conv=>whnf);refine aj (fun h5=>?_) (fun h5=>?_)
  ·have ah:k<l.length:=by simpa using h5
   obtain ⟨x,hx⟩:=aU ah;refine gO Tryz.func34 ?_;refine aj (fun h6=>?_) (fun h6=>?_)
   ·have Hy:k≤100:=by simp at h6; omega
    have eK:(l.take 101)[k]? = some x:=by rw [List.getElem?_take,if_pos (by omega)]; exact hx
    refine gO Tryz.func34 ?_;repeat' (first | with_reducible refine aT (bu hx) rfl ?_ | with_reducible refine cY ?_ | with_reducible refine cN ?_ | with_reducible refine aj (fun _=>?_) (fun _=>?_) | refine gA Tryz.func34 ?_ | refine gB ?_ | with_reducible rfl)
    all_goals first
     |(rw [gG eK (by simp_all [tQ]),Bool.false_and]; done)
     |skip
    all_goals
     refine gO Tryz.func34 ?_;refine I.back (IH (k+1) ⟨by omega,by omega,iD hk.2.2 hx (by simp_all [tQ])⟩ (by omega)) ?_;exact sZ
   ·have Hy:k=101:=by simp at h6; omega
    subst Hy;refine gO Tryz.func34 ?_;rw [hk.2.2,Bool.true_and];simp
  ·have aK:k=l.length:=by simp at h5; omega
   refine gO Tryz.func34 ?_;refine aN ?_;refine gO Tryz.func34 ?_;rw [show (l.take 101).all tQ=true by rw [List.take_of_length_le (by omega)]; exact pS hk.2.2 (by omega),Bool.true_and];simp
def wF (z:aF):Bool := !(decide (aO z.ae ⟨z.ai,4⟩<0)) && !(decide (aO z.ae ⟨z.ai,2⟩<0))&&z.ae.all fun s=>y8 s.set.type (s.set.name==z.ai)
def oD:Text→Option Text→List Signed→Bool
 |_,_,[]=>true
 |al,p,s::l=>(match p with
   |none=>true
   |some n=>if n==s.set.name then !((s.set.name != []&&s.set.type==3)||(s.set.name != []&&(s.set.name==if s.set.type==3 then s.set.name else al)&&s.set.type != 3&&s.set.type != 8)) else true)
  && oD (if s.set.type==3 then s.set.name else al) (some s.set.name) l
end Go.Proofs.YtfmdaiojokniiaaGreatDoor.P
end
section
namespace Go.Proofs.YtfmdaiojokniiaaGreatDoor.P
open Go Go.aw
set_option maxRecDepth 100000
set_option maxHeartbeats 4000000
def ke (ai:Text) (s:Signed):Bool:=s.set.type==2&&s.set.name != ai
def cx (ai:Text) (l:List Signed):List Text:=(l.filter (ke ai)).map (·.set.name)
theorem pU {ai:Text} {l:List Signed} {c:Text} (h:c∈cx ai l):∃ s∈l,s.set.name=c∧ke ai s=true:=by
 simp only [cx,List.mem_map,List.mem_filter] at h;obtain ⟨s,⟨h1,h2⟩,h3⟩:=h;exact ⟨s,h1,h3,h2⟩
def pV (out:List Text) (c:Text):List Text:=match out.getLast? with
 |none=>out++[c]
 |some d=>if Nm.under c d then out else out++[c]
def ja (l:List Text):List Text:=l.foldl pV []
theorem y9 {l:List Text}:∀ c∈ja l,c∈l:=by
 have:∀ (l o:List Text),∀ c∈l.foldl pV o,c∈o∨c∈l:=by
  intro l
  induction l with
  |nil=>intro o c h; exact .inl h
  |cons x l ih =>
   intro o c h;rcases ih (pV o x) c h with h | h
   ·have:c∈o∨c=x:=by
     unfold pV at h;split at h
     ·simpa using h
     ·split at h
      ·exact .inl h
      ·simpa using h
    rcases this with h | h
    ·exact .inl h
    ·exact .inr (by simp [h])
   ·exact .inr (List.mem_cons_of_mem _ h)
 intro c h;rcases this l [] c h with h | h
 ·simp at h
 ·exact h
end Go.Proofs.YtfmdaiojokniiaaGreatDoor.P
end
section
namespace Go.Proofs.YtfmdaiojokniiaaGreatDoor.P
open Go Go.aw
set_option maxRecDepth 100000
set_option maxHeartbeats 4000000
def iE (gH:List Text) (n:Text) (k:Nat):Nat:=k+((gH.drop k).takeWhile fun c=>decide (bO c n≤0)).length
theorem CV {gH:List Text} {n:Text} {k:Nat} (h:k≤gH.length):iE gH n k≤gH.length:=by
 unfold iE;have h1:((gH.drop k).takeWhile fun c=>decide (bO c n≤0)).length≤(gH.drop k).length:=(List.takeWhile_prefix _).length_le;simp at h1 ⊢;omega
def wG (gH:List Text) (n:Text) (k:Nat):Text:=if k=0 then [] else match gH[k - 1]? with
 |some c=>if Nm.under n c then c else []
 |none=>[]
def oE (gH:List Text):Nat→List Text→List Text
 |_,[]=>[]
 |k,n::ns=>wG gH n (iE gH n k)::oE gH (iE gH n k) ns
theorem Hz (gH:List Text):∀ (k:Nat) (ns:List Text),(oE gH k ns).length=ns.length
 |_,[]=>rfl
 |k,n::ns=>by simp [oE,Hz gH _ ns]
def kO (z:aF):List Text:=oE (ja (cx z.ai z.ae)) 0 (z.ae.map (·.set.name))
theorem wH (z:aF):(kO z).length=z.ae.length:=by simp [kO,Hz]
theorem wI {α:Type} {B:List α} {e x:α} {i n:Nat} (hB:B.length=n) (h:B[i]? = some x):(B.take i++List.replicate (n - i) e).set i x=B.take (i+1)++List.replicate (n - (i+1)) e:=by
 have hi:=aP h;rw [dm h,List.set_append_right _ _ (by simp; omega)];simp only [List.length_take,List.append_assoc]
 congr 1
 rw [show n - i=(n - (i+1))+1 by omega,List.replicate_succ];simp [Nat.min_eq_left (Nat.le_of_lt hi)]
theorem wJ {α:Type} {B:List α} {e:α} {i n:Nat} (hB:B.length=n) (hi:i<n):(B.take i++List.replicate (n - i) e)[i]? = some e:=by
 rw [List.getElem?_append_right (by simp; omega)];simp only [List.length_take];rw [show i - min i B.length=0 by omega];rw [List.getElem?_replicate,if_pos (by omega)]
end Go.Proofs.YtfmdaiojokniiaaGreatDoor.P
end
section
namespace Go.Proofs.YtfmdaiojokniiaaGreatDoor.P
open Go Go.aw
set_option maxRecDepth 100000
set_option maxHeartbeats 4000000
theorem CW {α β:Type} {a:List α} {b:List β} {k:Nat} {x:α} {y:β} (ha:a[k]? = some x) (hb:b[k]? = some y):(a.zip b)[k]? = some (x,y):=by
 rw [List.getElem?_zip_eq_some];exact ⟨ha,hb⟩
def tS (s:Signed) (b:Text):Bool:=b==[]||(s.set.type != 2&&s.set.type != 1)
def wK (z:aF):List Bool:=(z.ae.zip (kO z)).map fun p=>tS p.1 p.2
theorem O3 (z:aF):(wK z).length=z.ae.length:=by simp [wK,wH]
def jy (ai:Text) (s:Signed):Bool:=fF s.set&&Nm.under s.set.name ai
def jz (q s:Signed):Bool:=decide (nw q.set s.set<0)
def ny (z:aF):Bool:=Nm.valid z.ai && !oA z.ai && !(decide ((z.ae.length:Int)>20000))&&chain (jy z.ai) jz none z.ae
theorem zb {s:dc} (h:fF s=true):Nm.valid s.name=true:=by
 simp only [fF,Bool.and_eq_true] at h;exact h.1.1.1.1.1.1
structure aF.Fits (z:aF):Prop where
 ai:z.ai.length≤maxLen
 ae:∀ s∈z.ae,s.set.Fits
def rL (s:Signed) (b:Text):Bool := !(b != []&&s.set.type != 1 && !(b != []&&s.set.name==b)) && !((b != []&&s.set.name==b)&&s.set.type != 1&&s.set.type != 2&&s.set.type != 6&&s.set.type != 8) && !(s.set.type==6 && !(b != []&&s.set.name==b))
def CX (z:aF):Bool:=(z.ae.zip (kO z)).all fun p=>rL p.1 p.2
def zc (ai:Text) (s:Signed) (o:Bool):Bool:=nx s.sigs ai && !(!o&&decide ((s.sigs.length:Int)>0))
def HA (z:aF):Bool:=(z.ae.zip (wK z)).all fun p=>zc z.ai p.1 p.2
def ep (z:aF):Bool:=ny z&&(wF z&&(oD [] none z.ae&&(CX z&&HA z)))
theorem wL {α:Type} {ok:α→Bool} {rel:α→α→Bool}:∀ {p:Option α} {l:List α},chain ok rel p l=true→∀ x∈l,ok x=true
 |_,[],_,x,hx=>by simp at hx
 |p,y::l,h,x,hx=>by
  simp only [chain,Bool.and_eq_true] at h;rcases List.mem_cons.1 hx with rfl | hx
  ·exact h.1.1
  ·exact wL h.2 x hx
theorem wM {z:aF} (h:ny z=true):z.ae.length≤20000∧(∀ s∈z.ae,jy z.ai s=true)∧Nm.valid z.ai=true:=by
 simp only [ny,Bool.and_eq_true] at h;refine ⟨by have:=h.1.2; simp at this; omega,wL h.2,h.1.1.1⟩
end Go.Proofs.YtfmdaiojokniiaaGreatDoor.P
end
