/- Several texts of mine, one behind the other. Conditions: as each says. -/
import Derived.Test.YtfmdaiojokniiaaGreatDoorW11
set_option linter.unusedVariables false
set_option linter.unusedSimpArgs false
section
namespace Go.Proofs.YtfmdaiojokniiaaGreatDoor.P
open Go Go.aw
set_option maxRecDepth 100000
theorem wB (x a b:Int):au E 277 [.int .i64 x,.int .i64 a,.int .i64 b] (· = .bool (decide (a≤x)&&decide (x≤b))):=by
 refine eP Tryz.func277 ?_;refine aj (fun h=>?_) (fun h=>?_)
 ·refine gO Tryz.func277 ?_;rw [h]; rfl
 ·refine gO Tryz.func277 ?_;rw [h]; rfl
theorem Hj (x a b:Int):au E 350 [.int .u8 x,.int .u8 a,.int .u8 b] (· = .bool (decide (a≤x)&&decide (x≤b))):=by
 refine eP Tryz.func350 ?_;refine aj (fun h=>?_) (fun h=>?_)
 ·refine gO Tryz.func350 ?_;rw [h]; rfl
 ·refine gO Tryz.func350 ?_;rw [h]; rfl
theorem Hk (x:Int):au E 176 [.int .i64 x] (· = .bool false):=by
 refine eP Tryz.func176 ?_;simp
theorem Hl (x:List UInt8):au E 351 [.str x] (· = .bool false):=by
 refine eP Tryz.func351 ?_;simp
def iZ (a b:Int):Int:=if a<b then -1 else if b<a then 1 else 0
theorem yV (a b:Int):au E 101 [.int .i64 a,.int .i64 b] (· = .int .i64 (iZ a b)):=by
 refine eP Tryz.func101 ?_;repeat' (first | with_reducible refine ar (Hk _) ?_ | with_reducible refine aR (Hk _) ?_ | with_reducible refine cY ?_ | with_reducible refine cN ?_ | with_reducible refine aj (fun _=>?_) (fun _=>?_) | refine gA Tryz.func101 ?_ | refine gB ?_ | with_reducible rfl)
 all_goals (simp_all [iZ])
 all_goals omega
def yW (a b:List UInt8):Int:=if Op.bytesLess a b then -1 else if a=b then 0 else 1
theorem OE (a b:List UInt8):au E 332 [.str a,.str b] (· = .int .i64 (yW a b)):=by
 refine eP Tryz.func332 ?_;repeat' (first | with_reducible refine ar (Hl _) ?_ | with_reducible refine aR (Hl _) ?_ | with_reducible refine cY ?_ | with_reducible refine cN ?_ | with_reducible refine aj (fun _=>?_) (fun _=>?_) | refine gA Tryz.func332 ?_ | refine gB ?_ | with_reducible rfl)
 all_goals (simp_all [yW])
end Go.Proofs.YtfmdaiojokniiaaGreatDoor.P
end
section
namespace Go.Proofs.YtfmdaiojokniiaaGreatDoor.P
open Go Go.aw
set_option maxRecDepth 100000
def rJ:List Int→Int
 | []=>0
 |x::l=>if x=0 then rJ l else x
theorem CO {l:List Int}:∀ {k:Nat},(∀ j,j<k→l[j]? = some 0)→rJ l=rJ (l.drop k)
 | 0,_=>rfl
 |k+1,h=>by
  cases l with
  |nil=>rfl
  |cons x l =>
   have h0:=h 0 (by omega);simp at h0;subst h0;simp only [rJ,if_true,List.drop_succ_cons];exact CO fun j hj=>by have:=h (j+1) (by omega); simpa using this
theorem OF (l:List Int) (hl:l.length≤2147483648):au E 331 [.sl (l.map (.int .i64))] (· = .int .i64 (rJ l)):=by
 refine eP Tryz.func331 ?_;refine I.loop (κ:=Nat) ([2,5]++rg 8 9) (fun k=>[(8,.d (.int .i64 k)),(2,.d (.int .i64 0))]) (fun _=>[]) (fun k=>k≤l.length∧∀ j,j<k→l[j]? = some 0) (fun k=>l.length - k) 0 ⟨Nat.zero_le _,fun j h=>by omega⟩ ?_ ?_
 ·exact sZ
 ·intro k hk IH;refine I.head ag Tryz.func331 2000 ?_;(conv=>whnf);refine aj (fun h1=>?_) (fun h1=>?_)
  ·simp at h1;obtain ⟨x,hx⟩:=aU h1;refine gO Tryz.func331 ?_;refine gv (.int .i64 x) (by omega) (nr hx) rfl ?_;refine gO Tryz.func331 ?_;refine aj (fun h2=>?_) (fun h2=>?_)
   ·refine gO Tryz.func331 ?_;have aE:x≠0:=by simpa using h2
    rw [CO hk.2,List.drop_eq_getElem_cons h1];have:l[k]=x:=by simpa [h1] using hx
    simp only [rJ,this,if_neg aE]
   ·refine gO Tryz.func331 ?_;have h0:x=0:=by simpa using h2
    subst h0;refine I.back (IH (k+1) ⟨by omega,fun j hj=>?_⟩ (by omega)) ?_
    ·rcases Nat.lt_or_ge j k with h | h
     ·exact hk.2 j h
     ·obtain rfl:j=k:=by omega
      exact hx
    ·exact sZ
  ·simp at h1;refine gO Tryz.func331 ?_;rw [CO hk.2,List.drop_of_length_le h1];rfl
def wC (a b:Datum):Int:=rJ [yW a.text b.text,iZ a.n b.n,iZ a.m b.m]
theorem OG (a b:Datum):au E 280 [a.enc,b.enc] (· = .int .i64 (wC a b)):=by
 refine eP Tryz.func280 ?_;refine I.bU ag bV 2000 (by kernel_rfl) ?_;(conv=>whnf);refine aR (OE _ _) ?_;refine gD ?_;refine aR (yV _ _) ?_;refine gD ?_;refine aR (yV _ _) ?_;refine gD ?_;refine aR (OF [yW a.text b.text,iZ a.n b.n,iZ a.m b.m] (by simp)) ?_;refine gD ?_;refine gO Tryz.func280 ?_;rfl
def preB (a b:List UInt8):Bool:=b.isPrefixOf a
theorem OH {a b:List UInt8}:(a.take b.length==b)=preB a b:=by
 unfold preB;rw [Bool.eq_iff_iff,beq_iff_eq,List.isPrefixOf_iff_prefix];constructor
 ·intro e; rw [← e]; exact List.take_prefix _ _
 ·intro e; exact (List.prefix_iff_eq_take.1 e).symm
theorem OI {a b:List UInt8} (h:a.length<b.length):preB a b=false:=by
 unfold preB;rw [Bool.eq_false_iff];intro e;have:=(List.isPrefixOf_iff_prefix.1 e).length_le;omega
theorem OJ (a b:List UInt8):au E 207 [.str a,.str b] (· = .bool (preB a b)):=by
 refine eP Tryz.func207 ?_;refine aj (fun h=>?_) (fun h=>?_)
 ·simp at h;refine gO Tryz.func207 ?_;refine bp ⟨by simp,by simp,by simp; omega⟩ ?_;refine gO Tryz.func207 ?_;simp;exact OH
 ·simp at h;refine gO Tryz.func207 ?_;rw [OI h]
theorem yX (a b:List UInt8):au E 133 [.str a,.str b] (· = .bool (preB a b)):=by
 refine eP Tryz.func133 ?_
 with_reducible refine ar (OJ _ _) ?_
 refine gO Tryz.func133 ?_
 with_reducible rfl
theorem Hm (a:List UInt8):preB a [42]=Nm.iW a:=by
 cases a with
 |nil=>rfl
 |cons c a =>
  show ((42:UInt8)==c&&List.isPrefixOf [] a)=(c==42);simp only [List.isPrefixOf,Bool.and_true];exact BEq.comm
theorem yY (a:List UInt8):au E 278 [.str a] (· = .bool (Nm.iW a)):=by
 refine eP Tryz.func278 ?_
 with_reducible refine ar (yX _ _) ?_
 refine gO Tryz.func278 ?_;exact congrArg _ (Hm a)
def pR (c:UInt8):Bool:=(decide (97≤(c.toNat:Int))&&decide ((c.toNat:Int)≤122))||(decide (48≤(c.toNat:Int))&&decide ((c.toNat:Int)≤57))||((c.toNat:Int)==32)
def iV (t:List UInt8):Bool:=decide (1≤(t.length:Int))&&decide ((t.length:Int)≤40) && !(t.head?.any fun c=>(c.toNat:Int)==32) && !(t.getLast?.any fun c=>(c.toNat:Int)==32)&&t.all pR
theorem OL {t:List UInt8} (h1:1≤t.length) (h2:t.length≤40) {c0 c1:UInt8} (h3:t[0]? = some c0) (h4:t[t.length - 1]? = some c1) (h5:((c0.toNat:Int)==32)=false) (h6:((c1.toNat:Int)==32)=false):iV t=t.all pR:=by
 have e1:t.head? = some c0:=by rw [← h3]; exact List.head?_eq_getElem?
 have e2:t.getLast? = some c1:=by rw [← h4,List.getLast?_eq_getElem?]
 have e3:decide (1≤(t.length:Int))=true:=by simp; omega
 have e4:decide ((t.length:Int)≤40)=true:=by simp; omega
 simp only [iV,e1,e2,e3,e4,Option.any_some,h5,h6,Bool.not_false,Bool.and_self,Bool.true_and]
theorem okF {a b:Bool} {x y:Int} (h1:(!a)=true) (h2:(!b)=true) (h3:(x != y)=true):(a||b||(x==y))=false:=by
 cases a <;> cases b <;> simp_all
theorem OM {a b d:Bool} (h:(!a)=false):(a||b||d)=true:=by cases a <;> simp_all
theorem ON {a b d:Bool} (h:(!b)=false):(a||b||d)=true:=by cases b <;> simp_all
theorem OO {a b:Bool} {x y:Int} (h:(x != y)=false):(a||b||(x==y))=true:=by simp_all
theorem Hn (t:List UInt8):au E 330 [.str t] (· = .bool (iV t)):=by
 refine eP Tryz.func330 ?_
 with_reducible refine ar (wB _ _ _) ?_
 refine gO Tryz.func330 ?_;refine aj (fun h1=>?_) (fun h1=>?_)
 ·refine gO Tryz.func330 ?_;refine aY ?_;refine gO Tryz.func330 ?_;refine aY ?_;refine gO Tryz.func330 ?_;have:(decide (1≤(t.length:Int))&&decide ((t.length:Int)≤40))=false:=by rw [Bool.not_eq_true'] at h1; exact h1
  simp only [iV,this,Bool.false_and]
 ·have hb:1≤t.length∧t.length≤40:=by simp at h1; omega
  obtain ⟨c0,wD⟩:=aU (l:=t) (k:=0) (by omega);obtain ⟨c1,kp⟩:=aU (l:=t) (k:=t.length - 1) (by omega);have hw:(IntKind.i64.wrap (t.length - 1))=((t.length - 1:Nat):Int):=by rw [wrap64 (by omega) (by omega)]; omega
  refine gO Tryz.func330 ?_;refine l8 c0 (by decide) wD ?_;refine gO Tryz.func330 ?_;refine aj (fun h2=>?_) (fun h2=>?_)
  ·refine gO Tryz.func330 ?_;refine aY ?_;refine gO Tryz.func330 ?_;have e1:t.head? = some c0:=by rw [← wD]; exact List.head?_eq_getElem?
   simp only [iV,e1,Option.any_some,h2,Bool.not_true,Bool.and_false,Bool.false_and]
  ·refine gO Tryz.func330 ?_;rw [hw];refine l8 c1 (by omega) (by rw [Int.toNat_natCast]; exact kp) ?_;refine gO Tryz.func330 ?_;refine aj (fun h3=>?_) (fun h3=>?_)
   ·refine gO Tryz.func330 ?_;have e2:t.getLast? = some c1:=by rw [← kp,List.getLast?_eq_getElem?]
    simp only [iV,e2,Option.any_some,h3,Bool.not_true,Bool.and_false,Bool.false_and]
   ·rw [OL hb.1 hb.2 wD kp h2 h3];refine gO Tryz.func330 ?_;refine I.loop (κ:=Nat) ([3,4,2]++rg 24 19) (fun k=>[(24,.d (.int .i64 k))]) (fun _=>[]) (fun k=>k≤t.length∧∀ j c,j<k→t[j]? = some c→pR c=true) (fun k=>t.length - k) 0 ⟨Nat.zero_le _,fun j c h=>by omega⟩ ?_ ?_
    ·exact sZ
    ·intro k hk IH;have no:∀ c,t[k]? = some c→pR c=false→t.all pR=false:=fun c hc h=>by
      rw [Bool.eq_false_iff];intro a7;have:=List.all_eq_true.1 a7 c (List.mem_of_getElem? hc);rw [h] at this;cases this
     refine I.head ag Tryz.func330 2000 ?_;(conv=>whnf);refine aj (fun h4=>?_) (fun h4=>?_)
     ·simp at h4;obtain ⟨c,hc⟩:=aU h4;have next:pR c=true→∀ j c',j<k+1→t[j]? = some c'→pR c'=true:=fun ho j c' hj uV=>by
       rcases Nat.lt_or_ge j k with h | h
       ·exact hk.2 j c' h uV
       ·obtain rfl:j=k:=by omega
        rw [hc] at uV; cases uV; exact ho
      refine gO Tryz.func330 ?_;refine l8 c (by omega) (by rw [Int.toNat_natCast]; exact hc) ?_;refine gO Tryz.func330 ?_
      with_reducible refine ar (Hj _ _ _) ?_
      refine gO Tryz.func330 ?_;refine aj (fun h5=>?_) (fun h5=>?_)
      ·refine gO Tryz.func330 ?_
       with_reducible refine ar (Hj _ _ _) ?_
       refine gO Tryz.func330 ?_;refine aj (fun h6=>?_) (fun h6=>?_)
       ·refine gO Tryz.func330 ?_;refine aj (fun h7=>?_) (fun h7=>?_)
        ·refine gO Tryz.func330 ?_;rw [no c hc (okF h5 h6 h7)]
        ·refine gO Tryz.func330 ?_;refine I.back (IH (k+1) ⟨by omega,next (OO h7)⟩ (by omega)) ?_;exact sZ
       ·refine gO Tryz.func330 ?_;refine aN ?_;refine gO Tryz.func330 ?_;refine I.back (IH (k+1) ⟨by omega,next (ON h6)⟩ (by omega)) ?_;exact sZ
      ·refine gO Tryz.func330 ?_;refine aN ?_;refine gO Tryz.func330 ?_;refine aN ?_;refine gO Tryz.func330 ?_;refine I.back (IH (k+1) ⟨by omega,next (OM h5)⟩ (by omega)) ?_;exact sZ
     ·simp at h4;refine gO Tryz.func330 ?_;have:t.all pR=true:=by
       rw [List.all_eq_true];intro c hc;obtain ⟨j,hj⟩:=List.getElem?_of_mem hc;exact hk.2 j c (by have:=aP hj; omega) hj
      rw [this]
end Go.Proofs.YtfmdaiojokniiaaGreatDoor.P
end
