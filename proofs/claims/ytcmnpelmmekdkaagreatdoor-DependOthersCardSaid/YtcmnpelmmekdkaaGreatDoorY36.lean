/- Several texts of mine, one behind the other. Conditions: as each says. -/
import Derived.Test.YtcmnpelmmekdkaaGreatDoorY34
import Derived.Test.YtcmnpelmmekdkaaGreatDoorY35
set_option linter.unusedVariables false
set_option linter.unusedSimpArgs false
section
namespace Go.Proofs.YtcmnpelmmekdkaaGreatDoor.P
open Go Go.ax
set_option maxRecDepth 100000
set_option maxHeartbeats 4000000
theorem Zk (q:aS) (hq:q.name.length≤maxLen):aA E 61 [q.enc] (· = .bool (fp q)):=by
 refine eP Tryz.func61 ?_;repeat' (first | with_reducible refine ar (lk _ hq) ?_ | with_reducible refine bg (lk _ hq) ?_ | with_reducible refine cY ?_ | with_reducible refine cN ?_ | with_reducible refine aw (fun _=>?_) (fun _=>?_) | refine gA Tryz.func61 ?_ | refine gB ?_ | refine gC ?_ | with_reducible rfl)
 all_goals (simp_all [fp] <;> omega)
theorem Zl (p q:aB) (hf:p.ay.Fits) (hg:q.ay.Fits) (h:eV p.ay=true) (k:eV q.ay=true):aA E 101 [p.enc,q.enc] (· = .bool (dV p q)):=by
 obtain ⟨ph,pz⟩:=p;obtain ⟨qh,qz⟩:=q;simp only at hf hg h k;show aA E _ [DV.agg [.int .i64 ph,.str pz.ab,.sl (pz.af.map Signed.enc)],DV.agg [.int .i64 qh,.str qz.ab,.sl (qz.af.map Signed.enc)]] _;refine eP Tryz.func101 ?_;refine ar (Ht pz hf h) ?_;refine gO Tryz.func101 ?_;refine ar (Ht qz hg k) ?_;refine gO Tryz.func101 ?_;repeat' (first | with_reducible refine cY ?_ | with_reducible refine cN ?_ | with_reducible refine aw (fun _=>?_) (fun _=>?_) | refine gA Tryz.func101 ?_ | refine gB ?_ | refine gC ?_ | with_reducible rfl)
 all_goals (simp_all [dV] <;> omega)
structure mX (l:List aB) (V:Int→DV) (k:Nat) (es:List (DV × DV)):Prop where
 keys:lA DV.str es
 find:∀ a,findD (.str a) es=if 0≤dS l a k then some (V (dS l a k)) else none
theorem mX.nil {l:List aB} {V:Int→DV}:mX l V 0 []:=⟨fun p hp=>by simp at hp,fun a=>rfl⟩
def kc (l:List aB) (p:aB) (k:Nat):Bool:=decide (dS l p.ay.ab k<0)||(match l[(dS l p.ay.ab k).toNat]? with | some q=>dV p q | none=>false)
theorem PM {l:List aB} {k:Nat} {p:aB} (h:l[k]? = some p) (a:Text):dS l a (k+1)=if p.ay.ab=a∧kc l p k=true then (k:Int) else dS l a k:=by
 show xH l a (dS l a k) k=_;unfold xH;rw [h];simp only;by_cases e:p.ay.ab=a
 ·subst e;rw [if_pos rfl];unfold kc;by_cases h0:dS l p.ay.ab k<0
  ·rw [if_pos h0,if_pos (by simp [h0])]
  ·rw [if_neg h0];cases hq:l[(dS l p.ay.ab k).toNat]? with
   |none=>simp [h0]
   |some q=>cases hf:dV p q <;> simp [h0]
 ·rw [if_neg e,if_neg (fun h=>e h.1)]
theorem mX.put {l:List aB} {V:Int→DV} {k:Nat} {es:List (DV × DV)} (M:mX l V k es) {p:aB} (h:l[k]? = some p) (hn:kc l p k=true):mX l V (k+1) (cD (.str p.ay.ab) (V k) es):=by
 refine ⟨Dh M.keys,fun a=>?_⟩;rw [Di rC M.keys,PM h];by_cases e:a=p.ay.ab
 ·subst e;have e2:(if p.ay.ab=p.ay.ab∧kc l p k=true then (k:Int) else dS l p.ay.ab k)=k:=if_pos ⟨rfl,hn⟩;rw [if_pos rfl,e2,if_pos (by omega)]
 ·have e2:(if p.ay.ab=a∧kc l p k=true then (k:Int) else dS l a k)=dS l a k:=if_neg fun h=>e h.1.symm;rw [if_neg e,e2];exact M.find a
theorem mX.skip {l:List aB} {V:Int→DV} {k:Nat} {es:List (DV × DV)} (M:mX l V k es) {p:aB} (h:l[k]? = some p) (hn:kc l p k=false):mX l V (k+1) es:=by
 refine ⟨M.keys,fun a=>?_⟩;have e2:(if p.ay.ab=a∧kc l p k=true then (k:Int) else dS l a k)=dS l a k:=if_neg fun h=>by rw [hn] at h; exact absurd h.2 (by decide)
 rw [PM h,e2];exact M.find a
def iK (l:List aB) (V:Int→DV):Nat→List (DV × DV)
 | 0=>[]
 |k+1=>match l[k]? with
  |some p=>if kc l p k then cD (.str p.ay.ab) (V k) (iK l V k) else iK l V k
  |none=>iK l V k
theorem DE {l:List aB} {V:Int→DV} {k:Nat} {p:aB} (h:l[k]? = some p):iK l V (k+1)=if kc l p k then cD (.str p.ay.ab) (V k) (iK l V k) else iK l V k:=by
 rw [iK,h]
theorem vu {l:List aB} {V:Int→DV}:∀ {k:Nat},k≤l.length→mX l V k (iK l V k)
 | 0,_ => .nil
 |k+1,hk=>by
  obtain ⟨p,hp⟩:=aY (l:=l) (k:=k) (by omega);have ih:=vu (V:=V) (l:=l) (k:=k) (by omega);rw [DE hp];cases e:kc l p k
  ·exact ih.skip hp e
  ·exact ih.put hp e
theorem s8 {es:List (DV × DV)} (h:lA DV.str es):∀ p∈es,ef E.T .string p.1:=fun p hp=>by
 obtain ⟨a,e⟩:=h p hp;exact ⟨a,e⟩
end Go.Proofs.YtcmnpelmmekdkaaGreatDoor.P
end
section
namespace Go.Proofs.YtcmnpelmmekdkaaGreatDoor.P
open Go Go.ax
set_option maxRecDepth 100000
set_option maxHeartbeats 4000000
@[reducible] def rJ (w : ca) (b : Nat) : List AV := [.d (.sl (w.cd.map Host.enc)), .d (.sl (w.aq.map aB.enc)), .d (.str w.anchor.name), .d (.int .i64 w.anchor.type), .d (.int .i64 w.anchor.gy), .d (.sl (w.anchor.data.map Datum.enc)), .d (.sl (w.hints.map (.int .i64))), .map b]
def kK (l:List aB) (k:Nat):List (DV × DV):=iK l (fun i => .int .i64 i) k
theorem Zq {l:List aB} {k:Nat} {p:aB} (h:l[k]? = some p):kK l (k+1)=if kc l p k then cD (.str p.ay.ab) (.int .i64 k) (kK l k) else kK l k:=DE h
theorem Zr (w:ca) (hf:∀ p∈w.aq,p.ay.Fits) (H:dW w.aq) (hl:w.aq.length≤1000000):aC E 62 [] [.d w.enc] (fun a b=>a = .agg (rJ w 2)∧b=[.cells (rJ w 2).dropLast,.cells (rJ w 2),.map (kK w.aq w.aq.length),.cells (rJ w 2)]):=by
 obtain ⟨cd,l,anchor,hints⟩:=w;simp only at hf H hl;show aC E _ [] [.d (DV.agg [.sl (cd.map Host.enc),.sl (l.map aB.enc),.str anchor.name,.int .i64 anchor.type,.int .i64 anchor.gy,.sl (anchor.data.map Datum.enc),.sl (hints.map (.int .i64))])] _;refine aC.run aj (fn:=Tryz.f62) Tryz.func62 (body:=Tryz.f62.body.getD .skip) rfl (by decide) 2000 rfl ?_;(conv=>whnf);refine gO Tryz.func62 ?_;refine aa.loop (κ:=Nat) (rg 4 4++rg 15 33) (fun k=>[(15,.d (.int .i64 k))]) (fun k=>[(2,.map (kK l k))]) (fun k=>k≤l.length) (fun k=>l.length - k) 0 (Nat.zero_le _) ?_ ?_
 ·(conv=>whnf);repeat (first | exact trivial | (refine sI ?_; conv=>whnf))
  refine And.intro rfl ?_;exact sZ
 intro k hk IH;refine aa.head aj Tryz.func62 2000 ?_;(conv=>whnf);refine aw (fun h5=>?_) (fun h5=>?_)
 ·have ai:k<l.length:=by simpa using h5
  obtain ⟨x,hx⟩:=aY ai;have bS:=Zq hx;have M:mX l (fun i => .int .i64 i) k (kK l k):=vu hk;have dr:=M.find x.ay.ab;have gX:=rI (l:=l) (ab:=x.ay.ab) (n:=k);have dD:=s8 M.keys;have lh:=List.mem_of_getElem? hx;have iT:kc l x k=(decide (dS l x.ay.ab k<0)||(match l[(dS l x.ay.ab k).toNat]? with | some q=>dV x q | none=>false)):=rfl;generalize dS l x.ay.ab k=b at dr gX iT;generalize kK l k=es at *;refine gO Tryz.func62 ?_;refine aF (e:=x.enc) (a7 hx) rfl ?_;refine gO Tryz.func62 ?_;by_cases h0:0≤b
  ·rw [if_pos h0] at dr;obtain ⟨m,rfl⟩:∃ m:Nat,b=m:=⟨b.toNat,by omega⟩;obtain ⟨y,hy⟩:=aY (l:=l) (k:=m) (by omega);have Gg:=List.mem_of_getElem? hy;rw [Int.toNat_natCast,hy] at iT;have vv:kc l x k=dV x y:=by
    have:¬ ((m:Int)<0):=by omega
    rw [iT]; simp [this]
   clear iT;rw [vv] at bS;refine iR (.int .i64 0) (.int .i64 0) (v := .int .i64 m) (f:=true) ⟨_,rfl⟩ dD (fun w=>by kernel_rfl) (fun _ _ => .int _ _) (by rw [dr]; rfl) (by rw [dr]; rfl) ?_;refine gO Tryz.func62 ?_;refine aa.draw aj bW 11 2000 (by kernel_rfl) ?_;(conv=>whnf);refine ba ?_;refine gD ?_;refine aF (e:=y.enc) (a7 hy) rfl ?_;refine gD ?_;refine bg (Zl x y (hf x lh) (hf y Gg) (H x lh) (H y Gg)) ?_;refine gD ?_;refine gS ?_;refine gO Tryz.func62 ?_;cases pX:dV x y
   ·rw [pX,if_neg (by decide)] at bS;refine ba ?_;refine gO Tryz.func62 ?_;refine aa.back (IH (k+1) (by omega) (by omega)) ?_;rw [bS];exact sZ
   ·rw [pX,if_pos rfl] at bS;refine bq ?_;refine gO Tryz.func62 ?_;refine bQ ⟨⟨_,rfl⟩,dD⟩ ?_;refine gO Tryz.func62 ?_;refine aa.back (IH (k+1) (by omega) (by omega)) ?_;rw [bS];exact sZ
  ·rw [if_neg h0] at dr;have vv:kc l x k=true:=by rw [iT]; simp; omega
   rw [vv,if_pos rfl] at bS;refine iR (.int .i64 0) (.int .i64 0) (v := .int .i64 0) (f:=false) ⟨_,rfl⟩ dD (fun w=>by kernel_rfl) (fun _ _ => .int _ _) (by rw [dr]; rfl) (by rw [dr]; rfl) ?_;refine gO Tryz.func62 ?_;refine aa.draw aj bW 11 2000 (by kernel_rfl) ?_;(conv=>whnf);refine bq ?_;refine gD ?_;refine gS ?_;refine gO Tryz.func62 ?_;refine bq ?_;refine gO Tryz.func62 ?_;refine bQ ⟨⟨_,rfl⟩,dD⟩ ?_;refine gO Tryz.func62 ?_;refine aa.back (IH (k+1) (by omega) (by omega)) ?_;rw [bS];exact sZ
 ·have aP:l.length≤k:=by simpa using h5
  obtain rfl:k=l.length:=by omega
  refine gO Tryz.func62 ?_;exact ⟨rfl,rfl⟩
theorem AN {l:List aB} {ab:Text} {p:aB} {m:Nat} (h:dS l ab l.length=m) (hp:l[m]? = some p):dz l ab=some p.ay:=by
 unfold dz fh;rw [h,Int.toNat_natCast,hp];simp
theorem PO {l:List aB} {ab:Text} (h:¬ 0≤dS l ab l.length):dz l ab=none:=by
 unfold dz fh;split
 ·rw [if_neg h]
 ·rfl
theorem AO {z:aU} {q:aS} (h:eV z=true) (hq:fp q=true):pQ z q=bO z q∧pP z q=0:=by
 have:pP z q=0:=by simp [pP,h,hq]
 exact ⟨by rw [pQ,if_pos this],this⟩
theorem PQ (w:ca) (q:aS) (hf:∀ p∈w.aq,p.ay.Fits) (H:dW w.aq) (hl:w.aq.length≤1000000) (hq:fp q=true) (hd:dep q.name<64) (hu:Nm.under q.name [46]=true):aC E 63 [.map (kK w.aq w.aq.length)] [.agg (rJ w 0),.d q.enc] (fun a b=>a=(match fB w.aq q 64 [46] with | some x => .aL [.d x.enc,.d (.bool true)] | none => .aL [.d (.agg [.int .i64 0,.a8,.str []]),.d (.bool false)])∧cU 1 [] 0 b=[.map (kK w.aq w.aq.length)]):=by
 have M:mX w.aq (fun i => .int .i64 i) w.aq.length (kK w.aq w.aq.length):=vu (Nat.le_refl _);have dD:=s8 M.keys;have rl:Nm.valid q.name=true:=by simp only [fp,Bool.and_eq_true] at hq; exact hq.1
 have hqn:=fF rl;have F:=Ij H;obtain ⟨cd,l,anchor,hints⟩:=w;simp only at hf H hl M dD F ⊢;obtain ⟨es,jg⟩:∃ es,kK l l.length=es:=⟨_,rfl⟩;rw [jg] at M dD ⊢;obtain ⟨FR,xP⟩:∃ x,fB l q 64 [46]=x:=⟨_,rfl⟩;rw [xP];refine aC.run aj (fn:=Tryz.f63) Tryz.func63 (body:=Tryz.f63.body.getD .skip) rfl (by decide) 2000 rfl ?_;(conv=>whnf);refine aa.loop (κ:=Nat × Text) [5,6,7,8,9,10,11,12,13,14,15,16,17,18,19,20,21,22,23,24,25,26,27,28,29,30,31,32,33,34,35,36,37,38] (fun x=>[(6,.d (.str x.2))]) (fun _=>[]) (fun x=>Nm.under q.name x.2=true∧dep q.name<x.1+dep x.2∧FR=fB l q x.1 x.2) (fun x=>x.1) (64,[46]) ⟨hu,by omega,xP.symm⟩ ?_ ?_
 ·exact sZ
 rintro ⟨n,ab⟩ ⟨h1,h2,h3⟩ IH;simp only at h1 h2 h3;obtain ⟨n,rfl⟩:∃ m,n=m+1:=⟨n - 1,by have:=Ig h1; omega⟩;have dr:=M.find ab;have gX:=rI (l:=l) (ab:=ab) (n:=l.length);rw [fB] at h3;refine aa.head aj Tryz.func63 2000 ?_;(conv=>whnf);by_cases h0:0≤dS l ab l.length
 ·rw [if_pos h0] at dr;obtain ⟨m,hm⟩:∃ m:Nat,dS l ab l.length=m:=⟨(dS l ab l.length).toNat,by omega⟩;obtain ⟨p,hp⟩:=aY (l:=l) (k:=m) (by omega);have zr:=List.mem_of_getElem? hp;rw [AN hm hp] at h3;simp only at h3;rw [hm] at dr;refine iR (.int .i64 0) (.int .i64 0) (v := .int .i64 m) (f:=true) ⟨_,rfl⟩ dD (fun w=>by kernel_rfl) (fun _ _ => .int _ _) (by simp only [dr]; rfl) (by simp only [dr]; rfl) ?_;refine gO Tryz.func63 ?_;refine ba ?_;refine gO Tryz.func63 ?_;obtain ⟨a1,a2⟩:=AO (H p zr) hq;have c1:=Az p.ay q (hf p zr) (o9 (by omega));rw [a1,a2] at c1;refine aa.Lm aj bW 12 2000 (by kernel_rfl) ?_;(conv=>whnf);refine aF (e:=p.enc) (a7 hp) rfl ?_;refine gD ?_;refine bg (c1) ?_;refine gD ?_;refine gS ?_;refine gO Tryz.func63 ?_;by_cases h4:(bO p.ay q).kind=4
  ·rw [if_pos h4] at h3;obtain ⟨f1,f2⟩:=F ab p.ay q (AN hm hp) h4;refine aI (by simpa using h4) ?_;refine gO Tryz.func63 ?_;refine aa.back (IH (n,(bO p.ay q).cut) ⟨f1,by simp only; omega,h3⟩ (by simp)) ?_;exact sZ
  ·rw [if_neg h4] at h3;rw [h3];refine aM (by simpa using h4) ?_;refine gO Tryz.func63 ?_;exact ⟨rfl,rfl⟩
 ·rw [if_neg h0] at dr;rw [PO h0] at h3;rw [h3];refine iR (.int .i64 0) (.int .i64 0) (v := .int .i64 0) (f:=false) ⟨_,rfl⟩ dD (fun w=>by kernel_rfl) (fun _ _ => .int _ _) (by simp only [dr]; rfl) (by simp only [dr]; rfl) ?_;refine gO Tryz.func63 ?_;refine bq ?_;refine gO Tryz.func63 ?_;exact ⟨rfl,rfl⟩
theorem Zs (w:ca) (q:aS) (hf:∀ p∈w.aq,p.ay.Fits) (H:dW w.aq) (hl:w.aq.length≤1000000) (hq:fp q=true) (hd:dep q.name<64) (hu:Nm.under q.name [46]=true) {x:ia} (h:fB w.aq q 64 [46]=some x):aC E 63 [.map (kK w.aq w.aq.length)] [.agg (rJ w 0),.d q.enc] (fun a b=>a = .aL [.d x.enc,.d (.bool true)]∧b=[.map (kK w.aq w.aq.length)]):=by
 have c:=PQ w q hf H hl hq hd hu;rw [h] at c;exact aC.kG c rfl
theorem Zt (w:ca) (q:aS) (hf:∀ p∈w.aq,p.ay.Fits) (H:dW w.aq) (hl:w.aq.length≤1000000) (hq:fp q=true) (hd:dep q.name<64) (hu:Nm.under q.name [46]=true) (h:fB w.aq q 64 [46]=none):aC E 63 [.map (kK w.aq w.aq.length)] [.agg (rJ w 0),.d q.enc] (fun a b=>a = .aL [.d (.agg [.int .i64 0,.a8,.str []]),.d (.bool false)]∧b=[.map (kK w.aq w.aq.length)]):=by
 have c:=PQ w q hf H hl hq hd hu;rw [h] at c;exact aC.kG c rfl
end Go.Proofs.YtcmnpelmmekdkaaGreatDoor.P
end
