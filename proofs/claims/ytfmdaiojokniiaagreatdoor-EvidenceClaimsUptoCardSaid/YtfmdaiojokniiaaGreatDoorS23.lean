/- Lemmas of mine. Conditions: as stated. -/
import Derived.Test.YtfmdaiojokniiaaGreatDoorS17
import Derived.Test.YtfmdaiojokniiaaGreatDoorS20
set_option linter.unusedVariables false
set_option linter.unusedSimpArgs false
open Bool renaming eq_iff_iff->ahf
open List renaming range->aeU,take_of_length_le->afS,mem_of_getElem?->afh,take_length->ahj,mem_range->agq
section
namespace Go.Proofs.YtfmdaiojokniiaaGreatDoor.P
open Go Go.aA
set_option maxRecDepth 100000
set_option maxHeartbeats 4000000
theorem ZL(x y:Signed)(h1:x.set.data.length<=2147483648)(h2:x.sigs.length<=2147483648):ar E 112 [x.enc,y.enc] (· = .bool (decide (x=y))):=by
 obtain⟨⟨a1,a2,a3,a4⟩,a5⟩:=x;obtain⟨⟨b1,b2,b3,b4⟩,b5⟩:=y;simp only at h1 h2;have c1:=ZJ a4 b4 h1;have c2:=ZK a5 b5 h2;show ar E _ [DV.agg [.str a1,.int .i64 a2,.int .i64 a3,.sl (a4.map Datum.enc),.sl (a5.map c9.enc)],DV.agg [.str b1,.int .i64 b2,.int .i64 b3,.sl (b4.map Datum.enc),.sl (b5.map c9.enc)]] _;refine eP Tryz.func112 ?_;repeat' (first|with_reducible(first|refine aq (c1) ?_|refine ax (c1) ?_|refine aq (c2) ?_|refine ax (c2) ?_|refine cY ?_|refine cN ?_|refine ai (fun _=>?_) (fun _=>?_))|refine gA Tryz.func112 ?_|refine gB ?_|with_reducible rfl)
 all_goals
  refine congrArg DV.bool ?_;rw[ahf];simp_all
theorem ZM(a b:List Signed)(hl:a.length<=2147483648)(he:∀ s∈a,s.set.data.length<=2147483648/\s.sigs.length<=2147483648):aw E 111 [] [.d (.sl (a.map Signed.enc)),.d (.sl (b.map Signed.enc)),.fn (.func 112) [] []] (fun x y=>x=.d (.bool (decide (a=b)))/\y=[]):=by
 apply aw.kK
 case hk=>rfl
 refine aw.run ag (fn:=Tryz.f111) Tryz.func111 (body:=Tryz.f111.body.getD .skip) rfl (by decide) 2000 rfl ?_;(conv=>whnf);refine ai (fun h3=>?_) (fun h3=>?_)
 ·have aJ:a≠b:=by rintro rfl;simp at h3
  rw[decide_eq_false aJ];refine gO F111 ?_;exact⟨rfl,rfl⟩
 have oQ:a.length=b.length:=by simp at h3;omega
 refine gO F111 ?_;refine J.loop (κ:=Nat) (rg 6 4++rg 17 15) (fun k=>[(17,.d (.int .i64 k))]) (fun _=>[]) (fun k=>k<=a.length/\a.take k=b.take k) (fun k=>a.length-k) 0 ⟨Nat.zero_le _,rfl⟩ ?_ ?_
 ·exact sZ
 intro k hk IH;refine J.head ag F111 2000 ?_;(conv=>whnf);refine ai (fun h7=>?_) (fun h7=>?_)
 ·have ah:k<a.length:=by simpa using h7
  obtain⟨u,hu⟩:=aH ah;obtain⟨w,hw⟩:=aH (l:=b) (k:=k) (by omega);have A8:=he u (afh hu);have c1:=ZL u w A8.1 A8.2;refine gO F111 ?_;refine aD (e:=u.enc) (aO hu) rfl ?_;refine gO F111 ?_;refine aD (e:=w.enc) (aO hw) rfl ?_;refine gO F111 ?_;refine aq (c1) ?_;refine gO F111 ?_;by_cases h8:u=w
  ·rw[decide_eq_true h8];refine aR ?_;refine gO F111 ?_;refine J.back (IH (k+1) ⟨by omega,pg hk.2 hu hw h8⟩ (by omega)) ?_;exact sZ
  ·rw[decide_eq_false h8];refine a8 ?_;refine gO F111 ?_;rw[decide_eq_false (mL hu hw h8)];exact⟨rfl,rfl⟩
 ·have aC:k=a.length:=by simp at h7;omega
  have vQ:a=b:=pj hk.2 (by omega) (by omega);refine gO F111 ?_;exact⟨by simp[vQ],rfl⟩
theorem ZN(a b:dZ)(hl:a.ae.length<=2147483648)(he:∀ s∈a.ae,s.set.data.length<=2147483648/\s.sigs.length<=2147483648):ar E 44 [a.enc,b.enc] (· = .bool (decide (a=b))):=by
 have c1:=ZM a.ae b.ae hl he;obtain⟨a1,a2,a3⟩:=a;obtain⟨b1,b2,b3⟩:=b;simp only at c1;show ar E _ [DV.agg [.int .i64 a1,.sl (a2.map Signed.enc),.str a3],DV.agg [.int .i64 b1,.sl (b2.map Signed.enc),.str b3]] _;refine eP Tryz.func44 ?_;repeat' (first|with_reducible(first|refine cY ?_|refine cN ?_|refine ai (fun _=>?_) (fun _=>?_))|refine gA Tryz.func44 ?_|refine gB ?_|with_reducible rfl)
 all_goals try (refine congrArg DV.bool ?_;simp_all;done)
 refine jK c1 ?_;rintro r b ⟨rfl,rfl⟩;refine gO Tryz.func44 ?_;refine congrArg DV.bool ?_;rw[ahf];simp_all
theorem O9(a:dZ):ar E 42 [a.enc] (· = .bool (nK a)):=by
 obtain⟨a1,a2,a3⟩:=a;show ar E _ [DV.agg [.int .i64 a1,.sl (a2.map Signed.enc),.str a3]] _;unfold nK;refine eP Tryz.func42 ?_;repeat' (first|with_reducible(first|refine cY ?_|refine cN ?_|refine ai (fun _=>?_) (fun _=>?_))|refine gA Tryz.func42 ?_|refine gB ?_|with_reducible rfl)
 all_goals (refine congrArg DV.bool ?_;simp_all)
def qv(x:c7):Bool:=fM x.q&&(nH x.answer||nK x.answer)&&decide (0<=x.time)&&decide (x.time<=10000000)&&decide (1<=x.addr)&&decide (x.addr<=1000000)
theorem ZO(x:c7)(hf:x.cV):ar E 41 [x.enc] (· = .bool (qv x)):=by
 have c1:=gU x.q.name hf.1;have c2:=O9 x.answer;have c3:=MB x.q x.answer hf.1 hf.2;obtain⟨t,ad,⟨qn,qt⟩,⟨ak,al,ac⟩⟩:=x;unfold G4 fM at c3;unfold qv fM;simp only at c1 c2 c3 ⊢;show ar E _ [DV.agg [.int .i64 t,.int .i64 ad,.str qn,.int .i64 qt,.int .i64 ak,.sl (al.map Signed.enc),.str ac]] _;refine eP Tryz.func41 ?_;repeat' (first|with_reducible(first|refine aq (c1) ?_|refine ax (c1) ?_|refine aq (c2) ?_|refine ax (c2) ?_|refine aq (c3) ?_|refine ax (c3) ?_|refine cY ?_|refine cN ?_|refine ai (fun _=>?_) (fun _=>?_))|refine gA Tryz.func41 ?_|refine gB ?_|with_reducible rfl)
 all_goals (refine congrArg DV.bool ?_;simp_all;try omega)
theorem ZP(l:List Int)(n:Int)(hl:l.length<=maxLen):ar E 23 [.sl (l.map (.int .i64)),.int .i64 n] (· = .bool (decide (n∈l))):=by
 unfold maxLen at hl;refine eP F23 ?_;refine J.loop (κ:=Nat) (rg 4 14) (fun k=>[(5,.d (.int .i64 k))]) (fun _=>[]) (fun k=>k<=l.length/\n ∉ l.take k) (fun k=>l.length-k) 0 ⟨Nat.zero_le _,by simp⟩ ?_ ?_
 ·exact sZ
 rintro k ⟨hk,bI⟩ IH;refine J.head ag F23 2000 ?_;(conv=>whnf);refine ai (fun h5=>?_) (fun h5=>?_)
 ·have ah:k<l.length:=by simpa using h5
  obtain⟨x,hx⟩:=aH ah;refine gO F23 ?_;refine aD (e := .int .i64 x) (aO hx) rfl ?_;refine gO F23 ?_;refine ai (fun h8=>?_) (fun h8=>?_)
  ·have:n∈l:=by
    have e:x=n:=by simpa using h8
    exact e ▸ afh hx
   refine gO F23 ?_;simp[this]
  ·refine gO F23 ?_;refine J.back (IH (k+1) ⟨by omega,by rw[cG hx];exact fun hm=>(List.mem_append.1 hm).elim bI fun h=>by simp at h;simp[h]at h8⟩ (by omega)) ?_;exact sZ
 ·have aC:l.length<=k:=by simpa using h5
  rw[afS aC]at bI;refine gO F23 ?_;simp[bI]
end Go.Proofs.YtfmdaiojokniiaaGreatDoor.P
end
section
namespace Go.Proofs.YtfmdaiojokniiaaGreatDoor.P
open Go Go.aA
set_option maxRecDepth 100000
section
variable {α:Type} [DecidableEq α] {en:α->DV}
theorem Pd(hk:∀ a b,eL (en a) (en b)=decide (a=b)){x:α}:∀ {l:List α},x∈l->bW (en x) (.bool true) (l.map fun a=>(en a,DV.bool true))=l.map fun a=>(en a,DV.bool true)
 |[],h=>by simp at h
 |y::l,h=>by
  show bW (en x) (.bool true) ((en y,DV.bool true)::l.map fun a=>(en a,DV.bool true))=_;simp only[bW,hk];by_cases e:y=x
  ·subst e;simp
  ·have hm:x∈l:=(List.mem_cons.1 h).resolve_left fun q=>e q.symm;have:=Pd hk hm;first
    |rw[if_neg (by simpa using e),this];rfl
    |rw[if_neg (by simpa using fun q=>e q.symm),this];rfl
theorem Pe(hk:∀ a b,eL (en a) (en b)=decide (a=b)){x:α}:∀ {l:List α},x ∉ l->bW (en x) (.bool true) (l.map fun a=>(en a,DV.bool true))=(l++[x]).map fun a=>(en a,DV.bool true)
 |[],h=>rfl
 |y::l,h=>by
  have h1:y≠x:=fun e=>h (e ▸ List.mem_cons_self ..);have h2:x ∉ l:=fun e=>h (List.mem_cons_of_mem _ e);show bW (en x) (.bool true) ((en y,DV.bool true)::l.map fun a=>(en a,DV.bool true))=_;have:=Pe hk h2;simp only[bW,hk];first
   |rw[if_neg (by simpa using h1),this];rfl
   |rw[if_neg (by simpa using fun q=>h1 q.symm),this];rfl
theorem ZY(hk:∀ a b,eL (en a) (en b)=decide (a=b))(l:List α):ev en l=(eI [] l).map fun a=>(en a,DV.bool true):=by
 have main:∀ (n:Nat),ev en (l.take n)=(eI [] (l.take n)).map fun a=>(en a,DV.bool true):=by
  intro n
  induction n with
  |zero=>rfl
  |succ n ih =>
   cases h:l[n]? with
   |none =>
    have:l.length<=n:=by simpa using h
    rw[afS (by omega),<- afS this];exact ih
   |some x =>
    rw[HC h,ih,cG h,NL];split
    ·rename_i hm;exact Pd hk hm
    ·rename_i hm;exact Pe hk hm
 have:=main l.length
 rwa [ahj]at this
end
section
variable {α:Type}
def l9(xs:List α)(seen:List Nat):List α:=seen.filterMap fun j=>xs[j]?
theorem Pf{xs:List α}{seen:List Nat}{j:Nat}{a:α}(h:xs[j]?=some a):l9 xs (seen++[j])=l9 xs seen++[a]:=by
 rw[l9,List.filterMap_append];simp[l9,h]
theorem ZZ{xs:List α}{seen:List Nat}:(l9 xs seen).length<=seen.length:=List.length_filterMap_le ..
theorem Z0(xs:List α):l9 xs (aeU xs.length)=xs:=by
 have main:∀ (n:Nat),n<=xs.length->l9 xs (aeU n)=xs.take n:=by
  intro n
  induction n with
  |zero=>intro _;simp[l9]
  |succ n ih =>
   intro h;obtain⟨a,ha⟩:=aH (l:=xs) (k:=n) (by omega);rw[List.range_succ,Pf ha,ih (by omega),cG ha]
 rw[main _ (Nat.le_refl _),ahj]
theorem Z1{xs:List α}{seen:List Nat}(hn:seen.Nodup)(ah:∀ j∈seen,j<xs.length)(aL:∀ j,j<xs.length->j∈seen):(l9 xs seen).Perm xs:=by
 have h:seen.Perm (aeU xs.length):=(List.perm_ext_iff_of_nodup hn List.nodup_range).2 fun j=>by
  rw[agq];exact⟨ah j,aL j⟩
 have:=h.filterMap (fun j=>xs[j]?);have e:=Z0 xs;unfold l9 at e;rw[e]at this;exact this
theorem Pg{xs:List α}{seen:List Nat}(hn:seen.Nodup)(ah:∀ j∈seen,j<xs.length):seen.length<=xs.length:=by
 have:=LJ hn (U:=aeU xs.length) fun j hj=>agq.2 (ah j hj)
 simpa using this
end
end Go.Proofs.YtfmdaiojokniiaaGreatDoor.P
end
section
namespace Go.Proofs.YtfmdaiojokniiaaGreatDoor.P
open Go Go.aA
set_option maxRecDepth 100000
set_option maxHeartbeats 4000000
theorem abr(z:bc)(q:bC):(qy z q).kind≠0/\(qy z q).kind≠7:=by
 unfold qy;repeat' split
 all_goals simp
theorem abt{z:bc}{q:bC}(h:(pz z q).kind=0\/(pz z q).kind=7):(pz z q).ae=[]:=by
 have hk:=abr z q
 revert h
 unfold pz tW;repeat' split
 all_goals first|(intro h;rcases h with h|h<;>first|exact absurd h hk.1|exact absurd h hk.2)|(intro h;rfl)|(intro h;simp at h)
theorem abu{a:dZ}(h:a.kind=0\/a.kind=7->a.ae=[]):norm (IZ a)=a.enc:=by
 unfold IZ;by_cases e:a.kind=0\/a.kind=7
 ·rw[if_pos e];simp[norm,uW,dZ.enc,h e]
 ·rw[if_neg e];rfl
theorem abv(z:bc)(q:bC)(hf:z.Fits)(hn:q.name.length<=maxLen):ar E 88 [z.enc,q.enc] (· = .aF [(pz z q).enc,.int .i64 (sc z q)]):=by
 refine ar.norm ?_;refine(abp z q hf hn).mono fun r h=>?_;subst h;have:=abu (abt (z:=z) (q:=q));simp only[norm,uW,this]
end Go.Proofs.YtfmdaiojokniiaaGreatDoor.P
end
section
namespace Go.aA
open Go
def DW:AV->AV
 | .d x => .d (norm x)
 |x=>x
def DX:AV->AV
 | .agg l => .agg (l.map DW)
 |x=>DW x
def DY:AV->AV
 | .aF l => .aF (l.map DX)
 |x=>DX x
section
variable {c:Cx} {x:AV} {v:Value}
theorem PZ(h:VR c x v):VR c (DW x) v:=by
 unfold DW;split
 ·cases h with|d _ _ h=>exact .d _ _ (Lo h)
 ·exact h
theorem P0(h:VR c x v):VR c (DX x) v:=by
 unfold DX;split
 ·obtain⟨vs,rfl,h1⟩:=pG h;exact wE (sO PZ h1)
 ·exact PZ h
theorem abJ(h:VR c x v):VR c (DY x) v:=by
 unfold DY;split
 ·obtain⟨vs,rfl,h1⟩:=zi h;exact zj (sO P0 h1)
 ·exact P0 h
theorem aw.norm{E:Env}{f:FuncId}{h:List af}{args:List AV}{Q:AV->List af->Prop}(H:aw E f h args fun a b=>Q (DY a) b):aw E f h args Q:=by
 unfold aw at H ⊢;exact⟨H.1,H.2.1,fun c vs h1 h2 h3=>(H.2.2 c vs h1 h2 h3).mono fun e w' ⟨c',r,v,k1,k2,k3,k4,k5⟩=>⟨c',DY r,v,k1,k2,k3,abJ k4,k5⟩⟩
end
end Go.aA
end
