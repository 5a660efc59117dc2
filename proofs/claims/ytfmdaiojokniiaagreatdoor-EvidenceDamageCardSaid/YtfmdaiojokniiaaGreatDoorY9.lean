/- Several texts of mine, one behind the other. Conditions: as each says. -/
import Derived.Test.YtfmdaiojokniiaaGreatDoorY8
set_option linter.unusedVariables false
set_option linter.unusedSimpArgs false
namespace Go.Proofs.YtfmdaiojokniiaaGreatDoor.P
open Go Go.ax
set_option maxRecDepth 100000
set_option maxHeartbeats 4000000
theorem zm {t:Text} {k:Nat} (hk:k<t.length) (h:¬ Nm.nJ t k=true):Nm.label t=false:=by
 simp only [Nm.label,decide_eq_false_iff_not];exact fun e=>h (e.2.2 k hk)
theorem zn {t:Text} {k:Nat} {c:UInt8} (hc:t[k]? = some c):Nm.nJ t k=true↔(97≤c.toNat∧c.toNat≤122)∨(48≤c.toNat∧c.toNat≤57)∨(c.toNat=45∧0<k∧k+1<t.length):=by
 have:c=45↔c.toNat=45:=⟨fun e=>by rw [e]; rfl,fun e=>UInt8.toNat_inj.1 e⟩;simp [Nm.nJ,hc,Nm.CG,this,or_assoc,and_assoc]
theorem Oq (t:Text) (ht:t.length≤maxLen):aq E 147 [.str t] (· = .bool (Nm.label t)):=by
 unfold maxLen at ht;refine eP Tryz.func147 ?_;refine I.loop (κ:=Nat) (rg 2 44) (fun k=>[(3,.d (.int .i64 k))]) (fun _=>[]) (fun k=>k≤t.length∧∀ i,i<k→Nm.nJ t i=true) (fun k=>t.length - k) 0 ⟨Nat.zero_le _,by omega⟩ ?_ ?_
 ·exact sZ
 rintro k ⟨hk,aH⟩ IH;refine I.head af Tryz.func147 2000 ?_;(conv=>whnf);refine ah (fun h5=>?_) (fun h5=>?_)
 ·have ai:k<t.length:=by simpa using h5
  obtain ⟨c,hc⟩:=aD ai;have qc:=zn hc;have back:Nm.nJ t k=true→_:=fun e=>IH (k+1) ⟨ai,fun i hi=>(Nat.lt_succ_iff_lt_or_eq.1 hi).elim (aH i) (fun h=>h ▸ e)⟩ (by omega);have hw:IntKind.i64.wrap ((t.length:Int) - 1)=(t.length:Int) - 1:=wrap64 (by omega) (by omega);refine gO Tryz.func147 ?_;refine jl c (by omega) (by rw [Int.toNat_natCast]; exact hc) ?_;repeat' (first | with_reducible refine cY ?_ | with_reducible refine cN ?_ | with_reducible refine ah (fun _=>?_) (fun _=>?_) | refine gA Tryz.func147 ?_ | refine gB ?_ | with_reducible rfl)
  all_goals try (refine I.run af Tryz.func147 2000 ?_; conv=>whnf)
  all_goals simp only [decide_eq_true_eq,decide_eq_false_iff_not,beq_iff_eq,beq_eq_false_iff_ne,Bool.not_eq_true',Bool.not_eq_false',hw] at *
  all_goals first
   |(rw [zm ai (by rw [qc]; omega)]; done)
   |(refine I.back (back (by rw [qc]; omega)) ?_; exact CS)
 ·have aC:k=t.length:=by have:=of_decide_eq_false h5; omega
  subst aC;refine gO Tryz.func147 ?_;have e:Nm.label t=decide (1≤t.length∧t.length≤12):=by
   simp only [Nm.label];exact decide_eq_decide.2 ⟨fun h=>⟨h.1,h.2.1⟩,fun h=>⟨h.1,h.2,aH⟩⟩
  rw [e];repeat' (first | with_reducible refine cY ?_ | with_reducible refine cN ?_ | with_reducible refine ah (fun _=>?_) (fun _=>?_) | refine gA Tryz.func147 ?_ | refine gB ?_ | with_reducible rfl)
  all_goals (refine congrArg DV.bool ?_; rw [Bool.eq_iff_iff]; simp_all <;> omega)
theorem Ot {t:Text} {k:Nat} {c:UInt8} (hc:t[k]? = some c) (h:c=46):Nm.split (t.take (k+1))=Nm.split (t.take k)++[[]]:=by
 rw [cQ hc,h,Nm.Ob]
theorem Ou {t:Text} {k:Nat} {c:UInt8} (hc:t[k]? = some c) (h:c≠46) {i:List Text} {x:Text} (e:Nm.split (t.take k)=i++[x]):Nm.split (t.take (k+1))=i++[x++[c]]:=by
 obtain ⟨j,y,h1,h2⟩:=Nm.Oc (t.take k) c h;rw [e] at h1;obtain ⟨rfl,h3⟩:=List.append_inj' h1 rfl;cases h3;rw [cQ hc,h2]
theorem CT (t:Text):(Nm.split t).length≤t.length+1:=by
 induction t with
 |nil=>simp [Nm.split]
 |cons c r ih =>
  by_cases hc:c=46
  ·subst hc; simp [Nm.split]; omega
  ·obtain ⟨x,u,h1,h2⟩:=Nm.nI c r hc;rw [h2];rw [h1] at ih;simp at ih ⊢;omega
theorem Hu (t:Text):∀ x∈Nm.split t,x.length≤t.length:=by
 induction t with
 |nil=>simp [Nm.split]
 |cons c r ih =>
  intro x hx;by_cases hc:c=46
  ·subst hc;simp only [Nm.split,if_true] at hx;rcases List.mem_cons.1 hx with rfl | hx
   ·simp
   ·have:=ih x hx; simp; omega
  ·obtain ⟨y,u,h1,h2⟩:=Nm.nI c r hc;rw [h2] at hx;rw [h1] at ih;rcases List.mem_cons.1 hx with rfl | hx
   ·have:=ih y (List.mem_cons_self ..); simp; omega
   ·have:=ih x (List.mem_cons_of_mem _ hx); simp; omega
theorem CU (t:Text) (ht:t.length≤1000):aq E 136 [.str t] (· = .sl ((Nm.split t).map .str)):=by
 refine aq.run af (fn:=Tryz.f136) Tryz.func136 (body:=Tryz.f136.body.getD .skip) rfl (by decide) 6 ?_;(conv=>whnf);refine I.oM af rfl ?_;refine gO Tryz.func136 ?_;refine I.loop (κ:=Nat) ([3,4]++rg 6 30) (fun k=>[(4,.d (.int .i64 k)),(3,.own 0 1)]) (fun k=>[(0,.arr 1 (9,1) ((Nm.split (t.take k)).map .str))]) (fun k=>k≤t.length) (fun k=>t.length - k) 0 (Nat.zero_le _) ?_ ?_
 ·(conv=>whnf);repeat (first | exact trivial | (refine sI ?_; conv=>whnf))
  refine And.intro (by simp [Nm.split]) ?_;exact sZ
 ·intro k hk IH;have hlen:=CT (t.take k);rw [List.length_take] at hlen;refine I.head af Tryz.func136 2000 ?_;(conv=>whnf);refine ah (fun h1=>?_) (fun h1=>?_)
  ·have ai:k<t.length:=by simpa using h1
   obtain ⟨c,hc⟩:=aD ai;refine gO Tryz.func136 ?_;refine jl c (by omega) (by rw [Int.toNat_natCast]; exact hc) ?_;refine gO Tryz.func136 ?_;refine ah (fun h2=>?_) (fun h2=>?_)
   ·have CV:c=46:=by
     have:(c.toNat:Int)=46:=by simpa using h2
     exact UInt8.toNat_inj.1 (by simp; omega)
    refine gO Tryz.func136 ?_;refine bc ⟨by simp; omega,by simp [DV.cells]⟩ ?_;refine gO Tryz.func136 ?_;refine I.back (IH (k+1) (by omega) (by omega)) ?_;(conv=>whnf);repeat (first | exact trivial | (refine sI ?_; conv=>whnf))
    refine And.intro (by rw [Ot hc CV]; simp) ?_;exact sZ
   ·have CV:c≠46:=by rintro rfl; simp at h2
    obtain ⟨i,x,e1⟩:∃ i x,Nm.split (t.take k)=i++[x]:=⟨_,_,(List.dropLast_concat_getLast (Nm.l7 _)).symm⟩;have aX:=Ou hc CV e1;rw [e1] at hlen ⊢;have hw:IntKind.i64.wrap ((((i++[x]).map DV.str).length:Int) - 1)=(i.length:Int):=by
     rw [wrap64 (by simp) (by simp; simp at hlen; omega)]; simp
    refine gO Tryz.func136 ?_;refine I.bH af bI 2000 (by kernel_rfl) ?_;(conv=>whnf);rw [hw];have dv:((i++[x]).map DV.str)[((i.length:Nat):Int).toNat]? = some (.str x):=by simp
    have zo:(List.drop (Int.toNat (k:Int)) (List.take (IntKind.i64.wrap ((k:Int)+1)).toNat t))=[c]:=by
     rw [wrap64 (by omega) (by omega),show ((k:Int)+1).toNat=k+1 by omega,Int.toNat_natCast,cQ hc];simp [Nat.min_eq_left (Nat.le_of_lt ai)]
    refine bc ⟨by omega,by simp; omega⟩ ?_;refine gD ?_;refine eu (.str x) (by omega) dv rfl ?_;refine gD ?_;have cZ:IntKind.i64.wrap ((k:Int)+1)=(k:Int)+1:=wrap64 (by omega) (by omega);refine bc ⟨by simp,by simp [cZ]; omega,by simp [cZ]; omega⟩ ?_;refine gD ?_;have im:x.length≤1000:=by
     have:=Hu (t.take k) x (by rw [e1]; simp);simp at this;omega
    simp only [Option.getD_some];rw [zo];refine bc (by simp; omega) ?_;refine gD ?_;refine bc ⟨by omega,by simp; omega⟩ ?_;refine gD ?_;refine eu (.str x) (by omega) dv rfl ?_;refine gD ?_;refine And.intro (by kernel_rfl) ?_;(conv=>whnf);refine gO Tryz.func136 ?_;refine I.back (IH (k+1) (by omega) (by omega)) ?_;(conv=>whnf);repeat (first | exact trivial | (refine sI ?_; conv=>whnf))
    refine And.intro (by rw [aX]; simp [List.set_append_right]) ?_;exact sZ
  ·have aC:k=t.length:=by simp at h1; omega
   subst aC;refine gO Tryz.func136 ?_;simp
theorem wZ (t:Text) (ht:t.length≤1000):aq E 67 [.str t] (· = .sl ((Nm.labels t).map .str)):=by
 refine aq.norm ?_;refine eP Tryz.func67 ?_;repeat' (first | with_reducible refine ao (CU _ ht) ?_ | with_reducible refine au (CU _ ht) ?_ | with_reducible refine cY ?_ | with_reducible refine cN ?_ | with_reducible refine ah (fun _=>?_) (fun _=>?_) | refine gA Tryz.func67 ?_ | refine gB ?_ | with_reducible rfl)
 all_goals simp_all [Nm.labels,norm]
theorem zp (t:Text):(Nm.labels t).length≤t.length+1:=by
 unfold Nm.labels;split
 ·simp
 ·exact CT t
def Nm.nM (s z:Text):Bool:=Nm.valid s&&Nm.valid z&&Nm.under s z
theorem w7 (s z:Text) (hs:s.length≤1000) (hz:z.length≤1000):aq E 66 [.str s,.str z] (· = .bool (Nm.under s z)):=by
 have qD:=zp s;have nh:=zp z;unfold Nm.under;refine eP Tryz.func66 ?_
 with_reducible refine ao (wZ _ hs) ?_
 refine gO Tryz.func66 ?_
 with_reducible refine ao (wZ _ hz) ?_
 refine gO Tryz.func66 ?_;generalize Nm.labels s=l at *;generalize Nm.labels z=m at *;refine ah (fun h3=>?_) (fun h3=>?_)
 ·refine gO Tryz.func66 ?_;simp at h3;rw [decide_eq_false];exact fun h=>by have:=h.length_le; omega
 ·have hle:m.length≤l.length:=by simp at h3; omega
  have e:decide (m <:+ l)=decide (m=l.drop (l.length - m.length)):=decide_eq_decide.2 ⟨List.suffix_iff_eq_drop.1,List.suffix_iff_eq_drop.2⟩;rw [e];refine gO Tryz.func66 ?_;refine I.loop (κ:=Nat) ([4,7]++rg 17 21) (fun k=>[(7,.d (.int .i64 k))]) (fun _=>[]) (fun k=>k≤m.length∧m.take k=(l.drop (l.length - m.length)).take k) (fun k=>m.length - k) 0 ⟨Nat.zero_le _,rfl⟩ ?_ ?_
  ·exact sZ
  rintro k ⟨hk,aH⟩ IH;refine I.head af Tryz.func66 2000 ?_;(conv=>whnf);refine ah (fun h5=>?_) (fun h5=>?_)
  ·have ai:k<m.length:=by simpa using h5
   obtain ⟨x,hx⟩:=aD ai;obtain ⟨y,hy⟩:=aD (l:=l) (k:=l.length - m.length+k) (by omega);have CW:(l.drop (l.length - m.length))[k]? = some y:=by rw [List.getElem?_drop]; exact hy
   have hw:IntKind.i64.wrap (IntKind.i64.wrap ((l.length:Int) - m.length)+k)=((l.length - m.length+k:Nat):Int):=by rw [wrap64 (n:=(l.length:Int) - m.length) (by omega) (by omega),wrap64 (by omega) (by omega)]; omega
   refine gO Tryz.func66 ?_;refine I.bH af bI 2000 (by kernel_rfl) ?_;(conv=>whnf);refine aB (e := .str y) (by rw [List.length_map,List.length_map,hw]; exact aN hy) rfl ?_;refine gD ?_;refine aB (e := .str x) (aN hx) rfl ?_;refine gD ?_;refine gO Tryz.func66 ?_;by_cases lg:x=y
   ·refine aW (by simp [lg]) ?_;refine gO Tryz.func66 ?_;refine I.back (IH (k+1) ⟨ai,by rw [cQ hx,cQ CW,aH,lg]⟩ (by omega)) ?_;exact sZ
   ·refine aV (by simpa using fun h=>lg h.symm) ?_;refine gO Tryz.func66 ?_;rw [decide_eq_false];intro h;rw [← h,hx] at CW;exact lg (Option.some.inj CW)
  ·have aC:k=m.length:=by simp at h5; omega
   subst aC;refine gO Tryz.func66 ?_;rw [List.take_length,List.take_of_length_le (by simp; omega)] at aH;rw [decide_eq_true aH]
def fA (i:Nat) (x:Text):Bool:=Nm.label x||(decide (i=0)&&decide (x=[42]))
theorem oP {L:List Text}:Nm.parts L=true↔L.length≤8∧∀ i x,L[i]? = some x→fA i x=true:=by
 cases L with
 |nil=>simp [Nm.parts]
 |cons a r =>
  simp only [Nm.parts,Bool.and_eq_true,decide_eq_true_eq,List.all_eq_true];constructor
  ·rintro ⟨h1,h2,h3⟩;refine ⟨h1,fun i x hx=>?_⟩;cases i with
   |zero=>simp at hx; subst hx; simpa [fA] using h2
   |succ i=>simp at hx; simp [fA,h3 x (List.mem_of_getElem? hx)]
  ·rintro ⟨h1,h2⟩;refine ⟨h1,by simpa [fA] using h2 0 a rfl,fun x hx=>?_⟩;obtain ⟨i,hi⟩:=List.getElem?_of_mem hx
   simpa [fA] using h2 (i+1) x (by simpa using hi)
theorem dR (t:Text) (ht:t.length≤maxLen):aq E 77 [.str t] (· = .bool (Nm.valid t)):=by
 unfold maxLen at ht;refine eP Tryz.func77 ?_;refine ah (fun h1=>?_) (fun h1=>?_)
 ·refine gO Tryz.func77 ?_;have e:t=[46]:=by simpa using h1
  subst e;rfl
 have h1:t≠[46]:=by simpa using h1
 refine gO Tryz.func77 ?_;refine ah (fun h2=>?_) (fun h2=>?_)
 ·refine gO Tryz.func77 ?_;simp at h2;simp [Nm.valid,h1];omega
 have h2:t.length≤60:=by simp at h2; omega
 have hv:Nm.valid t=Nm.parts (Nm.split t):=by simp [Nm.valid,h1,h2]
 have c1:=CU t (by omega);have hm:=Hu t;have hl:=CT t;rw [hv];generalize Nm.split t=l at *;refine gO Tryz.func77 ?_;refine ao (c1) ?_;refine gO Tryz.func77 ?_;refine I.loop (κ:=Nat) ([2,4,5]++rg 13 24) (fun k=>[(4,.d (.int .i64 k))]) (fun _=>[]) (fun k=>k≤l.length∧∀ i x,i<k→l[i]? = some x→fA i x=true) (fun k=>l.length - k) 0 ⟨Nat.zero_le _,by omega⟩ ?_ ?_
 ·exact sZ
 rintro k ⟨hk,aH⟩ IH;refine I.head af Tryz.func77 2000 ?_;(conv=>whnf);refine ah (fun h5=>?_) (fun h5=>?_)
 ·have ai:k<l.length:=by simpa using h5
  obtain ⟨x,hx⟩:=aD ai;have no:¬ fA k x=true→Nm.parts l=false:=fun h=>by
   rw [← Bool.not_eq_true,oP];exact fun e=>h (e.2 k x hx)
  have back:fA k x=true→_:=fun e=>IH (k+1) ⟨ai,fun i y hi hy=>(Nat.lt_succ_iff_lt_or_eq.1 hi).elim (fun h=>aH i y h hy) (fun h=>by subst h; rw [hx] at hy; cases hy; exact e)⟩ (by omega);have c2:=Oq x (by have:=hm x (List.mem_of_getElem? hx); unfold maxLen; omega);unfold fA at no back;refine gO Tryz.func77 ?_;repeat' (first | with_reducible refine aB ((aN hx)) rfl ?_ | with_reducible refine ao (c2) ?_ | with_reducible refine au (c2) ?_ | with_reducible refine cY ?_ | with_reducible refine cN ?_ | with_reducible refine ah (fun _=>?_) (fun _=>?_) | refine gA Tryz.func77 ?_ | refine gB ?_ | with_reducible rfl)
  all_goals try (refine I.run af Tryz.func77 2000 ?_; conv=>whnf)
  all_goals first
   |(rw [no (by simp_all; try omega)]; done)
   |(refine I.back (back (by simp_all; try omega)) ?_; exact CS)
 ·have aC:k=l.length:=by simp at h5; omega
  subst aC;have e:Nm.parts l=decide (l.length≤8):=by
   rw [Bool.eq_iff_iff,oP,decide_eq_true_eq];exact ⟨And.left,fun h=>⟨h,fun i x hx=>aH i x (aT hx) hx⟩⟩
  rw [e];refine gO Tryz.func77 ?_;simp;omega
theorem gM (t:Text) (ht:t.length≤maxLen):aq E 206 [.str t] (· = .bool (Nm.fX t)):=by
 cases t with
 |nil =>
  refine eP Tryz.func206 ?_;refine aW (by decide) ?_;refine gO Tryz.func206 ?_;rfl
 |cons c r =>
  have e:((c.toNat:Int)==42)=(c==42):=by
   rw [Bool.eq_iff_iff,beq_iff_eq,beq_iff_eq];exact ⟨fun h=>UInt8.toNat_inj.1 (Int.ofNat.inj h),fun h=>h ▸ rfl⟩
  refine eP Tryz.func206 ?_;refine aV (by simp) ?_;refine gO Tryz.func206 ?_;refine jl c (by omega) rfl ?_;refine gO Tryz.func206 ?_;rw [e]; rfl
end Go.Proofs.YtfmdaiojokniiaaGreatDoor.P
