/- Several texts of mine, one behind the other. Conditions: as each says. -/
import Derived.Test.YtfmdaiojokniiaaGreatDoorV5
import Derived.Test.YtfmdaiojokniiaaGreatDoorV8
import Derived.Ground.NamesProg
import Derived.Shelf.Small.Strs
import Derived.Shelf.Strings.OnBuilder
set_option linter.unusedVariables false
set_option linter.unusedSimpArgs false
section
namespace Go.Proofs.YtfmdaiojokniiaaGreatDoor.P
open Go Go.aw
theorem jY {α:Type} {f:α→DV} {l:List α} {k:Nat} {x:α} (hx:l[k]? = some x):(l.map f)[((k:Nat):Int).toNat]? = some (f x):=by
 simp [hx]
theorem aL {α:Type} {l:List α} {k:Nat} (h:k<l.length):∃ x,l[k]? = some x:=⟨l[k],by simp [h]⟩
theorem cI {α:Type} {l:List α} {k:Nat} {x:α} (h:l[k]? = some x):l.take (k+1)=l.take k++[x]:=by
 rw [List.take_add_one,h]; rfl
def sE (l:List DV) (n:Int) (e:DV):Prop:=0≤n∧l[n.toNat]? = some e
theorem aE {l:List DV} {sz:Nat} {n:Int} {K:DV→Prop} {e:DV} (h:sE l n e) (hs:e.cells.length=sz) (k:K e):qh l sz n K:=ev e h.1 h.2 hs k
theorem aX {α:Type} {f:α→DV} {l:List α} {k:Nat} {x:α} (h:l[k]? = some x):sE (l.map f) (k:Int) (f x):=⟨by omega,jY h⟩
theorem xq {α:Type} {f:α→DV} {l:List α} {x:α} (h:l[0]? = some x):sE (l.map f) 0 (f x):=⟨by omega,by simp [h]⟩
theorem nr {α:Type} {f:α→DV} {l:List α} {k:Nat} {x:α} (h:l[k - 1]? = some x) (h0:0<k) (hb:k≤4294967296):sE (l.map f) (IntKind.i64.wrap ((k:Int) - 1)) (f x):=by
 have:IntKind.i64.wrap ((k:Int) - 1)=((k - 1:Nat):Int):=by rw [wrap64 (by omega) (by omega)]; omega
 rw [this];exact aX h
theorem at_next {α:Type} {f:α→DV} {l:List α} {k:Nat} {x:α} (h:l[k+1]? = some x) (hb:k≤4294967296):sE (l.map f) (IntKind.i64.wrap ((k:Int)+1)) (f x):=by
 have:IntKind.i64.wrap ((k:Int)+1)=((k+1:Nat):Int):=by rw [wrap64 (by omega) (by omega)]; omega
 rw [this];exact aX h
theorem eJ {l:Text} (h:Nm.valid l=true):l.length≤60:=by
 simp only [Nm.valid,Bool.or_eq_true,decide_eq_true_eq,Bool.and_eq_true] at h;rcases h with rfl | h
 ·simp
 ·exact h.1
theorem Pg {a b:Prop} (k:b) (h:a:=by first | with_reducible rfl | exact congrArg (DV.int .i64) (by omega) | exact congrArg (DV.int .i64) (wrap64 (by omega) (by omega)) | exact congrArg (DV.int .i64) ((wrap64 (by omega) (by omega)).trans (by omega))):a∧b:=⟨h,k⟩
theorem Dh {P:Prop} (h:P:=by (conv=>whnf); repeat (first | exact trivial | (refine Pg ?_; conv=>whnf))):P:=h
theorem Di {α:Type} [DecidableEq α]:∀ {l U:List α},l.Nodup→(∀ x∈l,x∈U)→l.length≤U.length
 | [],_,_,_=>by simp
 |x::l,U,h,hs=>by
  rw [List.nodup_cons] at h;have h1:=Di (U:=U.erase x) h.2 fun y hy=>by
   have:y≠x:=fun e=>h.1 (e ▸ hy);exact (List.mem_erase_of_ne this).2 (hs y (List.mem_cons_of_mem _ hy))
  have h2:=List.length_erase_of_mem (hs x (List.mem_cons_self ..));have h3:=List.length_pos_of_mem (hs x (List.mem_cons_self ..));simp;omega
end Go.Proofs.YtfmdaiojokniiaaGreatDoor.P
end
section
namespace Go.Proofs.YtfmdaiojokniiaaGreatDoor.P
open Go Go.aw
set_option maxRecDepth 100000
set_option maxHeartbeats 4000000
theorem zQ {t:Text} {k:Nat} (hk:k<t.length) (h:¬ Nm.oo t k=true):Nm.label t=false:=by
 simp only [Nm.label,decide_eq_false_iff_not];exact fun e=>h (e.2.2 k hk)
theorem zR {t:Text} {k:Nat} {c:UInt8} (hc:t[k]? = some c):Nm.oo t k=true↔(97≤c.toNat∧c.toNat≤122)∨(48≤c.toNat∧c.toNat≤57)∨(c.toNat=45∧0<k∧k+1<t.length):=by
 have:c=45↔c.toNat=45:=⟨fun e=>by rw [e]; rfl,fun e=>UInt8.toNat_inj.1 e⟩;simp [Nm.oo,hc,Nm.C7,this,or_assoc,and_assoc]
theorem Ph (t:Text) (ht:t.length≤maxLen):aq E 147 [.str t] (· = .bool (Nm.label t)):=by
 unfold maxLen at ht;refine eP Tryz.func147 ?_;refine I.loop (κ:=Nat) (rg 2 44) (fun k=>[(3,.d (.int .i64 k))]) (fun _=>[]) (fun k=>k≤t.length∧∀ i,i<k→Nm.oo t i=true) (fun k=>t.length - k) 0 ⟨Nat.zero_le _,by omega⟩ ?_ ?_
 ·exact sZ
 rintro k ⟨hk,aW⟩ IH;refine I.head af Tryz.func147 2000 ?_;(conv=>whnf);refine ai (fun h5=>?_) (fun h5=>?_)
 ·have aj:k<t.length:=by simpa using h5
  obtain ⟨c,hc⟩:=aL aj;have qJ:=zR hc;have back:Nm.oo t k=true→_:=fun e=>IH (k+1) ⟨aj,fun i hi=>(Nat.lt_succ_iff_lt_or_eq.1 hi).elim (aW i) (fun h=>h ▸ e)⟩ (by omega);have hw:IntKind.i64.wrap ((t.length:Int) - 1)=(t.length:Int) - 1:=wrap64 (by omega) (by omega);refine gO Tryz.func147 ?_;refine jt c (by omega) (by rw [Int.toNat_natCast]; exact hc) ?_;repeat' (first | with_reducible refine cY ?_ | with_reducible refine cN ?_ | with_reducible refine ai (fun _=>?_) (fun _=>?_) | refine gA Tryz.func147 ?_ | refine gB ?_ | with_reducible rfl)
  all_goals try (refine I.run af Tryz.func147 2000 ?_; conv=>whnf)
  all_goals simp only [decide_eq_true_eq,decide_eq_false_iff_not,beq_iff_eq,beq_eq_false_iff_ne,Bool.not_eq_true',Bool.not_eq_false',hw] at *
  all_goals first
   |(rw [zQ aj (by rw [qJ]; omega)]; done)
   |(refine I.back (back (by rw [qJ]; omega)) ?_; exact Dh)
 ·have aC:k=t.length:=by have:=of_decide_eq_false h5; omega
  subst aC;refine gO Tryz.func147 ?_;have e:Nm.label t=decide (1≤t.length∧t.length≤12):=by
   simp only [Nm.label];exact decide_eq_decide.2 ⟨fun h=>⟨h.1,h.2.1⟩,fun h=>⟨h.1,h.2,aW⟩⟩
  rw [e];repeat' (first | with_reducible refine cY ?_ | with_reducible refine cN ?_ | with_reducible refine ai (fun _=>?_) (fun _=>?_) | refine gA Tryz.func147 ?_ | refine gB ?_ | with_reducible rfl)
  all_goals (refine congrArg DV.bool ?_; rw [Bool.eq_iff_iff]; simp_all <;> omega)
theorem Pj {t:Text} {k:Nat} {c:UInt8} (hc:t[k]? = some c) (h:c=46):Nm.split (t.take (k+1))=Nm.split (t.take k)++[[]]:=by
 rw [cI hc,h,Nm.O5]
theorem Pk {t:Text} {k:Nat} {c:UInt8} (hc:t[k]? = some c) (h:c≠46) {i:List Text} {x:Text} (e:Nm.split (t.take k)=i++[x]):Nm.split (t.take (k+1))=i++[x++[c]]:=by
 obtain ⟨j,y,h1,h2⟩:=Nm.O6 (t.take k) c h;rw [e] at h1;obtain ⟨rfl,h3⟩:=List.append_inj' h1 rfl;cases h3;rw [cI hc,h2]
theorem Dj (t:Text):(Nm.split t).length≤t.length+1:=by
 induction t with
 |nil=>simp [Nm.split]
 |cons c r ih =>
  by_cases hc:c=46
  ·subst hc; simp [Nm.split]; omega
  ·obtain ⟨x,u,h1,h2⟩:=Nm.om c r hc;rw [h2];rw [h1] at ih;simp at ih ⊢;omega
theorem H5 (t:Text):∀ x∈Nm.split t,x.length≤t.length:=by
 induction t with
 |nil=>simp [Nm.split]
 |cons c r ih =>
  intro x hx;by_cases hc:c=46
  ·subst hc;simp only [Nm.split,if_true] at hx;rcases List.mem_cons.1 hx with rfl | hx
   ·simp
   ·have:=ih x hx; simp; omega
  ·obtain ⟨y,u,h1,h2⟩:=Nm.om c r hc;rw [h2] at hx;rw [h1] at ih;rcases List.mem_cons.1 hx with rfl | hx
   ·have:=ih y (List.mem_cons_self ..); simp; omega
   ·have:=ih x (List.mem_cons_of_mem _ hx); simp; omega
theorem Dk (t:Text) (ht:t.length≤1000):aq E 136 [.str t] (· = .sl ((Nm.split t).map .str)):=by
 refine aq.run af (fn:=Tryz.f136) Tryz.func136 (body:=Tryz.f136.body.getD .skip) rfl (by decide) 6 ?_;(conv=>whnf);refine I.pf af rfl ?_;refine gO Tryz.func136 ?_;refine I.loop (κ:=Nat) ([3,4]++rg 6 30) (fun k=>[(4,.d (.int .i64 k)),(3,.own 0 1)]) (fun k=>[(0,.arr 1 (9,1) ((Nm.split (t.take k)).map .str))]) (fun k=>k≤t.length) (fun k=>t.length - k) 0 (Nat.zero_le _) ?_ ?_
 ·(conv=>whnf);repeat (first | exact trivial | (refine sI ?_; conv=>whnf))
  refine And.intro (by simp [Nm.split]) ?_;exact sZ
 ·intro k hk IH;have hlen:=Dj (t.take k);rw [List.length_take] at hlen;refine I.head af Tryz.func136 2000 ?_;(conv=>whnf);refine ai (fun h1=>?_) (fun h1=>?_)
  ·have aj:k<t.length:=by simpa using h1
   obtain ⟨c,hc⟩:=aL aj;refine gO Tryz.func136 ?_;refine jt c (by omega) (by rw [Int.toNat_natCast]; exact hc) ?_;refine gO Tryz.func136 ?_;refine ai (fun h2=>?_) (fun h2=>?_)
   ·have Dl:c=46:=by
     have:(c.toNat:Int)=46:=by simpa using h2
     exact UInt8.toNat_inj.1 (by simp; omega)
    refine gO Tryz.func136 ?_;refine a8 ⟨by simp; omega,by simp [DV.cells]⟩ ?_;refine gO Tryz.func136 ?_;refine I.back (IH (k+1) (by omega) (by omega)) ?_;(conv=>whnf);repeat (first | exact trivial | (refine sI ?_; conv=>whnf))
    refine And.intro (by rw [Pj hc Dl]; simp) ?_;exact sZ
   ·have Dl:c≠46:=by rintro rfl; simp at h2
    obtain ⟨i,x,e1⟩:∃ i x,Nm.split (t.take k)=i++[x]:=⟨_,_,(List.dropLast_concat_getLast (Nm.mA _)).symm⟩;have bc:=Pk hc Dl e1;rw [e1] at hlen ⊢;have hw:IntKind.i64.wrap ((((i++[x]).map DV.str).length:Int) - 1)=(i.length:Int):=by
     rw [wrap64 (by simp) (by simp; simp at hlen; omega)]; simp
    refine gO Tryz.func136 ?_;refine I.bH af bI 2000 (by kernel_rfl) ?_;(conv=>whnf);rw [hw];have dx:((i++[x]).map DV.str)[((i.length:Nat):Int).toNat]? = some (.str x):=by simp
    have Pl:(List.drop (Int.toNat (k:Int)) (List.take (IntKind.i64.wrap ((k:Int)+1)).toNat t))=[c]:=by
     rw [wrap64 (by omega) (by omega),show ((k:Int)+1).toNat=k+1 by omega,Int.toNat_natCast,cI hc];simp [Nat.min_eq_left (Nat.le_of_lt aj)]
    refine a8 ⟨by omega,by simp; omega⟩ ?_;refine gD ?_;refine ev (.str x) (by omega) dx rfl ?_;refine gD ?_;have cR:IntKind.i64.wrap ((k:Int)+1)=(k:Int)+1:=wrap64 (by omega) (by omega);refine a8 ⟨by simp,by simp [cR]; omega,by simp [cR]; omega⟩ ?_;refine gD ?_;have iA:x.length≤1000:=by
     have:=H5 (t.take k) x (by rw [e1]; simp);simp at this;omega
    simp only [Option.getD_some];rw [Pl];refine a8 (by simp; omega) ?_;refine gD ?_;refine a8 ⟨by omega,by simp; omega⟩ ?_;refine gD ?_;refine ev (.str x) (by omega) dx rfl ?_;refine gD ?_;refine And.intro (by kernel_rfl) ?_;(conv=>whnf);refine gO Tryz.func136 ?_;refine I.back (IH (k+1) (by omega) (by omega)) ?_;(conv=>whnf);repeat (first | exact trivial | (refine sI ?_; conv=>whnf))
    refine And.intro (by rw [bc]; simp [List.set_append_right]) ?_;exact sZ
  ·have aC:k=t.length:=by simp at h1; omega
   subst aC;refine gO Tryz.func136 ?_;simp
theorem xr (t:Text) (ht:t.length≤1000):aq E 67 [.str t] (· = .sl ((Nm.labels t).map .str)):=by
 refine aq.norm ?_;refine eP Tryz.func67 ?_;repeat' (first | with_reducible refine ao (Dk _ ht) ?_ | with_reducible refine ay (Dk _ ht) ?_ | with_reducible refine cY ?_ | with_reducible refine cN ?_ | with_reducible refine ai (fun _=>?_) (fun _=>?_) | refine gA Tryz.func67 ?_ | refine gB ?_ | with_reducible rfl)
 all_goals simp_all [Nm.labels,norm]
theorem zS (t:Text):(Nm.labels t).length≤t.length+1:=by
 unfold Nm.labels;split
 ·simp
 ·exact Dj t
def Nm.iB (s z:Text):Bool:=Nm.valid s&&Nm.valid z&&Nm.under s z
theorem zT (s z:Text) (hs:s.length≤1000) (hz:z.length≤1000):aq E 66 [.str s,.str z] (· = .bool (Nm.under s z)):=by
 have rl:=zS s;have nO:=zS z;unfold Nm.under;refine eP Tryz.func66 ?_
 with_reducible refine ao (xr _ hs) ?_
 refine gO Tryz.func66 ?_
 with_reducible refine ao (xr _ hz) ?_
 refine gO Tryz.func66 ?_;generalize Nm.labels s=l at *;generalize Nm.labels z=m at *;refine ai (fun h3=>?_) (fun h3=>?_)
 ·refine gO Tryz.func66 ?_;simp at h3;rw [decide_eq_false];exact fun h=>by have:=h.length_le; omega
 ·have hle:m.length≤l.length:=by simp at h3; omega
  have e:decide (m <:+ l)=decide (m=l.drop (l.length - m.length)):=decide_eq_decide.2 ⟨List.suffix_iff_eq_drop.1,List.suffix_iff_eq_drop.2⟩;rw [e];refine gO Tryz.func66 ?_;refine I.loop (κ:=Nat) ([4,7]++rg 17 21) (fun k=>[(7,.d (.int .i64 k))]) (fun _=>[]) (fun k=>k≤m.length∧m.take k=(l.drop (l.length - m.length)).take k) (fun k=>m.length - k) 0 ⟨Nat.zero_le _,rfl⟩ ?_ ?_
  ·exact sZ
  rintro k ⟨hk,aW⟩ IH;refine I.head af Tryz.func66 2000 ?_;(conv=>whnf);refine ai (fun h5=>?_) (fun h5=>?_)
  ·have aj:k<m.length:=by simpa using h5
   obtain ⟨x,hx⟩:=aL aj;obtain ⟨y,hy⟩:=aL (l:=l) (k:=l.length - m.length+k) (by omega);have Dm:(l.drop (l.length - m.length))[k]? = some y:=by rw [List.getElem?_drop]; exact hy
   have hw:IntKind.i64.wrap (IntKind.i64.wrap ((l.length:Int) - m.length)+k)=((l.length - m.length+k:Nat):Int):=by rw [wrap64 (n:=(l.length:Int) - m.length) (by omega) (by omega),wrap64 (by omega) (by omega)]; omega
   refine gO Tryz.func66 ?_;refine I.bH af bI 2000 (by kernel_rfl) ?_;(conv=>whnf);refine aE (e := .str y) (by rw [List.length_map,List.length_map,hw]; exact aX hy) rfl ?_;refine gD ?_;refine aE (e := .str x) (aX hx) rfl ?_;refine gD ?_;refine gO Tryz.func66 ?_;by_cases lH:x=y
   ·refine aZ (by simp [lH]) ?_;refine gO Tryz.func66 ?_;refine I.back (IH (k+1) ⟨aj,by rw [cI hx,cI Dm,aW,lH]⟩ (by omega)) ?_;exact sZ
   ·refine bh (by simpa using fun h=>lH h.symm) ?_;refine gO Tryz.func66 ?_;rw [decide_eq_false];intro h;rw [← h,hx] at Dm;exact lH (Option.some.inj Dm)
  ·have aC:k=m.length:=by simp at h5; omega
   subst aC;refine gO Tryz.func66 ?_;rw [List.take_length,List.take_of_length_le (by simp; omega)] at aW;rw [decide_eq_true aW]
def fF (i:Nat) (x:Text):Bool:=Nm.label x||(decide (i=0)&&decide (x=[42]))
theorem pj {L:List Text}:Nm.parts L=true↔L.length≤8∧∀ i x,L[i]? = some x→fF i x=true:=by
 cases L with
 |nil=>simp [Nm.parts]
 |cons a r =>
  simp only [Nm.parts,Bool.and_eq_true,decide_eq_true_eq,List.all_eq_true];constructor
  ·rintro ⟨h1,h2,h3⟩;refine ⟨h1,fun i x hx=>?_⟩;cases i with
   |zero=>simp at hx; subst hx; simpa [fF] using h2
   |succ i=>simp at hx; simp [fF,h3 x (List.mem_of_getElem? hx)]
  ·rintro ⟨h1,h2⟩;refine ⟨h1,by simpa [fF] using h2 0 a rfl,fun x hx=>?_⟩;obtain ⟨i,hi⟩:=List.getElem?_of_mem hx
   simpa [fF] using h2 (i+1) x (by simpa using hi)
theorem ey (t:Text) (ht:t.length≤maxLen):aq E 77 [.str t] (· = .bool (Nm.valid t)):=by
 unfold maxLen at ht;refine eP Tryz.func77 ?_;refine ai (fun h1=>?_) (fun h1=>?_)
 ·refine gO Tryz.func77 ?_;have e:t=[46]:=by simpa using h1
  subst e;rfl
 have h1:t≠[46]:=by simpa using h1
 refine gO Tryz.func77 ?_;refine ai (fun h2=>?_) (fun h2=>?_)
 ·refine gO Tryz.func77 ?_;simp at h2;simp [Nm.valid,h1];omega
 have h2:t.length≤60:=by simp at h2; omega
 have hv:Nm.valid t=Nm.parts (Nm.split t):=by simp [Nm.valid,h1,h2]
 have c1:=Dk t (by omega);have hm:=H5 t;have hl:=Dj t;rw [hv];generalize Nm.split t=l at *;refine gO Tryz.func77 ?_;refine ao (c1) ?_;refine gO Tryz.func77 ?_;refine I.loop (κ:=Nat) ([2,4,5]++rg 13 24) (fun k=>[(4,.d (.int .i64 k))]) (fun _=>[]) (fun k=>k≤l.length∧∀ i x,i<k→l[i]? = some x→fF i x=true) (fun k=>l.length - k) 0 ⟨Nat.zero_le _,by omega⟩ ?_ ?_
 ·exact sZ
 rintro k ⟨hk,aW⟩ IH;refine I.head af Tryz.func77 2000 ?_;(conv=>whnf);refine ai (fun h5=>?_) (fun h5=>?_)
 ·have aj:k<l.length:=by simpa using h5
  obtain ⟨x,hx⟩:=aL aj;have no:¬ fF k x=true→Nm.parts l=false:=fun h=>by
   rw [← Bool.not_eq_true,pj];exact fun e=>h (e.2 k x hx)
  have back:fF k x=true→_:=fun e=>IH (k+1) ⟨aj,fun i y hi hy=>(Nat.lt_succ_iff_lt_or_eq.1 hi).elim (fun h=>aW i y h hy) (fun h=>by subst h; rw [hx] at hy; cases hy; exact e)⟩ (by omega);have c2:=Ph x (by have:=hm x (List.mem_of_getElem? hx); unfold maxLen; omega);unfold fF at no back;refine gO Tryz.func77 ?_;repeat' (first | with_reducible refine aE ((aX hx)) rfl ?_ | with_reducible refine ao (c2) ?_ | with_reducible refine ay (c2) ?_ | with_reducible refine cY ?_ | with_reducible refine cN ?_ | with_reducible refine ai (fun _=>?_) (fun _=>?_) | refine gA Tryz.func77 ?_ | refine gB ?_ | with_reducible rfl)
  all_goals try (refine I.run af Tryz.func77 2000 ?_; conv=>whnf)
  all_goals first
   |(rw [no (by simp_all; try omega)]; done)
   |(refine I.back (back (by simp_all; try omega)) ?_; exact Dh)
 ·have aC:k=l.length:=by simp at h5; omega
  subst aC;have e:Nm.parts l=decide (l.length≤8):=by
   rw [Bool.eq_iff_iff,pj,decide_eq_true_eq];exact ⟨And.left,fun h=>⟨h,fun i x hx=>aW i x (aR hx) hx⟩⟩
  rw [e];refine gO Tryz.func77 ?_;simp;omega
theorem iC (t:Text) (ht:t.length≤maxLen):aq E 206 [.str t] (· = .bool (Nm.gZ t)):=by
 cases t with
 |nil =>
  refine eP Tryz.func206 ?_;refine aZ (by decide) ?_;refine gO Tryz.func206 ?_;rfl
 |cons c r =>
  have e:((c.toNat:Int)==42)=(c==42):=by
   rw [Bool.eq_iff_iff,beq_iff_eq,beq_iff_eq];exact ⟨fun h=>UInt8.toNat_inj.1 (Int.ofNat.inj h),fun h=>h ▸ rfl⟩
  refine eP Tryz.func206 ?_;refine bh (by simp) ?_;refine gO Tryz.func206 ?_;refine jt c (by omega) rfl ?_;refine gO Tryz.func206 ?_;rw [e]; rfl
end Go.Proofs.YtfmdaiojokniiaaGreatDoor.P
end
section
namespace Go.Proofs
open Go.Shelf
def Tryz.UP:Go.Shelf.Ren:=⟨fun | 137=>288 | 217=>335 | 266=>352 | n=>n,fun | 9=>9 | 5=>5 | 3=>3 | n=>n,fun | n=>n⟩
theorem Tryz.UQ:Go.Proofs.Lays.n137 Tryz.prog Tryz.UP:={
 mixed:=by kernel_rfl
 f137:=Tryz.func288.trans (congrArg some (by kernel_rfl))
 f217:=Tryz.func335.trans (congrArg some (by kernel_rfl))
 f266:=Tryz.func352.trans (congrArg some (by kernel_rfl))
 t3:=Tryz.underlying3
 a3:=Tryz.isAgg3
 z3:=Tryz.sizeOf3
 v3:=Tryz.zeroValue3
 t5:=Tryz.underlying5
 a5:=Tryz.isAgg5
 z5:=Tryz.sizeOf5
 v5:=Tryz.zeroValue5
 t9:=Tryz.underlying9
 a9:=Tryz.isAgg9
 z9:=Tryz.sizeOf9
 v9:=Tryz.zeroValue9 }
def Tryz.K5:Go.Shelf.Ren:=⟨fun | 156=>339 | 165=>353 | 166=>354 | 169=>355 | 240=>359 | 241=>360 | 276=>362 | 277=>363 | n=>n,fun | 31=>134 | 9=>9 | 3=>3 | 4=>4 | 0=>0 | 20=>20 | 72=>377 | 76=>315 | 70=>375 | 37=>115 | 75=>261 | 127=>379 | 164=>380 | 5=>5 | 80=>298 | n=>n,fun | n=>n⟩
theorem Tryz.AP:Go.Proofs.Lays.n156 Tryz.prog Tryz.K5:={
 mixed:=by kernel_rfl
 f156:=Tryz.func339.trans (congrArg some (by kernel_rfl))
 f165:=Tryz.func353.trans (congrArg some (by kernel_rfl))
 f166:=Tryz.func354.trans (congrArg some (by kernel_rfl))
 f169:=Tryz.func355.trans (congrArg some (by kernel_rfl))
 f240:=Tryz.func359.trans (congrArg some (by kernel_rfl))
 f241:=Tryz.func360.trans (congrArg some (by kernel_rfl))
 f276:=Tryz.func362.trans (congrArg some (by kernel_rfl))
 f277:=Tryz.func363.trans (congrArg some (by kernel_rfl))
 t0:=Tryz.underlying0
 a0:=Tryz.isAgg0
 z0:=Tryz.sizeOf0
 v0:=Tryz.zeroValue0
 t3:=Tryz.underlying3
 a3:=Tryz.isAgg3
 z3:=Tryz.sizeOf3
 v3:=Tryz.zeroValue3
 t4:=Tryz.underlying4
 a4:=Tryz.isAgg4
 z4:=Tryz.sizeOf4
 v4:=Tryz.zeroValue4
 t9:=Tryz.underlying9
 a9:=Tryz.isAgg9
 z9:=Tryz.sizeOf9
 v9:=Tryz.zeroValue9
 t20:=Tryz.underlying20
 a20:=Tryz.isAgg20
 z20:=Tryz.sizeOf20
 v20:=Tryz.zeroValue20
 t31:=Tryz.underlying134
 a31:=Tryz.isAgg134
 z31:=Tryz.sizeOf134
 v31:=Tryz.zeroValue134
 t37:=Tryz.underlying115
 a37:=Tryz.isAgg115
 z37:=Tryz.sizeOf115
 v37:=Tryz.zeroValue115
 t70:=Tryz.underlying375
 a70:=Tryz.isAgg375
 z70:=Tryz.sizeOf375
 v70:=Tryz.zeroValue375
 t72:=Tryz.underlying377
 a72:=Tryz.isAgg377
 z72:=Tryz.sizeOf377
 v72:=Tryz.zeroValue377
 t75:=Tryz.underlying261
 a75:=Tryz.isAgg261
 z75:=Tryz.sizeOf261
 v75:=Tryz.zeroValue261
 t76:=Tryz.underlying315
 a76:=Tryz.isAgg315
 z76:=Tryz.sizeOf315
 v76:=Tryz.zeroValue315
 t127:=Tryz.underlying379
 a127:=Tryz.isAgg379
 z127:=Tryz.sizeOf379
 v127:=Tryz.zeroValue379
 t164:=Tryz.underlying380
 a164:=Tryz.isAgg380
 z164:=Tryz.sizeOf380
 v164:=Tryz.zeroValue380 }
theorem Tryz.AQ:Builder.Extra Tryz.prog Tryz.K5:={
 sizeBuilder:=by kernel_rfl
 liesBuilder:=by kernel_rfl
 t5:=Tryz.underlying5
 a5:=Tryz.isAgg5
 z5:=Tryz.sizeOf5
 v5:=Tryz.zeroValue5
 infoByte:=by kernel_rfl
 cellsByte:=by kernel_rfl
 sizeByte:=by kernel_rfl
 neB5:=by decide }
end Go.Proofs
end
