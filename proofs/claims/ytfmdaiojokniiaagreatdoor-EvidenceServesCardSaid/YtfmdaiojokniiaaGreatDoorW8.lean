/- Several texts of mine, one behind the other. Conditions: as each says. -/
import Derived.Test.YtfmdaiojokniiaaGreatDoorW7
import Derived.Shelf.SlSortCmp.WholeK
set_option linter.unusedVariables false
set_option linter.unusedSimpArgs false
section
namespace Go.Proofs.YtfmdaiojokniiaaGreatDoor.P
open Go Go.aw
set_option maxRecDepth 100000
set_option maxHeartbeats 4000000
theorem Cr {t:Text} {k:Nat} (hk:k<t.length) (h:¬ Nm.pN t k=true):Nm.label t=false:=by
 simp only [Nm.label,decide_eq_false_iff_not];exact fun e=>h (e.2.2 k hk)
theorem Cs {t:Text} {k:Nat} {c:UInt8} (hc:t[k]? = some c):Nm.pN t k=true↔(97≤c.toNat∧c.toNat≤122)∨(48≤c.toNat∧c.toNat≤57)∨(c.toNat=45∧0<k∧k+1<t.length):=by
 have:c=45↔c.toNat=45:=⟨fun e=>by rw [e]; rfl,fun e=>UInt8.toNat_inj.1 e⟩;simp [Nm.pN,hc,Nm.Cd,this,or_assoc,and_assoc]
theorem NX {t:Text} {k:Nat} {c:UInt8} (hc:t[k]? = some c) (h:c=46):Nm.split (t.take (k+1))=Nm.split (t.take k)++[[]]:=by
 rw [dm hc,h,Nm.NL]
theorem NY {t:Text} {k:Nat} {c:UInt8} (hc:t[k]? = some c) (h:c≠46) {i:List Text} {x:Text} (e:Nm.split (t.take k)=i++[x]):Nm.split (t.take (k+1))=i++[x++[c]]:=by
 obtain ⟨j,y,h1,h2⟩:=Nm.NM (t.take k) c h;rw [e] at h1;obtain ⟨rfl,h3⟩:=List.append_inj' h1 rfl;cases h3;rw [dm hc,h2]
theorem G3 (t:Text):(Nm.split t).length≤t.length+1:=by
 induction t with
 |nil=>simp [Nm.split]
 |cons c r ih =>
  by_cases hc:c=46
  ·subst hc; simp [Nm.split]; omega
  ·obtain ⟨x,u,h1,h2⟩:=Nm.nk c r hc;rw [h2];rw [h1] at ih;simp at ih ⊢;omega
theorem NZ (t:Text):∀ x∈Nm.split t,x.length≤t.length:=by
 induction t with
 |nil=>simp [Nm.split]
 |cons c r ih =>
  intro x hx;by_cases hc:c=46
  ·subst hc;simp only [Nm.split,if_true] at hx;rcases List.mem_cons.1 hx with rfl | hx
   ·simp
   ·have:=ih x hx; simp; omega
  ·obtain ⟨y,u,h1,h2⟩:=Nm.nk c r hc;rw [h2] at hx;rw [h1] at ih;rcases List.mem_cons.1 hx with rfl | hx
   ·have:=ih y (List.mem_cons_self ..); simp; omega
   ·have:=ih x (List.mem_cons_of_mem _ hx); simp; omega
theorem G4 (t:Text) (ht:t.length≤1000):au E 136 [.str t] (· = .sl ((Nm.split t).map .str)):=by
 refine au.run ag (fn:=Tryz.f136) Tryz.func136 (body:=Tryz.f136.body.getD .skip) rfl (by decide) 6 ?_;(conv=>whnf);refine I.ox ag rfl ?_;refine gO Tryz.func136 ?_;refine I.loop (κ:=Nat) ([3,4]++rg 6 30) (fun k=>[(4,.d (.int .i64 k)),(3,.own 0 1)]) (fun k=>[(0,.arr 1 (9,1) ((Nm.split (t.take k)).map .str))]) (fun k=>k≤t.length) (fun k=>t.length - k) 0 (Nat.zero_le _) ?_ ?_
 ·(conv=>whnf);repeat (first | exact trivial | (refine sI ?_; conv=>whnf))
  refine And.intro (by simp [Nm.split]) ?_;exact sZ
 ·intro k hk IH;have hlen:=G3 (t.take k);rw [List.length_take] at hlen;refine I.head ag Tryz.func136 2000 ?_;(conv=>whnf);refine aj (fun h1=>?_) (fun h1=>?_)
  ·have ah:k<t.length:=by simpa using h1
   obtain ⟨c,hc⟩:=aU ah;refine gO Tryz.func136 ?_;refine l8 c (by omega) (by rw [Int.toNat_natCast]; exact hc) ?_;refine gO Tryz.func136 ?_;refine aj (fun h2=>?_) (fun h2=>?_)
   ·have Ct:c=46:=by
     have:(c.toNat:Int)=46:=by simpa using h2
     exact UInt8.toNat_inj.1 (by simp; omega)
    refine gO Tryz.func136 ?_;refine bp ⟨by simp; omega,by simp [DV.cells]⟩ ?_;refine gO Tryz.func136 ?_;refine I.back (IH (k+1) (by omega) (by omega)) ?_;(conv=>whnf);repeat (first | exact trivial | (refine sI ?_; conv=>whnf))
    refine And.intro (by rw [NX hc Ct]; simp) ?_;exact sZ
   ·have Ct:c≠46:=by rintro rfl; simp at h2
    obtain ⟨i,x,e1⟩:∃ i x,Nm.split (t.take k)=i++[x]:=⟨_,_,(List.dropLast_concat_getLast (Nm.lH _)).symm⟩;have aV:=NY hc Ct e1;rw [e1] at hlen ⊢;have hw:IntKind.i64.wrap ((((i++[x]).map DV.str).length:Int) - 1)=(i.length:Int):=by
     rw [wrap64 (by simp) (by simp; simp at hlen; omega)]; simp
    refine gO Tryz.func136 ?_;refine I.bU ag bV 2000 (by kernel_rfl) ?_;(conv=>whnf);rw [hw];have dB:((i++[x]).map DV.str)[((i.length:Nat):Int).toNat]? = some (.str x):=by simp
    have N0:(List.drop (Int.toNat (k:Int)) (List.take (IntKind.i64.wrap ((k:Int)+1)).toNat t))=[c]:=by
     rw [wrap64 (by omega) (by omega),show ((k:Int)+1).toNat=k+1 by omega,Int.toNat_natCast,dm hc];simp [Nat.min_eq_left (Nat.le_of_lt ah)]
    refine bp ⟨by omega,by simp; omega⟩ ?_;refine gD ?_;refine gv (.str x) (by omega) dB rfl ?_;refine gD ?_;have dx:IntKind.i64.wrap ((k:Int)+1)=(k:Int)+1:=wrap64 (by omega) (by omega);refine bp ⟨by simp,by simp [dx]; omega,by simp [dx]; omega⟩ ?_;refine gD ?_;have mh:x.length≤1000:=by
     have:=NZ (t.take k) x (by rw [e1]; simp);simp at this;omega
    simp only [Option.getD_some];rw [N0];refine bp (by simp; omega) ?_;refine gD ?_;refine bp ⟨by omega,by simp; omega⟩ ?_;refine gD ?_;refine gv (.str x) (by omega) dB rfl ?_;refine gD ?_;refine And.intro (by kernel_rfl) ?_;(conv=>whnf);refine gO Tryz.func136 ?_;refine I.back (IH (k+1) (by omega) (by omega)) ?_;(conv=>whnf);repeat (first | exact trivial | (refine sI ?_; conv=>whnf))
    refine And.intro (by rw [aV]; simp [List.set_append_right]) ?_;exact sZ
  ·have aK:k=t.length:=by simp at h1; omega
   subst aK;refine gO Tryz.func136 ?_;simp
theorem G5 (t:Text) (ht:t.length≤1000):au E 67 [.str t] (· = .sl ((Nm.labels t).map .str)):=by
 refine au.norm ?_;refine eP Tryz.func67 ?_;repeat' (first | with_reducible refine ar (G4 _ ht) ?_ | with_reducible refine aR (G4 _ ht) ?_ | with_reducible refine cY ?_ | with_reducible refine cN ?_ | with_reducible refine aj (fun _=>?_) (fun _=>?_) | refine gA Tryz.func67 ?_ | refine gB ?_ | with_reducible rfl)
 all_goals simp_all [Nm.labels,norm]
theorem G6 (t:Text):(Nm.labels t).length≤t.length+1:=by
 unfold Nm.labels;split
 ·simp
 ·exact G3 t
def Nm.fZ (s z:Text):Bool:=Nm.valid s&&Nm.valid z&&Nm.under s z
theorem N1 (s z:Text) (hs:s.length≤1000) (hz:z.length≤1000):au E 66 [.str s,.str z] (· = .bool (Nm.under s z)):=by
 have qk:=G6 s;have mL:=G6 z;unfold Nm.under;refine eP Tryz.func66 ?_
 with_reducible refine ar (G5 _ hs) ?_
 refine gO Tryz.func66 ?_
 with_reducible refine ar (G5 _ hz) ?_
 refine gO Tryz.func66 ?_;generalize Nm.labels s=l at *;generalize Nm.labels z=m at *;refine aj (fun h3=>?_) (fun h3=>?_)
 ·refine gO Tryz.func66 ?_;simp at h3;rw [decide_eq_false];exact fun h=>by have:=h.length_le; omega
 ·have hle:m.length≤l.length:=by simp at h3; omega
  have e:decide (m <:+ l)=decide (m=l.drop (l.length - m.length)):=decide_eq_decide.2 ⟨List.suffix_iff_eq_drop.1,List.suffix_iff_eq_drop.2⟩;rw [e];refine gO Tryz.func66 ?_;refine I.loop (κ:=Nat) ([4,7]++rg 17 21) (fun k=>[(7,.d (.int .i64 k))]) (fun _=>[]) (fun k=>k≤m.length∧m.take k=(l.drop (l.length - m.length)).take k) (fun k=>m.length - k) 0 ⟨Nat.zero_le _,rfl⟩ ?_ ?_
  ·exact sZ
  rintro k ⟨hk,a7⟩ IH;refine I.head ag Tryz.func66 2000 ?_;(conv=>whnf);refine aj (fun h5=>?_) (fun h5=>?_)
  ·have ah:k<m.length:=by simpa using h5
   obtain ⟨x,hx⟩:=aU ah;obtain ⟨y,hy⟩:=aU (l:=l) (k:=l.length - m.length+k) (by omega);have Cu:(l.drop (l.length - m.length))[k]? = some y:=by rw [List.getElem?_drop]; exact hy
   have hw:IntKind.i64.wrap (IntKind.i64.wrap ((l.length:Int) - m.length)+k)=((l.length - m.length+k:Nat):Int):=by rw [wrap64 (n:=(l.length:Int) - m.length) (by omega) (by omega),wrap64 (by omega) (by omega)]; omega
   refine gO Tryz.func66 ?_;refine I.bU ag bV 2000 (by kernel_rfl) ?_;(conv=>whnf);refine aT (e := .str y) (by rw [List.length_map,List.length_map,hw]; exact bu hy) rfl ?_;refine gD ?_;refine aT (e := .str x) (bu hx) rfl ?_;refine gD ?_;refine gO Tryz.func66 ?_;by_cases kM:x=y
   ·refine aW (by simp [kM]) ?_;refine gO Tryz.func66 ?_;refine I.back (IH (k+1) ⟨ah,by rw [dm hx,dm Cu,a7,kM]⟩ (by omega)) ?_;exact sZ
   ·refine bg (by simpa using fun h=>kM h.symm) ?_;refine gO Tryz.func66 ?_;rw [decide_eq_false];intro h;rw [← h,hx] at Cu;exact kM (Option.some.inj Cu)
  ·have aK:k=m.length:=by simp at h5; omega
   subst aK;refine gO Tryz.func66 ?_;rw [List.take_length,List.take_of_length_le (by simp; omega)] at a7;rw [decide_eq_true a7]
def gE (i:Nat) (x:Text):Bool:=Nm.label x||(decide (i=0)&&decide (x=[42]))
theorem rD {L:List Text}:Nm.parts L=true↔L.length≤8∧∀ i x,L[i]? = some x→gE i x=true:=by
 cases L with
 |nil=>simp [Nm.parts]
 |cons a r =>
  simp only [Nm.parts,Bool.and_eq_true,decide_eq_true_eq,List.all_eq_true];constructor
  ·rintro ⟨h1,h2,h3⟩;refine ⟨h1,fun i x hx=>?_⟩;cases i with
   |zero=>simp at hx; subst hx; simpa [gE] using h2
   |succ i=>simp at hx; simp [gE,h3 x (List.mem_of_getElem? hx)]
  ·rintro ⟨h1,h2⟩;refine ⟨h1,by simpa [gE] using h2 0 a rfl,fun x hx=>?_⟩;obtain ⟨i,hi⟩:=List.getElem?_of_mem hx
   simpa [gE] using h2 (i+1) x (by simpa using hi)
end Go.Proofs.YtfmdaiojokniiaaGreatDoor.P
end
section
namespace Go.Proofs.YtfmdaiojokniiaaGreatDoor.P
open Go Go.aw Go.Sort Go.RowKit
def kf (x:Int × Int):List Value:=[.int .i64 x.1,.int .i64 x.2]
def iH (x:Int × Int):DV := .agg [.int .i64 x.1,.int .i64 x.2]
def IV (P:Program) (f g:Nat) (key:Int × Int→Int):Prop:=∀ (blk cap:Nat) (d:Array (Int × Int)) (w:World),HoldsK kf 2 w blk 0 d→blk<w.heap.size→d.size<4611686018427387904 →
 Calls P f #[.slice (some ⟨blk,0,none⟩) d.size cap,.func (.func g) #[] #[]] w fun e w'=>e = .returned (.tuple #[])∧∃ d' n os,PermIn 0 d.size d d'∧SortedIn (ltOf fun x y:Int × Int=>Lib.compareInt (key x) (key y)) 0 d.size d'∧w'=sortWorldK kf 2 w blk 0 n d' os
theorem zE (key:Int × Int→Int) (x y:Int × Int):ltOf (fun x y:Int × Int=>Lib.compareInt (key x) (key y)) x y=decide (key x<key y):=by
 unfold ltOf Lib.compareInt;by_cases h1:key x<key y
 ·simp [h1]
 ·by_cases h2:key y<key x <;> simp [h1,h2]
theorem QD (key:Int × Int→Int):SWO (ltOf fun x y:Int × Int=>Lib.compareInt (key x) (key y)) where
 irrefl x:=by rw [zE]; simp
 trans x y z h1 h2:=by rw [zE] at *; simp at *; omega
 ntrans x y z h1 h2:=by rw [zE] at *; simp at *; omega
theorem IW (d:Array (Int × Int)) (i:Nat) (x:Int × Int) (h:d[i]? = some x):(flatK kf 2 d)[i*2]! = .int .i64 x.1∧(flatK kf 2 d)[i*2+1]! = .int .i64 x.2:=by
 have hi:i<d.size:=by
  rcases Nat.lt_or_ge i d.size with h' | h'
  ·exact h'
  ·rw [Array.getElem?_eq_none h'] at h; cases h
 have hx:d[i]! = x:=by simp [getElem!_pos d i hi]; rw [Array.getElem?_eq_getElem hi] at h; exact Option.some.inj h
 constructor
 ·rw [get_flatK _ _ _ _ (by omega),show i*2 / 2=i by omega,show i*2 % 2=0 by omega,hx]; rfl
 ·rw [get_flatK _ _ _ _ (by omega),show (i*2+1) / 2=i by omega,show (i*2+1) % 2=1 by omega,hx]; rfl
theorem QE {w:World} {blk n:Nat} {d:Array (Int × Int)} {os:Array Obj} {vs:Array Value} {ty:TypeId} (hb:w.heap[blk]? = some (.cells vs ty (0,0))) :
  let w':=sortWorldK kf 2 w blk 0 n d os
  w'.os=w.os∧w'.tape=w.tape∧w'.output=w.output∧w.heap.size≤w'.heap.size∧(∀ b,b<w.heap.size→b≠blk→w'.heap[b]? = w.heap[b]?)∧w'.heap[blk]? = some (.cells (putCells id 0 (flatK kf 2 d) vs) ty (0,0)):=by
 intro w';have ah:blk<w.heap.size:=by
  rcases Nat.lt_or_ge blk w.heap.size with h | h
  ·exact h
  ·rw [Array.getElem?_eq_none h] at hb; cases hb
 have bK:(putRowK kf 2 (Sort.ahead w n) blk 0 d).heap.size=w.heap.size:=by simp [putRowK,putRow,mapBlock]
 refine ⟨rfl,rfl,rfl,?_,fun b bT aE=>?_,?_⟩
 ·show w.heap.size≤(grow _ os).heap.size;rw [size_grow,bK]; omega
 ·show (grow _ os).heap[b]? = _;rw [heap_grow_old _ _ (by rw [bK]; exact bT)];simp [putRowK,putRow,mapBlock,Array.getElem?_modify,Ne.symm aE]
 ·show (grow _ os).heap[blk]? = _;rw [heap_grow_old _ _ (by rw [bK]; exact ah)];simp [putRowK,putRow,mapBlock,Array.getElem?_modify,hb,onCells]
theorem Du {bad:Nat→Prop} {w:World} {k:IntKind} {n:Int} {v:Value} (h:VD bad w (.int k n) v):v = .int k n:=by cases h; rfl
theorem QF {E:Env} {f g:FuncId} {key:Int × Int→Int} {t:Nat} (hS:IV E.P f g key) (fL:pf E.P f) (l:List (Int × Int)) (hl:l≠[]) (hlen:l.length<4611686018427387904) :
  aq E f [.arr 0 (t,2) (l.map iH)] [.own 0 0,.fn (.func g) [] []] (fun a b=>a = .az []∧∃ l':List (Int × Int),l'.Perm l∧l'.Pairwise (fun x y=>key x≤key y)∧b=[.arr 0 (t,2) (l'.map iH)]):=by
 unfold aq;refine ⟨fL,kI rfl,fun c vs h1 h2 h3=>?_⟩;obtain ⟨v1,v2,rfl⟩:∃ v1 v2,vs=[v1,v2]:=by
  have:=h3.1
  match vs,this with
  | [a,b],_=>exact ⟨a,b,rfl⟩
 have pI:=h3.2 0 _ v1 rfl rfl;have tz:=h3.2 1 _ v2 rfl rfl;have cM:c.heap[0]? = some (.arr 0 (t,2) (l.map iH)):=by rw [h1]; rfl
 obtain ⟨u1,u2,rfl,e2,e3⟩:=jn tz;obtain rfl:u1=[]:=List.eq_nil_of_length_eq_zero (by have:=e2.1; simpa using this.symm);obtain rfl:u2=[]:=List.eq_nil_of_length_eq_zero (by have:=e3.1; simpa using this.symm);rcases kz cM pI with ⟨blk,cap,r1,rfl⟩ | ⟨mi,-,-⟩
 case inr=>exact absurd (List.map_eq_nil_iff.1 mi) hl
 obtain ⟨q0,q1,q2⟩:=h2.box 0 _ cM;rcases q2 with ⟨q2,-⟩ | ⟨ib,gR,vs',q2,q3,q4,q5,q6,q7⟩
 ·rw [r1] at q2; cases q2
 rw [r1] at q2;cases q2;simp only at q3 q4 q7;have cT:∀ (i:Nat) (x:Int × Int),l[i]? = some x→vs'[i*2]? = some (.int .i64 x.1)∧vs'[i*2+1]? = some (.int .i64 x.2):=fun i x hx=>by
  have he:(l.map iH)[i]? = some (iH x):=by simp [hx]
  obtain ⟨v,a1,a2,a3⟩:=q7 i 0 (iH x) (.int .i64 x.1) he rfl;obtain ⟨v',b1,b2,b3⟩:=q7 i 1 (iH x) (.int .i64 x.2) he rfl;rw [Du a3] at a1;rw [Du b3] at b1;exact ⟨a1,b1⟩
 have fg:l.toArray.size=l.length:=by simp
 have hH:HoldsK kf 2 c.w blk 0 l.toArray:=by
  intro j hj;simp only [size_flatK,fg] at hj;obtain ⟨x,hx⟩:∃ x,l[j / 2]? = some x:=⟨l[j / 2]'(by omega),by rw [List.getElem?_eq_getElem]⟩;have eK:l.toArray[j / 2]? = some x:=by simpa using hx
  obtain ⟨f1,f2⟩:=IW l.toArray (j / 2) x eK;obtain ⟨c1,c2⟩:=cT (j / 2) x hx;refine ⟨?_,by simp [World.frozen?,q3]⟩;rcases Nat.mod_two_eq_zero_or_one j with hm | hm
  ·have ej:j / 2*2=j:=by omega
   rw [ej] at f1 c1;show _=some ((flatK kf 2 l.toArray)[j]!);rw [f1];exact jM q3 _ _ (by simpa using c1)
  ·have ej:j / 2*2+1=j:=by omega
   rw [ej] at f2 c2;show _=some ((flatK kf 2 l.toArray)[j]!);rw [f2];exact jM q3 _ _ (by simpa using c2)
 have hblk:=(h2.bk 0 blk cap r1).1;have fB:=hS blk cap l.toArray c.w hH hblk (by rw [fg]; exact hlen);rw [fg] at fB;have gq:([Value.slice (some ⟨blk,0,none⟩) (l.map iH).length cap,.func (.func g) ([]:List Value).toArray ([]:List Value).toArray]:List Value).toArray = #[.slice (some ⟨blk,0,none⟩) l.length cap,.func (.func g) #[] #[]]:=by simp
 rw [gq];refine fB.mono fun e w' ⟨he,d',n,os,hp,hs,hw⟩=>?_;subst he;obtain ⟨p1,-,p3⟩:=hp;have ef:d'.size=l.length:=by rw [p1,fg]
 have lS:d'.toList.Perm l:=by
  have ex:∀ (a:Array (Int × Int)),a.size=l.length→(a.extract 0 l.length).toList=a.toList:=fun a ha=>by rw [← ha,Array.extract_size]
  rw [ex d' ef,ex l.toArray fg] at p3
  simpa using p3
 have Dv:d'.toList.Pairwise (fun x y=>key x≤key y):=by
  refine List.pairwise_iff_getElem.2 fun i j hi hj dp=>?_;have bS:i<d'.size:=by simpa using hi
  have dC:j<d'.size:=by simpa using hj
  have:=hs i j (Nat.zero_le _) dp (by omega);rw [zE,decide_eq_false_iff_not,getElem!_pos d' j dC,getElem!_pos d' i bS] at this;simp only [Array.getElem_toList];omega
 obtain ⟨a1,a2,a3,a4,a5,a6⟩:=QE (n:=n) (d:=d') (os:=os) q3;rw [← hw] at a1 a2 a3 a4 a5 a6
 let c':Cx:={ c with heap:=[.arr 0 (t,2) (d'.toList.map iH)],w:=w' }
 have cd:∀ i bx,c.heap[i]? = some bx→i=0∧bx = .arr 0 (t,2) (l.map iH):=fun i bx hi=>by
  rw [h1] at hi;cases i with
  |zero=>simp at hi; exact ⟨rfl,hi.symm⟩
  |succ i=>simp at hi
 have jq:(d'.toList.map iH).length=(l.map iH).length:=by simp [ef]
 have aV:aw.Step c c':=⟨rfl,h2.bG,a1,a2,a3,a4,fun b hb hn=>a5 b hb (fun e=>by subst e; exact hn 0 cap r1),fun i b n hi _=>⟨n,hi⟩,fun i bx hi=>by
  obtain ⟨rfl,rfl⟩:=cd i bx hi
  exact .inl ⟨0,_,rfl,.inr ⟨rfl,jq,rfl⟩⟩⟩
 have aJ:aC E.G c':=h2.next aV (fun i b n hi=>by
   have:=h2.bk i b n hi;refine ⟨Nat.lt_of_lt_of_le this.1 a4,?_⟩;have h0:c.heap.length=1:=by rw [h1]; rfl
   show i<1;omega) h2.inj (fun i bx hi=>by
  right;cases i with
  |succ i=>simp [c'] at hi
  |zero =>
   simp [c'] at hi;subst hi;refine ⟨q0,fun i e he=>?_,.inr ⟨blk,cap,_,r1,a6,?_,?_,q6,fun i j e x he hx=>?_⟩⟩
   ·simp only [List.getElem?_map] at he;cases hq:d'.toList[i]? with
    |none=>rw [hq] at he; cases he
    |some y=>rw [hq] at he; cases he; rfl
   ·simp [putCells,q4]
   ·rw [jq]; exact q5
   ·simp only [List.getElem?_map] at he;cases hq:d'.toList[i]? with
    |none=>rw [hq] at he; cases he
    |some y =>
     rw [hq] at he;cases he;have hi:i<l.length:=by have:=aP hq; simpa [ef] using this
     have sU:d'[i]? = some y:=by simpa using hq
     obtain ⟨f1,f2⟩:=IW d' i y sU;have eu:vs'.size=cap*2:=q4;have dS:(l.map iH).length=l.length:=by simp
     have kQ:l.length≤cap:=by rw [← dS]; exact q5
     have at_:∀ k,k<2→(putCells id 0 (flatK kf 2 d') vs')[i*2+k]? = some ((flatK kf 2 d')[i*2+k]!):=fun k hk=>by
      have h5:i*2+k<vs'.size:=by omega
      simp only [putCells,Array.getElem?_mapIdx,Array.getElem?_eq_getElem h5,Option.map_some];rw [if_pos ⟨Nat.zero_le _,by rw [size_flatK,ef]; omega⟩];rfl
     match j with
     | 0 =>
      simp [iH,DV.cells] at hx;subst hx;exact ⟨_,(at_ 0 (by omega)).trans (congrArg some f1),rfl,.int _ _⟩
     | 1 =>
      simp [iH,DV.cells] at hx;subst hx;exact ⟨_,(at_ 1 (by omega)).trans (congrArg some f2),rfl,.int _ _⟩
     |j+2=>simp [iH,DV.cells] at hx)
 refine ⟨c',.az [],.tuple #[],rfl,rfl,⟨rfl,d'.toList,lS,Dv,rfl⟩,.az [] #[] rfl (fun j x v hx=>by simp at hx),aJ,?_⟩
 exact ⟨rfl,a1,a2,a3,a4,fun b hb hn=>a5 b hb (fun e=>by subst e; exact hn 0 cap r1),fun i b n hi _=>⟨n,hi⟩,fun i bx hi=>by
  obtain ⟨rfl,rfl⟩:=cd i bx hi
  exact .inl ⟨0,_,rfl,.inr ⟨rfl,jq,rfl⟩⟩⟩
end Go.Proofs.YtfmdaiojokniiaaGreatDoor.P
end
