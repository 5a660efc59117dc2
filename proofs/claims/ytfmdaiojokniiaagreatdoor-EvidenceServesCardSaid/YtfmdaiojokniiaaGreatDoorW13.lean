/- Several texts of mine, one behind the other. Conditions: as each says. -/
import Derived.Test.YtfmdaiojokniiaaGreatDoorW12
set_option linter.unusedVariables false
set_option linter.unusedSimpArgs false
section
namespace Go.Proofs.YtfmdaiojokniiaaGreatDoor.P
open Go Go.aw
set_option maxRecDepth 100000
structure nt where
 text:Int
 Ho:Int
 Hp:Int
 Hq:Int
 Hr:Int
 even:Bool
 single:Bool
 iW:Bool
@[reducible] def nt.enc (r : nt) : DV := .agg [.int .i64 r.text, .int .i64 r.Ho, .int .i64 r.Hp, .int .i64 r.Hq, .int .i64 r.Hr, .bool r.even, .bool r.single, .bool r.iW]
def nu:Nat→nt
 | 1=>⟨0,1,1000000,0,0,false,false,true⟩
 | 2=>⟨1,0,0,0,0,false,false,false⟩
 | 3=>⟨1,0,0,0,0,false,true,false⟩
 | 4=>⟨0,0,65535,0,100000,false,true,false⟩
 | 5=>⟨3,0,0,0,0,false,false,true⟩
 | 6=>⟨0,1,1000000,1,3,false,false,false⟩
 | 7=>⟨0,1,1000000,1,3,false,false,false⟩
 | 8=>⟨2,2,510,0,0,true,false,true⟩
 |_=>⟨0,0,0,0,0,false,false,false⟩
def wE (r:nt) (t:Text):Bool:=if r.text=1 then Nm.valid t && !Nm.iW t else if r.text=2 then Nm.valid t else if r.text=3 then iV t else t==[]
def rK (r:nt) (d:Datum):Bool :=
 (decide (r.Ho≤d.n)&&decide (d.n≤r.Hp))&&(decide (r.Hq≤d.m)&&decide (d.m≤r.Hr)) && !(r.even&&(d.n.tmod 2 != 0))&&wE r d.text
theorem OP (r:nt) (d:Datum) (hd:d.text.length≤maxLen):au E 279 [r.enc,d.enc] (· = .bool (rK r d)):=by
 obtain ⟨rt,r1,r2,r3,r4,re,rs,rw⟩:=r;refine eP Tryz.func279 ?_;repeat' (first | with_reducible refine ar (wB _ _ _) ?_ | with_reducible refine aR (wB _ _ _) ?_ | with_reducible refine ar (fQ _ hd) ?_ | with_reducible refine aR (fQ _ hd) ?_ | with_reducible refine ar (yY _) ?_ | with_reducible refine aR (yY _) ?_ | with_reducible refine ar (Hn _) ?_ | with_reducible refine aR (Hn _) ?_ | with_reducible refine cY ?_ | with_reducible refine cN ?_ | with_reducible refine aj (fun _=>?_) (fun _=>?_) | refine gA Tryz.func279 ?_ | refine gB ?_ | with_reducible rfl)
 all_goals simp_all [rK,wE]
 all_goals (intros; exfalso; omega)
theorem OQ {k:Nat} (h1:1≤k) (h8:k≤8):∃ cs,yI = .agg cs∧(cs.drop (k*8)).take 8=(nu k).enc.cells:=by
 refine ⟨_,rfl,?_⟩
 match k,h1,h8 with
 | 1,_,_=>rfl
 | 2,_,_=>rfl
 | 3,_,_=>rfl
 | 4,_,_=>rfl
 | 5,_,_=>rfl
 | 6,_,_=>rfl
 | 7,_,_=>rfl
 | 8,_,_=>rfl
structure dc.Fits (s:dc):Prop where
 name:s.name.length≤maxLen
 data:s.data.length≤2147483648
 texts:∀ d∈s.data,d.text.length≤maxLen
def mn (r:nt):Option Datum→List Datum→Bool
 |_,[]=>true
 |p,d::l=>rK r d&&(match p with | none=>true | some e=>decide (wC e d<0))&&mn r (some d) l
def nv (l:List Datum) (k:Nat):Option Datum:=if k=0 then none else l[k - 1]?
theorem OR {r:nt} {l:List Datum} {k:Nat} {d:Datum} (hd:l[k]? = some d):mn r (nv l k) (l.drop k)=(rK r d&&(match nv l k with | none=>true | some e=>decide (wC e d<0))&&mn r (nv l (k+1)) (l.drop (k+1))):=by
 have hk:=aP hd;rw [List.drop_eq_getElem_cons hk];have e1:l[k]=d:=by simpa [hk] using hd
 have e2:nv l (k+1)=some d:=by simp [nv,hd]
 rw [e1,e2];rfl
def fF (s:dc):Bool:=Nm.valid s.name&&(decide (1≤s.type)&&decide (s.type≤8))&&(decide (0≤s.cV)&&decide (s.cV≤100000))&&(decide (1≤(s.data.length:Int))&&decide ((s.data.length:Int)≤8)) &&
 !((nu s.type.toNat).single&&((s.data.length:Int) != 1)) && !(Nm.iW s.name && !(nu s.type.toNat).iW)&&mn (nu s.type.toNat) none s.data
theorem tP (s:dc) (hf:s.Fits):au E 220 [s.enc] (· = .bool (fF s)):=by
 refine eP Tryz.func220 ?_;repeat' (first | with_reducible refine ar (fQ _ hf.name) ?_ | with_reducible refine aR (fQ _ hf.name) ?_ | with_reducible refine ar (wB _ _ _) ?_ | with_reducible refine aR (wB _ _ _) ?_ | with_reducible refine cY ?_ | with_reducible refine cN ?_ | with_reducible refine aj (fun _=>?_) (fun _=>?_) | refine gA Tryz.func220 ?_ | refine gB ?_ | with_reducible rfl)
 all_goals try (simp only [Bool.not_eq_true',Bool.not_eq_false',List.length_map] at *; simp only [fF, *,Bool.false_and,Bool.and_false]; done)
 rename_i h1 h2 h3 h4;rw [List.length_map] at h4;rw [Bool.not_eq_false'] at h1 h2 h3 h4;have ht:1≤s.type∧s.type≤8:=by simpa using h2
 have hl:1≤s.data.length∧s.data.length≤8:=by simp at h4; omega
 obtain ⟨t,mP⟩:=Int.eq_ofNat_of_zero_le (a:=s.type) (by omega);obtain ⟨cs,jT,Hs⟩:=OQ (k:=t) (by omega) (by omega);cases jT;refine LZ (nu t).enc (by omega) (by omega) (by decide) (by rw [mP]; exact Hs) rfl ?_;have jW:fF s=(!((nu t).single&&((s.data.length:Int) != 1)) && !(Nm.iW s.name && !(nu t).iW)&&mn (nu t) none s.data):=by
  simp only [fF,h1,h2,h3,h4,Bool.true_and];rw [mP,Int.toNat_natCast]
 rw [jW];generalize nu t=r;clear jW Hs;refine gO Tryz.func220 ?_;repeat' (first | with_reducible refine ar (yY _) ?_ | with_reducible refine aR (yY _) ?_ | with_reducible refine cY ?_ | with_reducible refine cN ?_ | with_reducible refine aj (fun _=>?_) (fun _=>?_) | refine gA Tryz.func220 ?_ | refine gB ?_ | with_reducible rfl)
 all_goals try (simp only [List.length_map,Bool.not_eq_true',Bool.not_eq_false'] at *; simp only [*,Bool.true_and,Bool.not_true,Bool.not_false,Bool.and_false,Bool.false_and,Bool.and_self]; done)
 all_goals
  have kv:(!(r.single&&((s.data.length:Int) != 1)) && !(Nm.iW s.name && !r.iW)&&mn r none s.data)=mn r none s.data:=by
   try simp only [List.length_map] at *
   simp only [*,Bool.not_true,Bool.not_false,Bool.and_false,Bool.false_and,Bool.and_self,Bool.true_and]
  rw [kv];clear kv;refine gO Tryz.func220 ?_;refine I.loop (κ:=Nat) ([2,4,5]++rg 52 25) (fun k=>[(52,.d (.int .i64 k))]) (fun _=>[]) (fun k=>k≤s.data.length∧mn r none s.data=mn r (nv s.data k) (s.data.drop k)) (fun k=>s.data.length - k) 0 ⟨Nat.zero_le _,rfl⟩ ?_ ?_
  ·exact sZ
  ·intro k hk IH;refine I.head ag Tryz.func220 2000 ?_;(conv=>whnf);refine aj (fun h5=>?_) (fun h5=>?_)
   ·have ah:k<s.data.length:=by simpa using h5
    obtain ⟨d,hd⟩:=aU ah;have bB:=OR (r:=r) hd;rw [← hk.2] at bB;refine gO Tryz.func220 ?_;refine gv d.enc (by omega) (nr hd) rfl ?_;refine gO Tryz.func220 ?_;refine I.bU ag bV 2000 (by kernel_rfl) ?_;(conv=>whnf);refine aR (OP r d (hf.texts d (List.mem_of_getElem? hd))) ?_;refine gD ?_;refine aj (fun h6=>?_) (fun h6=>?_)
    ·refine gD ?_;refine gO Tryz.func220 ?_;refine aY ?_;refine gO Tryz.func220 ?_;rw [Bool.not_eq_true'] at h6;rw [bB,h6,Bool.false_and,Bool.false_and]
    ·rw [Bool.not_eq_false'] at h6;refine gD ?_;refine aj (fun h7=>?_) (fun h7=>?_)
     ·have eL:0<k:=by simpa using h7
      obtain ⟨e,he⟩:=aU (l:=s.data) (k:=k - 1) (by omega);have hw:IntKind.i64.wrap ((k:Int) - 1)=((k - 1:Nat):Int):=by rw [wrap64 (by omega) (by omega)]; omega
      have yZ:nv s.data k=some e:=by simp [nv,he]; omega
      refine gD ?_;rw [hw];refine gv e.enc (by omega) (nr he) rfl ?_;refine gD ?_;refine aR (OG _ _) ?_;refine gD ?_;refine gO Tryz.func220 ?_;refine aj (fun h8=>?_) (fun h8=>?_)
      ·refine gO Tryz.func220 ?_;have:decide (wC e d<0)=false:=by simp at h8 ⊢; omega
       rw [bB,yZ]; dsimp only; rw [this,Bool.and_false,Bool.false_and]
      ·refine gO Tryz.func220 ?_;have:decide (wC e d<0)=true:=by simp at h8 ⊢; omega
       refine I.back (IH (k+1) ⟨by omega,by rw [bB,yZ]; dsimp only; rw [this,h6]; rfl⟩ (by omega)) ?_;exact sZ
     ·have eL:k=0:=by simp at h7; omega
      have yZ:nv s.data k=none:=by simp [nv,eL]
      refine gD ?_;refine gO Tryz.func220 ?_;refine aN ?_;refine gO Tryz.func220 ?_;refine I.back (IH (k+1) ⟨by omega,by rw [bB,yZ,h6]; rfl⟩ (by omega)) ?_;exact sZ
   ·have aK:s.data.length≤k:=by simpa using h5
    refine gO Tryz.func220 ?_;rw [hk.2,List.drop_of_length_le aK];rfl
end Go.Proofs.YtfmdaiojokniiaaGreatDoor.P
end
section
namespace Go.Proofs.YtfmdaiojokniiaaGreatDoor.P
open Go Go.aw
set_option maxRecDepth 100000
theorem OS {r:nt} {t:Text} (h:wE r t=true):t.length≤60:=by
 unfold wE at h;split at h
 ·simp at h; exact fD h.1
 ·split at h
  ·exact fD h
  ·split at h
   ·simp [iV] at h; omega
   ·simp at h; simp [h]
theorem CP {r:nt}:∀ {p:Option Datum} {l:List Datum},mn r p l=true→∀ d∈l,rK r d=true
 |_,[],_,d,hd=>by simp at hd
 |p,e::l,h,d,hd=>by
  simp only [mn,Bool.and_eq_true] at h;rcases List.mem_cons.1 hd with rfl | hd
  ·exact h.1.1
  ·exact CP h.2 d hd
theorem y0 {s:dc} (h:fF s=true):s.name.length≤60∧s.data.length≤8∧1≤s.data.length∧∀ d∈s.data,d.text.length≤60:=by
 simp only [fF,Bool.and_eq_true,decide_eq_true_eq] at h;obtain ⟨⟨⟨⟨⟨⟨h1,h2⟩,h3⟩,h4⟩,h5⟩,h6⟩,h7⟩:=h;refine ⟨fD h1,by omega,by omega,fun d hd=>?_⟩;have:=CP h7 d hd;simp only [rK,Bool.and_eq_true] at this;exact OS this.2
end Go.Proofs.YtfmdaiojokniiaaGreatDoor.P
end
section
namespace Go.Proofs.YtfmdaiojokniiaaGreatDoor.P
open Go Go.aw
set_option maxRecDepth 100000
def OT (k:Key):Bool:=decide (k.n≥1)&&decide (k.n≤1000000)&&decide (k.lG≥1)&&decide (k.lG≤3)
def CQ (a b:Int):Bool:=decide (a≥0)&&decide (a≤b)&&decide (b≤20000000)
def OU (s:dc) (ay:Text) (k:Key) (bQ upto:Int):Bool:=OT k&&CQ bQ upto&&Nm.valid ay && !Nm.iW ay&&fF s&&Nm.fZ s.name ay
def CS:di:=⟨[],0,0,0,0,0⟩
def y4 (a b:di):Bool:=(a.ay==b.ay&&(a.key==b.key&&(a.lG==b.lG&&(a.bQ==b.bQ&&(a.upto==b.upto&&(a.sum==b.sum&&true))))))
theorem Ht {a b:di}:y4 a b=true↔a=b:=by
 obtain ⟨a1,a2,a3,a4,a5,a6⟩:=a;obtain ⟨b1,b2,b3,b4,b5,b6⟩:=b;simp [y4]
end Go.Proofs.YtfmdaiojokniiaaGreatDoor.P
end
section
section
namespace Go.Proofs.YtfmdaiojokniiaaGreatDoor.P
open Go Go.aw
set_option maxRecDepth 100000
theorem gG {α:Type} {p:α→Bool} {l:List α} {k:Nat} {x:α} (h:l[k]? = some x) (hx:p x=false):l.all p=false:=by
 rw [Bool.eq_false_iff];intro a7;have:=List.all_eq_true.1 a7 x (List.mem_of_getElem? h);rw [hx] at this;cases this
theorem iD {α:Type} {p:α→Bool} {l:List α} {k:Nat} {x:α} (hk:(l.take k).all p=true) (h:l[k]? = some x) (hx:p x=true):(l.take (k+1)).all p=true:=by
 rw [dm h,List.all_append,hk]; simp [hx]
theorem pS {α:Type} {p:α→Bool} {l:List α} {k:Nat} (hk:(l.take k).all p=true) (h:l.length≤k):l.all p=true:=by
 rwa [List.take_of_length_le h] at hk
theorem ka:∀ (a:Text),Op.bytesLess a a=false
 | []=>rfl
 |c::a=>by simp [Op.bytesLess,ka a]
end Go.Proofs.YtfmdaiojokniiaaGreatDoor.P
end
section
namespace Go.Proofs.YtfmdaiojokniiaaGreatDoor.P
open Go Go.aw
set_option maxRecDepth 100000
set_option maxHeartbeats 4000000
end Go.Proofs.YtfmdaiojokniiaaGreatDoor.P
end
section
namespace Go.Proofs.YtfmdaiojokniiaaGreatDoor.P
open Go Go.aw
set_option maxRecDepth 100000
set_option maxHeartbeats 4000000
def OV:dc:=⟨[97,46,120],1,5,[⟨[],7,0⟩]⟩
def OW:Key:=⟨3,1⟩
theorem oz:OU OV [120] OW 10 20=true:=by decide +kernel
end Go.Proofs.YtfmdaiojokniiaaGreatDoor.P
end
end
