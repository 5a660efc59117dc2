/- Several texts of mine, one behind the other. Conditions: as each says. -/
import Derived.Test.YtfmdaiojokniiaaGreatDoorY12
set_option linter.unusedVariables false
set_option linter.unusedSimpArgs false
section
namespace Go.Proofs.YtfmdaiojokniiaaGreatDoor.P
open Go Go.ax
set_option maxRecDepth 100000
structure nQ where
 text:Int
 HP:Int
 HQ:Int
 HR:Int
 HS:Int
 even:Bool
 single:Bool
 fX:Bool
@[reducible] def nQ.enc (r : nQ) : DV := .agg [.int .i64 r.text, .int .i64 r.HP, .int .i64 r.HQ, .int .i64 r.HR, .int .i64 r.HS, .bool r.even, .bool r.single, .bool r.fX]
def eO:Nat→nQ
 | 1=>⟨0,1,1000000,0,0,false,false,true⟩
 | 2=>⟨1,0,0,0,0,false,false,false⟩
 | 3=>⟨1,0,0,0,0,false,true,false⟩
 | 4=>⟨0,0,65535,0,100000,false,true,false⟩
 | 5=>⟨3,0,0,0,0,false,false,true⟩
 | 6=>⟨0,1,1000000,1,3,false,false,false⟩
 | 7=>⟨0,1,1000000,1,3,false,false,false⟩
 | 8=>⟨2,2,510,0,0,true,false,true⟩
 |_=>⟨0,0,0,0,0,false,false,false⟩
def lj (r:nQ) (t:Text):Bool:=if r.text=1 then Nm.valid t && !Nm.fX t else if r.text=2 then Nm.valid t else if r.text=3 then fW t else t==[]
def iS (r:nQ) (d:Datum):Bool :=
 (decide (r.HP≤d.n)&&decide (d.n≤r.HQ))&&(decide (r.HR≤d.m)&&decide (d.m≤r.HS)) && !(r.even&&(d.n.tmod 2 != 0))&&lj r d.text
theorem Pf (r:nQ) (d:Datum) (hd:d.text.length≤maxLen):aq E 279 [r.enc,d.enc] (· = .bool (iS r d)):=by
 obtain ⟨rt,r1,r2,r3,r4,re,rs,rw⟩:=r;refine eP Tryz.func279 ?_;repeat' (first | with_reducible refine ao (xc _ _ _) ?_ | with_reducible refine au (xc _ _ _) ?_ | with_reducible refine ao (fZ _ hd) ?_ | with_reducible refine au (fZ _ hd) ?_ | with_reducible refine ao (zB _) ?_ | with_reducible refine au (zB _) ?_ | with_reducible refine ao (HO _) ?_ | with_reducible refine au (HO _) ?_ | with_reducible refine cY ?_ | with_reducible refine cN ?_ | with_reducible refine ah (fun _=>?_) (fun _=>?_) | refine gA Tryz.func279 ?_ | refine gB ?_ | with_reducible rfl)
 all_goals simp_all [iS,lj]
 all_goals (intros; exfalso; omega)
theorem Pg {k:Nat} (h1:1≤k) (h8:k≤8):∃ cs,zg = .agg cs∧(cs.drop (k*8)).take 8=(eO k).enc.cells:=by
 refine ⟨_,rfl,?_⟩
 match k,h1,h8 with
 | 1,_,_=>rfl
 | 2,_,_=>rfl
 | 3,_,_=>rfl
 | 4,_,_=>rfl
 | 5,_,_=>rfl
 | 6,_,_=>rfl
 | 7,_,_=>rfl
 | 8,_,_=>rfl
structure cP.Fits (s:cP):Prop where
 name:s.name.length≤maxLen
 data:s.data.length≤2147483648
 texts:∀ d∈s.data,d.text.length≤maxLen
def ky (r:nQ):Option Datum→List Datum→Bool
 |_,[]=>true
 |p,d::l=>iS r d&&(match p with | none=>true | some e=>decide (oT e d<0))&&ky r (some d) l
def jR (l:List Datum) (k:Nat):Option Datum:=if k=0 then none else l[k - 1]?
theorem HT {r:nQ} {l:List Datum} {k:Nat} {d:Datum} (hd:l[k]? = some d):ky r (jR l k) (l.drop k)=(iS r d&&(match jR l k with | none=>true | some e=>decide (oT e d<0))&&ky r (jR l (k+1)) (l.drop (k+1))):=by
 have hk:=aT hd;rw [List.drop_eq_getElem_cons hk];have e1:l[k]=d:=by simpa [hk] using hd
 have e2:jR l (k+1)=some d:=by simp [jR,hd]
 rw [e1,e2];rfl
def ev (s:cP):Bool:=Nm.valid s.name&&(decide (1≤s.type)&&decide (s.type≤8))&&(decide (0≤s.cD)&&decide (s.cD≤100000))&&(decide (1≤(s.data.length:Int))&&decide ((s.data.length:Int)≤8)) &&
 !((eO s.type.toNat).single&&((s.data.length:Int) != 1)) && !(Nm.fX s.name && !(eO s.type.toNat).fX)&&ky (eO s.type.toNat) none s.data
theorem uo (s:cP) (hf:s.Fits):aq E 220 [s.enc] (· = .bool (ev s)):=by
 refine eP Tryz.func220 ?_;repeat' (first | with_reducible refine ao (fZ _ hf.name) ?_ | with_reducible refine au (fZ _ hf.name) ?_ | with_reducible refine ao (xc _ _ _) ?_ | with_reducible refine au (xc _ _ _) ?_ | with_reducible refine cY ?_ | with_reducible refine cN ?_ | with_reducible refine ah (fun _=>?_) (fun _=>?_) | refine gA Tryz.func220 ?_ | refine gB ?_ | with_reducible rfl)
 all_goals try (simp only [Bool.not_eq_true',Bool.not_eq_false',List.length_map] at *; simp only [ev, *,Bool.false_and,Bool.and_false]; done)
 rename_i h1 h2 h3 h4;rw [List.length_map] at h4;rw [Bool.not_eq_false'] at h1 h2 h3 h4;have ht:1≤s.type∧s.type≤8:=by simpa using h2
 have hl:1≤s.data.length∧s.data.length≤8:=by simp at h4; omega
 obtain ⟨t,lM⟩:=Int.eq_ofNat_of_zero_le (a:=s.type) (by omega);obtain ⟨cs,kn,HU⟩:=Pg (k:=t) (by omega) (by omega);cases kn;refine Mr (eO t).enc (by omega) (by omega) (by decide) (by rw [lM]; exact HU) rfl ?_;have iN:ev s=(!((eO t).single&&((s.data.length:Int) != 1)) && !(Nm.fX s.name && !(eO t).fX)&&ky (eO t) none s.data):=by
  simp only [ev,h1,h2,h3,h4,Bool.true_and];rw [lM,Int.toNat_natCast]
 rw [iN];generalize eO t=r;clear iN HU;refine gO Tryz.func220 ?_;repeat' (first | with_reducible refine ao (zB _) ?_ | with_reducible refine au (zB _) ?_ | with_reducible refine cY ?_ | with_reducible refine cN ?_ | with_reducible refine ah (fun _=>?_) (fun _=>?_) | refine gA Tryz.func220 ?_ | refine gB ?_ | with_reducible rfl)
 all_goals try (simp only [List.length_map,Bool.not_eq_true',Bool.not_eq_false'] at *; simp only [*,Bool.true_and,Bool.not_true,Bool.not_false,Bool.and_false,Bool.false_and,Bool.and_self]; done)
 all_goals
  have jk:(!(r.single&&((s.data.length:Int) != 1)) && !(Nm.fX s.name && !r.fX)&&ky r none s.data)=ky r none s.data:=by
   try simp only [List.length_map] at *
   simp only [*,Bool.not_true,Bool.not_false,Bool.and_false,Bool.false_and,Bool.and_self,Bool.true_and]
  rw [jk];clear jk;refine gO Tryz.func220 ?_;refine I.loop (κ:=Nat) ([2,4,5]++rg 52 25) (fun k=>[(52,.d (.int .i64 k))]) (fun _=>[]) (fun k=>k≤s.data.length∧ky r none s.data=ky r (jR s.data k) (s.data.drop k)) (fun k=>s.data.length - k) 0 ⟨Nat.zero_le _,rfl⟩ ?_ ?_
  ·exact sZ
  ·intro k hk IH;refine I.head af Tryz.func220 2000 ?_;(conv=>whnf);refine ah (fun h5=>?_) (fun h5=>?_)
   ·have ai:k<s.data.length:=by simpa using h5
    obtain ⟨d,hd⟩:=aD ai;have aE:=HT (r:=r) hd;rw [← hk.2] at aE;refine gO Tryz.func220 ?_;refine eu d.enc (by omega) (jQ hd) rfl ?_;refine gO Tryz.func220 ?_;refine I.bH af bI 2000 (by kernel_rfl) ?_;(conv=>whnf);refine au (Pf r d (hf.texts d (List.mem_of_getElem? hd))) ?_;refine gD ?_;refine ah (fun h6=>?_) (fun h6=>?_)
    ·refine gD ?_;refine gO Tryz.func220 ?_;refine aY ?_;refine gO Tryz.func220 ?_;rw [Bool.not_eq_true'] at h6;rw [aE,h6,Bool.false_and,Bool.false_and]
    ·rw [Bool.not_eq_false'] at h6;refine gD ?_;refine ah (fun h7=>?_) (fun h7=>?_)
     ·have cJ:0<k:=by simpa using h7
      obtain ⟨e,he⟩:=aD (l:=s.data) (k:=k - 1) (by omega);have hw:IntKind.i64.wrap ((k:Int) - 1)=((k - 1:Nat):Int):=by rw [wrap64 (by omega) (by omega)]; omega
      have oV:jR s.data k=some e:=by simp [jR,he]; omega
      refine gD ?_;rw [hw];refine eu e.enc (by omega) (jQ he) rfl ?_;refine gD ?_;refine au (O8 _ _) ?_;refine gD ?_;refine gO Tryz.func220 ?_;refine ah (fun h8=>?_) (fun h8=>?_)
      ·refine gO Tryz.func220 ?_;have:decide (oT e d<0)=false:=by simp at h8 ⊢; omega
       rw [aE,oV]; dsimp only; rw [this,Bool.and_false,Bool.false_and]
      ·refine gO Tryz.func220 ?_;have:decide (oT e d<0)=true:=by simp at h8 ⊢; omega
       refine I.back (IH (k+1) ⟨by omega,by rw [aE,oV]; dsimp only; rw [this,h6]; rfl⟩ (by omega)) ?_;exact sZ
     ·have cJ:k=0:=by simp at h7; omega
      have oV:jR s.data k=none:=by simp [jR,cJ]
      refine gD ?_;refine gO Tryz.func220 ?_;refine aQ ?_;refine gO Tryz.func220 ?_;refine I.back (IH (k+1) ⟨by omega,by rw [aE,oV,h6]; rfl⟩ (by omega)) ?_;exact sZ
   ·have aC:s.data.length≤k:=by simpa using h5
    refine gO Tryz.func220 ?_;rw [hk.2,List.drop_of_length_le aC];rfl
end Go.Proofs.YtfmdaiojokniiaaGreatDoor.P
end
section
namespace Go.Proofs.YtfmdaiojokniiaaGreatDoor.P
open Go Go.ax
set_option maxRecDepth 100000
theorem Ph {r:nQ} {t:Text} (h:lj r t=true):t.length≤60:=by
 unfold lj at h;split at h
 ·simp at h; exact eB h.1
 ·split at h
  ·exact eB h
  ·split at h
   ·simp [fW] at h; omega
   ·simp at h; simp [h]
theorem Dc {r:nQ}:∀ {p:Option Datum} {l:List Datum},ky r p l=true→∀ d∈l,iS r d=true
 |_,[],_,d,hd=>by simp at hd
 |p,e::l,h,d,hd=>by
  simp only [ky,Bool.and_eq_true] at h;rcases List.mem_cons.1 hd with rfl | hd
  ·exact h.1.1
  ·exact Dc h.2 d hd
theorem zC {s:cP} (h:ev s=true):s.name.length≤60∧s.data.length≤8∧1≤s.data.length∧∀ d∈s.data,d.text.length≤60:=by
 simp only [ev,Bool.and_eq_true,decide_eq_true_eq] at h;obtain ⟨⟨⟨⟨⟨⟨h1,h2⟩,h3⟩,h4⟩,h5⟩,h6⟩,h7⟩:=h;refine ⟨eB h1,by omega,by omega,fun d hd=>?_⟩;have:=Dc h7 d hd;simp only [iS,Bool.and_eq_true] at this;exact Ph this.2
end Go.Proofs.YtfmdaiojokniiaaGreatDoor.P
end
section
namespace Go.Proofs.YtfmdaiojokniiaaGreatDoor.P
open Go Go.ax
set_option maxRecDepth 100000
def Pj (k:Key):Bool:=decide (k.n≥1)&&decide (k.n≤1000000)&&decide (k.l6≥1)&&decide (k.l6≤3)
def xd (a b:Int):Bool:=decide (a≥0)&&decide (a≤b)&&decide (b≤20000000)
def Pk (s:cP) (az:Text) (k:Key) (cj upto:Int):Bool:=Pj k&&xd cj upto&&Nm.valid az && !Nm.fX az&&ev s&&Nm.nM s.name az
def zD:da:=⟨[],0,0,0,0,0⟩
def zE (a b:da):Bool:=(a.az==b.az&&(a.key==b.key&&(a.l6==b.l6&&(a.cj==b.cj&&(a.upto==b.upto&&(a.sum==b.sum&&true))))))
theorem HV {a b:da}:zE a b=true↔a=b:=by
 obtain ⟨a1,a2,a3,a4,a5,a6⟩:=a;obtain ⟨b1,b2,b3,b4,b5,b6⟩:=b;simp [zE]
end Go.Proofs.YtfmdaiojokniiaaGreatDoor.P
end
