/- Several texts of mine, one behind the other. Conditions: as each says. -/
import Derived.Test.YtfmdaiojokniiaaGreatDoorV12
set_option linter.unusedVariables false
set_option linter.unusedSimpArgs false
section
namespace Go.Proofs.YtfmdaiojokniiaaGreatDoor.P
open Go Go.aw
set_option maxRecDepth 100000
structure ot where
 text:Int
 Is:Int
 It:Int
 Iu:Int
 Iv:Int
 even:Bool
 single:Bool
 gZ:Bool
@[reducible] def ot.enc (r : ot) : DV := .agg [.int .i64 r.text, .int .i64 r.Is, .int .i64 r.It, .int .i64 r.Iu, .int .i64 r.Iv, .bool r.even, .bool r.single, .bool r.gZ]
def eW:Nat→ot
 | 1=>⟨0,1,1000000,0,0,false,false,true⟩
 | 2=>⟨1,0,0,0,0,false,false,false⟩
 | 3=>⟨1,0,0,0,0,false,true,false⟩
 | 4=>⟨0,0,65535,0,100000,false,true,false⟩
 | 5=>⟨3,0,0,0,0,false,false,true⟩
 | 6=>⟨0,1,1000000,1,3,false,false,false⟩
 | 7=>⟨0,1,1000000,1,3,false,false,false⟩
 | 8=>⟨2,2,510,0,0,true,false,true⟩
 |_=>⟨0,0,0,0,0,false,false,false⟩
def lK (r:ot) (t:Text):Bool:=if r.text=1 then Nm.valid t && !Nm.gZ t else if r.text=2 then Nm.valid t else if r.text=3 then gh t else t==[]
def jb (r:ot) (d:Datum):Bool :=
 (decide (r.Is≤d.n)&&decide (d.n≤r.It))&&(decide (r.Iu≤d.m)&&decide (d.m≤r.Iv)) && !(r.even&&(d.n.tmod 2 != 0))&&lK r d.text
theorem P7 (r:ot) (d:Datum) (hd:d.text.length≤maxLen):aq E 279 [r.enc,d.enc] (· = .bool (jb r d)):=by
 obtain ⟨rt,r1,r2,r3,r4,re,rs,rw⟩:=r;refine eP Tryz.func279 ?_;repeat' (first | with_reducible refine ao (xy _ _ _) ?_ | with_reducible refine ay (xy _ _ _) ?_ | with_reducible refine ao (gm _ hd) ?_ | with_reducible refine ay (gm _ hd) ?_ | with_reducible refine ao (z8 _) ?_ | with_reducible refine ay (z8 _) ?_ | with_reducible refine ao (Ir _) ?_ | with_reducible refine ay (Ir _) ?_ | with_reducible refine cY ?_ | with_reducible refine cN ?_ | with_reducible refine ai (fun _=>?_) (fun _=>?_) | refine gA Tryz.func279 ?_ | refine gB ?_ | with_reducible rfl)
 all_goals simp_all [jb,lK]
 all_goals (intros; exfalso; omega)
theorem P8 {k:Nat} (h1:1≤k) (h8:k≤8):∃ cs,zL = .agg cs∧(cs.drop (k*8)).take 8=(eW k).enc.cells:=by
 refine ⟨_,rfl,?_⟩
 match k,h1,h8 with
 | 1,_,_=>rfl
 | 2,_,_=>rfl
 | 3,_,_=>rfl
 | 4,_,_=>rfl
 | 5,_,_=>rfl
 | 6,_,_=>rfl
 | 7,_,_=>rfl
 | 8,_,_=>rfl
structure cS.Fits (s:cS):Prop where
 name:s.name.length≤maxLen
 data:s.data.length≤2147483648
 texts:∀ d∈s.data,d.text.length≤maxLen
def kK (r:ot):Option Datum→List Datum→Bool
 |_,[]=>true
 |p,d::l=>jb r d&&(match p with | none=>true | some e=>decide (po e d<0))&&kK r (some d) l
def jZ (l:List Datum) (k:Nat):Option Datum:=if k=0 then none else l[k - 1]?
theorem Iw {r:ot} {l:List Datum} {k:Nat} {d:Datum} (hd:l[k]? = some d):kK r (jZ l k) (l.drop k)=(jb r d&&(match jZ l k with | none=>true | some e=>decide (po e d<0))&&kK r (jZ l (k+1)) (l.drop (k+1))):=by
 have hk:=aR hd;rw [List.drop_eq_getElem_cons hk];have e1:l[k]=d:=by simpa [hk] using hd
 have e2:jZ l (k+1)=some d:=by simp [jZ,hd]
 rw [e1,e2];rfl
def ez (s:cS):Bool:=Nm.valid s.name&&(decide (1≤s.type)&&decide (s.type≤8))&&(decide (0≤s.cD)&&decide (s.cD≤100000))&&(decide (1≤(s.data.length:Int))&&decide ((s.data.length:Int)≤8)) &&
 !((eW s.type.toNat).single&&((s.data.length:Int) != 1)) && !(Nm.gZ s.name && !(eW s.type.toNat).gZ)&&kK (eW s.type.toNat) none s.data
theorem uM (s:cS) (hf:s.Fits):aq E 220 [s.enc] (· = .bool (ez s)):=by
 refine eP Tryz.func220 ?_;repeat' (first | with_reducible refine ao (gm _ hf.name) ?_ | with_reducible refine ay (gm _ hf.name) ?_ | with_reducible refine ao (xy _ _ _) ?_ | with_reducible refine ay (xy _ _ _) ?_ | with_reducible refine cY ?_ | with_reducible refine cN ?_ | with_reducible refine ai (fun _=>?_) (fun _=>?_) | refine gA Tryz.func220 ?_ | refine gB ?_ | with_reducible rfl)
 all_goals try (simp only [Bool.not_eq_true',Bool.not_eq_false',List.length_map] at *; simp only [ez, *,Bool.false_and,Bool.and_false]; done)
 rename_i h1 h2 h3 h4;rw [List.length_map] at h4;rw [Bool.not_eq_false'] at h1 h2 h3 h4;have ht:1≤s.type∧s.type≤8:=by simpa using h2
 have hl:1≤s.data.length∧s.data.length≤8:=by simp at h4; omega
 obtain ⟨t,me⟩:=Int.eq_ofNat_of_zero_le (a:=s.type) (by omega);obtain ⟨cs,kB,Ix⟩:=P8 (k:=t) (by omega) (by omega);cases kB;refine Ni (eW t).enc (by omega) (by omega) (by decide) (by rw [me]; exact Ix) rfl ?_;have iW:ez s=(!((eW t).single&&((s.data.length:Int) != 1)) && !(Nm.gZ s.name && !(eW t).gZ)&&kK (eW t) none s.data):=by
  simp only [ez,h1,h2,h3,h4,Bool.true_and];rw [me,Int.toNat_natCast]
 rw [iW];generalize eW t=r;clear iW Ix;refine gO Tryz.func220 ?_;repeat' (first | with_reducible refine ao (z8 _) ?_ | with_reducible refine ay (z8 _) ?_ | with_reducible refine cY ?_ | with_reducible refine cN ?_ | with_reducible refine ai (fun _=>?_) (fun _=>?_) | refine gA Tryz.func220 ?_ | refine gB ?_ | with_reducible rfl)
 all_goals try (simp only [List.length_map,Bool.not_eq_true',Bool.not_eq_false'] at *; simp only [*,Bool.true_and,Bool.not_true,Bool.not_false,Bool.and_false,Bool.false_and,Bool.and_self]; done)
 all_goals
  have iM:(!(r.single&&((s.data.length:Int) != 1)) && !(Nm.gZ s.name && !r.gZ)&&kK r none s.data)=kK r none s.data:=by
   try simp only [List.length_map] at *
   simp only [*,Bool.not_true,Bool.not_false,Bool.and_false,Bool.false_and,Bool.and_self,Bool.true_and]
  rw [iM];clear iM;refine gO Tryz.func220 ?_;refine I.loop (κ:=Nat) ([2,4,5]++rg 52 25) (fun k=>[(52,.d (.int .i64 k))]) (fun _=>[]) (fun k=>k≤s.data.length∧kK r none s.data=kK r (jZ s.data k) (s.data.drop k)) (fun k=>s.data.length - k) 0 ⟨Nat.zero_le _,rfl⟩ ?_ ?_
  ·exact sZ
  ·intro k hk IH;refine I.head af Tryz.func220 2000 ?_;(conv=>whnf);refine ai (fun h5=>?_) (fun h5=>?_)
   ·have aj:k<s.data.length:=by simpa using h5
    obtain ⟨d,hd⟩:=aL aj;have aF:=Iw (r:=r) hd;rw [← hk.2] at aF;refine gO Tryz.func220 ?_;refine ev d.enc (by omega) (jY hd) rfl ?_;refine gO Tryz.func220 ?_;refine I.bH af bI 2000 (by kernel_rfl) ?_;(conv=>whnf);refine ay (P7 r d (hf.texts d (List.mem_of_getElem? hd))) ?_;refine gD ?_;refine ai (fun h6=>?_) (fun h6=>?_)
    ·refine gD ?_;refine gO Tryz.func220 ?_;refine aV ?_;refine gO Tryz.func220 ?_;rw [Bool.not_eq_true'] at h6;rw [aF,h6,Bool.false_and,Bool.false_and]
    ·rw [Bool.not_eq_false'] at h6;refine gD ?_;refine ai (fun h7=>?_) (fun h7=>?_)
     ·have cH:0<k:=by simpa using h7
      obtain ⟨e,he⟩:=aL (l:=s.data) (k:=k - 1) (by omega);have hw:IntKind.i64.wrap ((k:Int) - 1)=((k - 1:Nat):Int):=by rw [wrap64 (by omega) (by omega)]; omega
      have pr:jZ s.data k=some e:=by simp [jZ,he]; omega
      refine gD ?_;rw [hw];refine ev e.enc (by omega) (jY he) rfl ?_;refine gD ?_;refine ay (P0 _ _) ?_;refine gD ?_;refine gO Tryz.func220 ?_;refine ai (fun h8=>?_) (fun h8=>?_)
      ·refine gO Tryz.func220 ?_;have:decide (po e d<0)=false:=by simp at h8 ⊢; omega
       rw [aF,pr]; dsimp only; rw [this,Bool.and_false,Bool.false_and]
      ·refine gO Tryz.func220 ?_;have:decide (po e d<0)=true:=by simp at h8 ⊢; omega
       refine I.back (IH (k+1) ⟨by omega,by rw [aF,pr]; dsimp only; rw [this,h6]; rfl⟩ (by omega)) ?_;exact sZ
     ·have cH:k=0:=by simp at h7; omega
      have pr:jZ s.data k=none:=by simp [jZ,cH]
      refine gD ?_;refine gO Tryz.func220 ?_;refine aQ ?_;refine gO Tryz.func220 ?_;refine I.back (IH (k+1) ⟨by omega,by rw [aF,pr,h6]; rfl⟩ (by omega)) ?_;exact sZ
   ·have aC:s.data.length≤k:=by simpa using h5
    refine gO Tryz.func220 ?_;rw [hk.2,List.drop_of_length_le aC];rfl
end Go.Proofs.YtfmdaiojokniiaaGreatDoor.P
end
section
namespace Go.Proofs.YtfmdaiojokniiaaGreatDoor.P
open Go Go.aw
set_option maxRecDepth 100000
theorem P9 {r:ot} {t:Text} (h:lK r t=true):t.length≤60:=by
 unfold lK at h;split at h
 ·simp at h; exact eJ h.1
 ·split at h
  ·exact eJ h
  ·split at h
   ·simp [gh] at h; omega
   ·simp at h; simp [h]
theorem DH {r:ot}:∀ {p:Option Datum} {l:List Datum},kK r p l=true→∀ d∈l,jb r d=true
 |_,[],_,d,hd=>by simp at hd
 |p,e::l,h,d,hd=>by
  simp only [kK,Bool.and_eq_true] at h;rcases List.mem_cons.1 hd with rfl | hd
  ·exact h.1.1
  ·exact DH h.2 d hd
theorem xz {s:cS} (h:ez s=true):s.name.length≤60∧s.data.length≤8∧1≤s.data.length∧∀ d∈s.data,d.text.length≤60:=by
 simp only [ez,Bool.and_eq_true,decide_eq_true_eq] at h;obtain ⟨⟨⟨⟨⟨⟨h1,h2⟩,h3⟩,h4⟩,h5⟩,h6⟩,h7⟩:=h;refine ⟨eJ h1,by omega,by omega,fun d hd=>?_⟩;have:=DH h7 d hd;simp only [jb,Bool.and_eq_true] at this;exact P9 this.2
end Go.Proofs.YtfmdaiojokniiaaGreatDoor.P
end
section
namespace Go.Proofs.YtfmdaiojokniiaaGreatDoor.P
open Go Go.aw
set_option maxRecDepth 100000
def P' (k:Key):Bool:=decide (k.n≥1)&&decide (k.n≤1000000)&&decide (k.mz≥1)&&decide (k.mz≤3)
def xA (a b:Int):Bool:=decide (a≥0)&&decide (a≤b)&&decide (b≤20000000)
def Qa (s:cS) (az:Text) (k:Key) (bM upto:Int):Bool:=P' k&&xA bM upto&&Nm.valid az && !Nm.gZ az&&ez s&&Nm.iB s.name az
def Aa:cX:=⟨[],0,0,0,0,0⟩
def Ab (a b:cX):Bool:=(a.az==b.az&&(a.key==b.key&&(a.mz==b.mz&&(a.bM==b.bM&&(a.upto==b.upto&&(a.sum==b.sum&&true))))))
theorem Iy {a b:cX}:Ab a b=true↔a=b:=by
 obtain ⟨a1,a2,a3,a4,a5,a6⟩:=a;obtain ⟨b1,b2,b3,b4,b5,b6⟩:=b;simp [Ab]
end Go.Proofs.YtfmdaiojokniiaaGreatDoor.P
end
