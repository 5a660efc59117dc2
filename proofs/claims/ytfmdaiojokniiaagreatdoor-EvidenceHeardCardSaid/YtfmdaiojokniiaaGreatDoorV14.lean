/- Several texts of mine, one behind the other. Conditions: as each says. -/
import Derived.Test.YtfmdaiojokniiaaGreatDoorV13
set_option linter.unusedVariables false
set_option linter.unusedSimpArgs false
section
namespace Go.Proofs.YtfmdaiojokniiaaGreatDoor.P
open Go Go.aw
set_option maxRecDepth 100000
theorem eX {α:Type} {p:α→Bool} {l:List α} {k:Nat} {x:α} (h:l[k]? = some x) (hx:p x=false):l.all p=false:=by
 rw [Bool.eq_false_iff];intro aW;have:=List.all_eq_true.1 aW x (List.mem_of_getElem? h);rw [hx] at this;cases this
theorem fm {α:Type} {p:α→Bool} {l:List α} {k:Nat} {x:α} (hk:(l.take k).all p=true) (h:l[k]? = some x) (hx:p x=true):(l.take (k+1)).all p=true:=by
 rw [cI h,List.all_append,hk]; simp [hx]
theorem mE {α:Type} {p:α→Bool} {l:List α} {k:Nat} (hk:(l.take k).all p=true) (h:l.length≤k):l.all p=true:=by
 rwa [List.take_of_length_le h] at hk
theorem iF (x a b:Int):aq E 208 [.int .i64 x,.int .i64 a,.int .i64 b] (· = .bool (decide (a≤x)&&decide (x≤b))):=by
 refine eP Tryz.func208 ?_;repeat' (first | with_reducible refine cY ?_ | with_reducible refine cN ?_ | with_reducible refine ai (fun _=>?_) (fun _=>?_) | refine gA Tryz.func208 ?_ | refine gB ?_ | with_reducible rfl)
 all_goals simp_all
 all_goals omega
theorem Iz (t:Int):aq E 209 [.int .i64 t] (· = .bool (t==3||t==4)):=by
 refine eP Tryz.func209 ?_;repeat' (first | with_reducible refine cY ?_ | with_reducible refine cN ?_ | with_reducible refine ai (fun _=>?_) (fun _=>?_) | refine gA Tryz.func209 ?_ | refine gB ?_ | with_reducible rfl)
 all_goals simp_all
def Ac (a b:Datum):Bool:=if a.text≠b.text then Op.bytesLess a.text b.text else if a.n≠b.n then decide (a.n<b.n) else decide (a.m<b.m)
theorem Qb (a b:Datum):aq E 211 [a.enc,b.enc] (· = .bool (Ac a b)):=by
 refine eP Tryz.func211 ?_;repeat' (first | with_reducible refine cY ?_ | with_reducible refine cN ?_ | with_reducible refine ai (fun _=>?_) (fun _=>?_) | refine gA Tryz.func211 ?_ | refine gB ?_ | with_reducible rfl)
 all_goals simp_all [Ac]
theorem IA (a b:Int):aq E 297 [.int .i64 a,.int .i64 b] (· = .bool (xA a b)):=by
 refine eP Tryz.func297 ?_;repeat' (first | with_reducible refine cY ?_ | with_reducible refine cN ?_ | with_reducible refine ai (fun _=>?_) (fun _=>?_) | refine gA Tryz.func297 ?_ | refine gB ?_ | with_reducible rfl)
 all_goals simp_all [xA]
 all_goals omega
theorem jA (t:Text):aq E 274 [.str t] (· = .bool (gh t)):=by
 by_cases hb:1≤t.length∧t.length≤40
 ·obtain ⟨c0,pq⟩:=aL (l:=t) (k:=0) (by omega);obtain ⟨c1,jM⟩:=aL (l:=t) (k:=t.length - 1) (by omega);have hw:(IntKind.i64.wrap (t.length - 1))=((t.length - 1:Nat):Int):=by rw [wrap64 (by omega) (by omega)]; omega
  refine eP Tryz.func274 ?_;refine aZ (by simp; omega) ?_;refine gO Tryz.func274 ?_;refine aZ (by simp; omega) ?_;refine gO Tryz.func274 ?_;refine jt c0 (by decide) pq ?_;refine gO Tryz.func274 ?_;refine ai (fun h2=>?_) (fun h2=>?_)
  ·refine gO Tryz.func274 ?_;refine aV ?_;refine gO Tryz.func274 ?_;have e1:t.head? = some c0:=by rw [← pq]; exact List.head?_eq_getElem?
   simp only [gh,e1,Option.any_some,h2,Bool.not_true,Bool.and_false,Bool.false_and]
  ·refine gO Tryz.func274 ?_;rw [hw];refine jt c1 (by omega) (by rw [Int.toNat_natCast]; exact jM) ?_;refine gO Tryz.func274 ?_;refine ai (fun h3=>?_) (fun h3=>?_)
   ·refine gO Tryz.func274 ?_;have e2:t.getLast? = some c1:=by rw [← jM,List.getLast?_eq_getElem?]
    simp only [gh,e2,Option.any_some,h3,Bool.not_true,Bool.and_false,Bool.false_and]
   ·rw [Iq hb.1 hb.2 pq jM h2 h3];refine gO Tryz.func274 ?_;refine I.loop (κ:=Nat) ([2,4,5]++rg 26 26) (fun k=>[(4,.d (.int .i64 k))]) (fun _=>[]) (fun k=>k≤t.length∧(t.take k).all nv=true) (fun k=>t.length - k) 0 ⟨Nat.zero_le _,rfl⟩ ?_ ?_
    ·exact sZ
    ·intro k hk IH;refine I.head af Tryz.func274 2000 ?_;(conv=>whnf);refine ai (fun h4=>?_) (fun h4=>?_)
     ·simp at h4;obtain ⟨c,hc⟩:=aL h4;refine gO Tryz.func274 ?_;refine jt c (by omega) (by rw [Int.toNat_natCast]; exact hc) ?_;refine gO Tryz.func274 ?_;repeat' (first | with_reducible refine cY ?_ | with_reducible refine cN ?_ | with_reducible refine ai (fun _=>?_) (fun _=>?_) | refine gA Tryz.func274 ?_ | refine gB ?_ | with_reducible rfl)
      all_goals first
       |(rw [eX hc (by simp_all [nv] <;> omega)]; done)
       |skip
      all_goals
       refine gO Tryz.func274 ?_;refine I.back (IH (k+1) ⟨by omega,fm hk.2 hc (by simp_all [nv] <;> omega)⟩ (by omega)) ?_;exact sZ
     ·simp at h4;refine gO Tryz.func274 ?_;rw [mE hk.2 h4]
 ·have bL:gh t=false:=by
   simp only [gh,Bool.and_eq_false_iff,decide_eq_false_iff_not];omega
  rw [bL];refine eP Tryz.func274 ?_;refine ai (fun h=>?_) (fun h=>?_)
  ·refine gO Tryz.func274 ?_;refine aV ?_;refine gO Tryz.func274 ?_;refine aV ?_;refine gO Tryz.func274 ?_;refine aV ?_;refine gO Tryz.func274 ?_
   with_reducible rfl
  ·simp at h;refine gO Tryz.func274 ?_;refine bh (by simp; omega) ?_;refine gO Tryz.func274 ?_;refine aV ?_;refine gO Tryz.func274 ?_;refine aV ?_;refine gO Tryz.func274 ?_
   with_reducible rfl
theorem qM (n:Int):(n==0)=(decide (0≤n)&&decide (n≤0)):=by
 rw [Bool.eq_iff_iff];simp;omega
theorem Qc (k:Nat) (d:Datum) (hk:1≤k∧k≤8) (hd:d.text.length≤maxLen):aq E 210 [.int .i64 k,d.enc] (· = .bool (jb (eW k) d)):=by
 match k,hk with
 | 1,_ =>
  refine eP Tryz.func210 ?_;repeat' (first | with_reducible refine ao (iF _ _ _) ?_ | with_reducible refine ay (iF _ _ _) ?_ | with_reducible refine ao (ey _ hd) ?_ | with_reducible refine ay (ey _ hd) ?_ | with_reducible refine ao (iC _ hd) ?_ | with_reducible refine ay (iC _ hd) ?_ | with_reducible refine ao (jA _) ?_ | with_reducible refine ay (jA _) ?_ | with_reducible refine cY ?_ | with_reducible refine cN ?_ | with_reducible refine ai (fun _=>?_) (fun _=>?_) | refine gA Tryz.func210 ?_ | refine gB ?_ | with_reducible rfl)
  all_goals simp_all [jb,lK,eW]
  all_goals first | omega | exact qM _
 | 2,_ =>
  refine eP Tryz.func210 ?_;repeat' (first | with_reducible refine ao (iF _ _ _) ?_ | with_reducible refine ay (iF _ _ _) ?_ | with_reducible refine ao (ey _ hd) ?_ | with_reducible refine ay (ey _ hd) ?_ | with_reducible refine ao (iC _ hd) ?_ | with_reducible refine ay (iC _ hd) ?_ | with_reducible refine ao (jA _) ?_ | with_reducible refine ay (jA _) ?_ | with_reducible refine cY ?_ | with_reducible refine cN ?_ | with_reducible refine ai (fun _=>?_) (fun _=>?_) | refine gA Tryz.func210 ?_ | refine gB ?_ | with_reducible rfl)
  all_goals simp_all [jb,lK,eW]
  all_goals first | omega | exact qM _
 | 3,_ =>
  refine eP Tryz.func210 ?_;repeat' (first | with_reducible refine ao (iF _ _ _) ?_ | with_reducible refine ay (iF _ _ _) ?_ | with_reducible refine ao (ey _ hd) ?_ | with_reducible refine ay (ey _ hd) ?_ | with_reducible refine ao (iC _ hd) ?_ | with_reducible refine ay (iC _ hd) ?_ | with_reducible refine ao (jA _) ?_ | with_reducible refine ay (jA _) ?_ | with_reducible refine cY ?_ | with_reducible refine cN ?_ | with_reducible refine ai (fun _=>?_) (fun _=>?_) | refine gA Tryz.func210 ?_ | refine gB ?_ | with_reducible rfl)
  all_goals simp_all [jb,lK,eW]
  all_goals first | omega | exact qM _
 | 4,_ =>
  refine eP Tryz.func210 ?_;repeat' (first | with_reducible refine ao (iF _ _ _) ?_ | with_reducible refine ay (iF _ _ _) ?_ | with_reducible refine ao (ey _ hd) ?_ | with_reducible refine ay (ey _ hd) ?_ | with_reducible refine ao (iC _ hd) ?_ | with_reducible refine ay (iC _ hd) ?_ | with_reducible refine ao (jA _) ?_ | with_reducible refine ay (jA _) ?_ | with_reducible refine cY ?_ | with_reducible refine cN ?_ | with_reducible refine ai (fun _=>?_) (fun _=>?_) | refine gA Tryz.func210 ?_ | refine gB ?_ | with_reducible rfl)
  all_goals simp_all [jb,lK,eW]
  all_goals first | omega | exact qM _
 | 5,_ =>
  refine eP Tryz.func210 ?_;repeat' (first | with_reducible refine ao (iF _ _ _) ?_ | with_reducible refine ay (iF _ _ _) ?_ | with_reducible refine ao (ey _ hd) ?_ | with_reducible refine ay (ey _ hd) ?_ | with_reducible refine ao (iC _ hd) ?_ | with_reducible refine ay (iC _ hd) ?_ | with_reducible refine ao (jA _) ?_ | with_reducible refine ay (jA _) ?_ | with_reducible refine cY ?_ | with_reducible refine cN ?_ | with_reducible refine ai (fun _=>?_) (fun _=>?_) | refine gA Tryz.func210 ?_ | refine gB ?_ | with_reducible rfl)
  all_goals simp_all [jb,lK,eW]
  all_goals first | omega | exact qM _
 | 6,_ =>
  refine eP Tryz.func210 ?_;repeat' (first | with_reducible refine ao (iF _ _ _) ?_ | with_reducible refine ay (iF _ _ _) ?_ | with_reducible refine ao (ey _ hd) ?_ | with_reducible refine ay (ey _ hd) ?_ | with_reducible refine ao (iC _ hd) ?_ | with_reducible refine ay (iC _ hd) ?_ | with_reducible refine ao (jA _) ?_ | with_reducible refine ay (jA _) ?_ | with_reducible refine cY ?_ | with_reducible refine cN ?_ | with_reducible refine ai (fun _=>?_) (fun _=>?_) | refine gA Tryz.func210 ?_ | refine gB ?_ | with_reducible rfl)
  all_goals simp_all [jb,lK,eW]
  all_goals first | omega | exact qM _
 | 7,_ =>
  refine eP Tryz.func210 ?_;repeat' (first | with_reducible refine ao (iF _ _ _) ?_ | with_reducible refine ay (iF _ _ _) ?_ | with_reducible refine ao (ey _ hd) ?_ | with_reducible refine ay (ey _ hd) ?_ | with_reducible refine ao (iC _ hd) ?_ | with_reducible refine ay (iC _ hd) ?_ | with_reducible refine ao (jA _) ?_ | with_reducible refine ay (jA _) ?_ | with_reducible refine cY ?_ | with_reducible refine cN ?_ | with_reducible refine ai (fun _=>?_) (fun _=>?_) | refine gA Tryz.func210 ?_ | refine gB ?_ | with_reducible rfl)
  all_goals simp_all [jb,lK,eW]
  all_goals first | omega | exact qM _
 | 8,_ =>
  refine eP Tryz.func210 ?_;repeat' (first | with_reducible refine ao (iF _ _ _) ?_ | with_reducible refine ay (iF _ _ _) ?_ | with_reducible refine ao (ey _ hd) ?_ | with_reducible refine ay (ey _ hd) ?_ | with_reducible refine ao (iC _ hd) ?_ | with_reducible refine ay (iC _ hd) ?_ | with_reducible refine ao (jA _) ?_ | with_reducible refine ay (jA _) ?_ | with_reducible refine cY ?_ | with_reducible refine cN ?_ | with_reducible refine ai (fun _=>?_) (fun _=>?_) | refine gA Tryz.func210 ?_ | refine gB ?_ | with_reducible rfl)
  all_goals simp_all [jb,lK,eW]
  all_goals first | omega | exact qM _
theorem ka:∀ (a:Text),Op.bytesLess a a=false
 | []=>rfl
 |c::a=>by simp [Op.bytesLess,ka a]
theorem Qd (a b:Datum):Ac a b=decide (po a b<0):=by
 unfold Ac po;by_cases h1:a.text=b.text
 ·simp only [h1,ne_eq,not_true_eq_false,if_false,uL,ka,Bool.false_eq_true,pn,if_true,iE];by_cases h2:a.n=b.n
  ·simp only [h2,not_true_eq_false,if_false,Int.lt_irrefl,if_true];rw [Bool.eq_iff_iff];simp only [decide_eq_true_eq];repeat' split
   all_goals omega
  ·simp only [h2,not_false_eq_true,if_true];rw [Bool.eq_iff_iff];simp only [decide_eq_true_eq];repeat' split
   all_goals omega
 ·simp only [h1,ne_eq,not_false_eq_true,if_true,uL,pn];cases h:Op.bytesLess a.text b.text
  ·simp [h1]
  ·simp
theorem Qe {k:Nat} (h:1≤k∧k≤8):(eW k).single=((k:Int)==3||(k:Int)==4):=by
 match k,h with
 | 1,_=>rfl
 | 2,_=>rfl
 | 3,_=>rfl
 | 4,_=>rfl
 | 5,_=>rfl
 | 6,_=>rfl
 | 7,_=>rfl
 | 8,_=>rfl
theorem Qf {k:Nat} (h:1≤k∧k≤8):(!(eW k).gZ)=((k:Int) != 1&&(k:Int) != 5&&(k:Int) != 8):=by
 match k,h with
 | 1,_=>rfl
 | 2,_=>rfl
 | 3,_=>rfl
 | 4,_=>rfl
 | 5,_=>rfl
 | 6,_=>rfl
 | 7,_=>rfl
 | 8,_=>rfl
end Go.Proofs.YtfmdaiojokniiaaGreatDoor.P
end
section
namespace Go.Proofs.YtfmdaiojokniiaaGreatDoor.P
open Go Go.aw
set_option maxRecDepth 100000
set_option maxHeartbeats 4000000
theorem Qg (s:cS):ez s=(Nm.valid s.name&&(decide (1≤s.type)&&decide (s.type≤8))&&(decide (0≤s.cD)&&decide (s.cD≤100000))&&(decide (1≤(s.data.length:Int))&&decide ((s.data.length:Int)≤8)) &&
  !((s.type==3||s.type==4)&&decide ((s.data.length:Int)>1)) && !(Nm.gZ s.name&&(s.type != 1&&s.type != 5&&s.type != 8))&&kK (eW s.type.toNat) none s.data):=by
 by_cases ht:1≤s.type∧s.type≤8
 ·by_cases hn:1≤(s.data.length:Int)
  ·obtain ⟨t,me⟩:=Int.eq_ofNat_of_zero_le (a:=s.type) (by omega);have h8:1≤t∧t≤8:=by omega
   have e1:=Qe h8;have e2:=Qf h8;have e3:((s.data.length:Int) != 1)=decide ((s.data.length:Int)>1):=by
    rw [Bool.eq_iff_iff]; simp; omega
   simp only [ez,me,Int.toNat_natCast,e1,e2,e3]
  ·simp [ez,hn]
 ·simp only [ez];have:(decide (1≤s.type)&&decide (s.type≤8))=false:=by
   rw [Bool.and_eq_false_iff]; simp; omega
  simp only [this,Bool.and_false,Bool.false_and]
theorem Qh (k:Int) (d:Datum) (hk:1≤k∧k≤8) (hd:d.text.length≤maxLen):aq E 210 [.int .i64 k,d.enc] (· = .bool (jb (eW k.toNat) d)):=by
 obtain ⟨t,rfl⟩:=Int.eq_ofNat_of_zero_le (a:=k) (by omega);rw [Int.toNat_natCast];exact Qc t d (by omega) hd
theorem xB (s:cS) (hf:s.Fits):aq E 140 [s.enc] (· = .bool (ez s)):=by
 rw [Qg];refine eP Tryz.func140 ?_;repeat' (first | with_reducible refine ao (ey _ hf.name) ?_ | with_reducible refine ay (ey _ hf.name) ?_ | with_reducible refine ao (iF _ _ _) ?_ | with_reducible refine ay (iF _ _ _) ?_ | with_reducible refine ao (Iz _) ?_ | with_reducible refine ay (Iz _) ?_ | with_reducible refine ao (iC _ hf.name) ?_ | with_reducible refine ay (iC _ hf.name) ?_ | with_reducible refine cY ?_ | with_reducible refine cN ?_ | with_reducible refine ai (fun _=>?_) (fun _=>?_) | refine gA Tryz.func140 ?_ | refine gB ?_ | with_reducible rfl)
 all_goals try simp only [List.length_map] at *
 all_goals try (simp only [Bool.not_eq_true',Bool.not_eq_false'] at *; simp only [*,Bool.false_and,Bool.and_false,Bool.true_and,Bool.not_true,Bool.not_false,Bool.and_true,Bool.and_self]; done)
 all_goals
  have iM:∀ {a b c d e f:Bool},(!a)=false→(!b)=false→(!c)=false→(!d)=false→e=false→f=false→∀ g:Bool,(a&&b&&c&&d && !e && !f&&g)=g:=fun h1 h2 h3 h4 h5 h6 g=>by
   simp_all
  have IB:1≤s.type∧s.type≤8:=by simp_all
  have hl:s.data.length≤8:=by simp_all <;> omega
  rw [iM (by assumption) (by assumption) (by assumption) (by assumption) (by simp_all <;> omega) (by simp_all) _];clear iM;refine gO Tryz.func140 ?_;refine I.loop (κ:=Nat) ([2,4]++rg 56 33) (fun k=>[(4,.d (.int .i64 k))]) (fun _=>[]) (fun k=>k≤s.data.length∧kK (eW s.type.toNat) none s.data=kK (eW s.type.toNat) (jZ s.data k) (s.data.drop k)) (fun k=>s.data.length - k) 0 ⟨Nat.zero_le _,rfl⟩ ?_ ?_
  ·exact sZ
  ·intro k hk IH;refine I.head af Tryz.func140 2000 ?_;(conv=>whnf);refine ai (fun h5=>?_) (fun h5=>?_)
   ·have aj:k<s.data.length:=by simpa using h5
    obtain ⟨d,hd⟩:=aL aj;have aF:=Iw (r:=eW s.type.toNat) hd;rw [← hk.2] at aF;refine gO Tryz.func140 ?_;refine I.bH af bI 2000 (by kernel_rfl) ?_;(conv=>whnf);refine ev d.enc (by omega) (jY hd) rfl ?_;refine gD ?_;refine ay (Qh _ d IB (hf.texts d (List.mem_of_getElem? hd))) ?_;refine gD ?_;refine ai (fun h6=>?_) (fun h6=>?_)
    ·refine gD ?_;refine gO Tryz.func140 ?_;refine aV ?_;refine gO Tryz.func140 ?_;rw [Bool.not_eq_true'] at h6;rw [aF,h6,Bool.false_and,Bool.false_and]
    ·rw [Bool.not_eq_false'] at h6;refine gD ?_;refine ai (fun h7=>?_) (fun h7=>?_)
     ·have cH:0<k:=by simpa using h7
      obtain ⟨e,he⟩:=aL (l:=s.data) (k:=k - 1) (by omega);have hw:IntKind.i64.wrap ((k:Int) - 1)=((k - 1:Nat):Int):=by rw [wrap64 (by omega) (by omega)]; omega
      have pr:jZ s.data k=some e:=by simp [jZ,he]; omega
      refine gD ?_;rw [hw];refine ev e.enc (by omega) (jY he) rfl ?_;refine gD ?_;refine ev d.enc (by omega) (jY hd) rfl ?_;refine gD ?_;refine ay (Qb _ _) ?_;refine gD ?_;rw [Qd];refine gO Tryz.func140 ?_;refine ai (fun h8=>?_) (fun h8=>?_)
      ·refine gO Tryz.func140 ?_;have:decide (po e d<0)=false:=by simpa using h8
       rw [aF,pr]; dsimp only; rw [this,Bool.and_false,Bool.false_and]
      ·refine gO Tryz.func140 ?_;have:decide (po e d<0)=true:=by simpa using h8
       refine I.back (IH (k+1) ⟨by omega,by rw [aF,pr]; dsimp only; rw [this,h6]; rfl⟩ (by omega)) ?_;exact sZ
     ·have cH:k=0:=by simp at h7; omega
      have pr:jZ s.data k=none:=by simp [jZ,cH]
      refine gD ?_;refine gO Tryz.func140 ?_;refine aQ ?_;refine gO Tryz.func140 ?_;refine I.back (IH (k+1) ⟨by omega,by rw [aF,pr,h6]; rfl⟩ (by omega)) ?_;exact sZ
   ·have aC:s.data.length≤k:=by simpa using h5
    refine gO Tryz.func140 ?_;rw [hk.2,List.drop_of_length_le aC];rfl
end Go.Proofs.YtfmdaiojokniiaaGreatDoor.P
end
section
namespace Go.Proofs.YtfmdaiojokniiaaGreatDoor.P
open Go Go.aw
set_option maxRecDepth 100000
set_option maxHeartbeats 4000000
def Qi:cS:=⟨[97,46,120],1,5,[⟨[],7,0⟩]⟩
def Qj:Key:=⟨3,1⟩
theorem pt:Qa Qi [120] Qj 10 20=true:=by decide +kernel
end Go.Proofs.YtfmdaiojokniiaaGreatDoor.P
end
