/- Several texts of mine, one behind the other. Conditions: as each says. -/
import Derived.Test.YtcmnpelmmekdkaaGreatDoorY5
set_option linter.unusedVariables false
set_option linter.unusedSimpArgs false
section
namespace Go.Proofs.YtcmnpelmmekdkaaGreatDoor.P
open Go Go.ax
set_option maxRecDepth 100000
theorem iI {α:Type} {p:α→Bool} {l:List α} {k:Nat} {x:α} (h:l[k]? = some x) (hx:p x=false):l.all p=false:=by
 rw [Bool.eq_false_iff];intro aT;have:=List.all_eq_true.1 aT x (List.mem_of_getElem? h);rw [hx] at this;cases this
theorem jx {α:Type} {p:α→Bool} {l:List α} {k:Nat} {x:α} (hk:(l.take k).all p=true) (h:l[k]? = some x) (hx:p x=true):(l.take (k+1)).all p=true:=by
 rw [eI h,List.all_append,hk]; simp [hx]
theorem nI {α:Type} {p:α→Bool} {l:List α} {k:Nat} (hk:(l.take k).all p=true) (h:l.length≤k):l.all p=true:=by
 rwa [List.take_of_length_le h] at hk
theorem jy (x a b:Int):aA E 184 [.int .i64 x,.int .i64 a,.int .i64 b] (· = .bool (decide (a≤x)&&decide (x≤b))):=by
 refine eP Tryz.func184 ?_;repeat' (first | with_reducible refine cY ?_ | with_reducible refine cN ?_ | with_reducible refine aw (fun _=>?_) (fun _=>?_) | refine gA Tryz.func184 ?_ | refine gB ?_ | refine gC ?_ | with_reducible rfl)
 all_goals simp_all
 all_goals omega
theorem MF (t:Int):aA E 185 [.int .i64 t] (· = .bool (t==3||t==4)):=by
 refine eP Tryz.func185 ?_;repeat' (first | with_reducible refine cY ?_ | with_reducible refine cN ?_ | with_reducible refine aw (fun _=>?_) (fun _=>?_) | refine gA Tryz.func185 ?_ | refine gB ?_ | refine gC ?_ | with_reducible rfl)
 all_goals simp_all
def CG (a b:Datum):Bool:=if a.text≠b.text then Op.bytesLess a.text b.text else if a.n≠b.n then decide (a.n<b.n) else decide (a.m<b.m)
theorem Vm (a b:Datum):aA E 188 [a.enc,b.enc] (· = .bool (CG a b)):=by
 refine eP Tryz.func188 ?_;repeat' (first | with_reducible refine cY ?_ | with_reducible refine cN ?_ | with_reducible refine aw (fun _=>?_) (fun _=>?_) | refine gA Tryz.func188 ?_ | refine gB ?_ | refine gC ?_ | with_reducible rfl)
 all_goals simp_all [CG]
theorem kB (t:Text):aA E 226 [.str t] (· = .bool (eH t)):=by
 by_cases hb:1≤t.length∧t.length≤40
 ·obtain ⟨c0,qY⟩:=aY (l:=t) (k:=0) (by omega);obtain ⟨c1,jI⟩:=aY (l:=t) (k:=t.length - 1) (by omega);have hw:(IntKind.i64.wrap (t.length - 1))=((t.length - 1:Nat):Int):=by rw [wrap64 (by omega) (by omega)]; omega
  refine eP Tryz.func226 ?_;refine aI (by simp; omega) ?_;refine gO Tryz.func226 ?_;refine aI (by simp; omega) ?_;refine gO Tryz.func226 ?_;refine tQ c0 (by decide) qY ?_;refine gO Tryz.func226 ?_;refine aw (fun h2=>?_) (fun h2=>?_)
  ·refine gO Tryz.func226 ?_;refine bq ?_;refine gO Tryz.func226 ?_;have e1:t.head? = some c0:=by rw [← qY]; exact List.head?_eq_getElem?
   simp only [eH,e1,Option.any_some,h2,Bool.not_true,Bool.and_false,Bool.false_and]
  ·refine gO Tryz.func226 ?_;rw [hw];refine tQ c1 (by omega) (by rw [Int.toNat_natCast]; exact jI) ?_;refine gO Tryz.func226 ?_;refine aw (fun h3=>?_) (fun h3=>?_)
   ·refine gO Tryz.func226 ?_;have e2:t.getLast? = some c1:=by rw [← jI,List.getLast?_eq_getElem?]
    simp only [eH,e2,Option.any_some,h3,Bool.not_true,Bool.and_false,Bool.false_and]
   ·rw [Mi hb.1 hb.2 qY jI h2 h3];refine gO Tryz.func226 ?_;refine aa.loop (κ:=Nat) ([2,4,5]++rg 26 26) (fun k=>[(4,.d (.int .i64 k))]) (fun _=>[]) (fun k=>k≤t.length∧(t.take k).all oF=true) (fun k=>t.length - k) 0 ⟨Nat.zero_le _,rfl⟩ ?_ ?_
    ·exact sZ
    ·intro k hk IH;refine aa.head aj Tryz.func226 2000 ?_;(conv=>whnf);refine aw (fun h4=>?_) (fun h4=>?_)
     ·simp at h4;obtain ⟨c,hc⟩:=aY h4;refine gO Tryz.func226 ?_;refine tQ c (by omega) (by rw [Int.toNat_natCast]; exact hc) ?_;refine gO Tryz.func226 ?_;repeat' (first | with_reducible refine cY ?_ | with_reducible refine cN ?_ | with_reducible refine aw (fun _=>?_) (fun _=>?_) | refine gA Tryz.func226 ?_ | refine gB ?_ | refine gC ?_ | with_reducible rfl)
      all_goals first
       |(rw [iI hc (by simp_all [oF] <;> omega)]; done)
       |skip
      all_goals
       refine gO Tryz.func226 ?_;refine aa.back (IH (k+1) ⟨by omega,jx hk.2 hc (by simp_all [oF] <;> omega)⟩ (by omega)) ?_;exact sZ
     ·simp at h4;refine gO Tryz.func226 ?_;rw [nI hk.2 h4]
 ·have dQ:eH t=false:=by
   simp only [eH,Bool.and_eq_false_iff,decide_eq_false_iff_not];omega
  rw [dQ];refine eP Tryz.func226 ?_;refine aw (fun h=>?_) (fun h=>?_)
  ·refine gO Tryz.func226 ?_;refine bq ?_;refine gO Tryz.func226 ?_;refine bq ?_;refine gO Tryz.func226 ?_;refine bq ?_;refine gO Tryz.func226 ?_
   with_reducible rfl
  ·simp at h;refine gO Tryz.func226 ?_;refine aM (by simp; omega) ?_;refine gO Tryz.func226 ?_;refine bq ?_;refine gO Tryz.func226 ?_;refine bq ?_;refine gO Tryz.func226 ?_
   with_reducible rfl
theorem sL (n:Int):(n==0)=(decide (0≤n)&&decide (n≤0)):=by
 rw [Bool.eq_iff_iff];simp;omega
theorem Vn (k:Nat) (d:Datum) (hk:1≤k∧k≤8) (hd:d.text.length≤maxLen):aA E 187 [.int .i64 k,d.enc] (· = .bool (jv (fA k) d)):=by
 match k,hk with
 | 1,_ =>
  refine eP Tryz.func187 ?_;repeat' (first | with_reducible refine ar (jy _ _ _) ?_ | with_reducible refine bg (jy _ _ _) ?_ | with_reducible refine ar (fY _ hd) ?_ | with_reducible refine bg (fY _ hd) ?_ | with_reducible refine ar (ju _ hd) ?_ | with_reducible refine bg (ju _ hd) ?_ | with_reducible refine ar (kB _) ?_ | with_reducible refine bg (kB _) ?_ | with_reducible refine cY ?_ | with_reducible refine cN ?_ | with_reducible refine aw (fun _=>?_) (fun _=>?_) | refine gA Tryz.func187 ?_ | refine gB ?_ | refine gC ?_ | with_reducible rfl)
  all_goals simp_all [jv,lZ,fA]
  all_goals first | omega | exact sL _
 | 2,_ =>
  refine eP Tryz.func187 ?_;repeat' (first | with_reducible refine ar (jy _ _ _) ?_ | with_reducible refine bg (jy _ _ _) ?_ | with_reducible refine ar (fY _ hd) ?_ | with_reducible refine bg (fY _ hd) ?_ | with_reducible refine ar (ju _ hd) ?_ | with_reducible refine bg (ju _ hd) ?_ | with_reducible refine ar (kB _) ?_ | with_reducible refine bg (kB _) ?_ | with_reducible refine cY ?_ | with_reducible refine cN ?_ | with_reducible refine aw (fun _=>?_) (fun _=>?_) | refine gA Tryz.func187 ?_ | refine gB ?_ | refine gC ?_ | with_reducible rfl)
  all_goals simp_all [jv,lZ,fA]
  all_goals first | omega | exact sL _
 | 3,_ =>
  refine eP Tryz.func187 ?_;repeat' (first | with_reducible refine ar (jy _ _ _) ?_ | with_reducible refine bg (jy _ _ _) ?_ | with_reducible refine ar (fY _ hd) ?_ | with_reducible refine bg (fY _ hd) ?_ | with_reducible refine ar (ju _ hd) ?_ | with_reducible refine bg (ju _ hd) ?_ | with_reducible refine ar (kB _) ?_ | with_reducible refine bg (kB _) ?_ | with_reducible refine cY ?_ | with_reducible refine cN ?_ | with_reducible refine aw (fun _=>?_) (fun _=>?_) | refine gA Tryz.func187 ?_ | refine gB ?_ | refine gC ?_ | with_reducible rfl)
  all_goals simp_all [jv,lZ,fA]
  all_goals first | omega | exact sL _
 | 4,_ =>
  refine eP Tryz.func187 ?_;repeat' (first | with_reducible refine ar (jy _ _ _) ?_ | with_reducible refine bg (jy _ _ _) ?_ | with_reducible refine ar (fY _ hd) ?_ | with_reducible refine bg (fY _ hd) ?_ | with_reducible refine ar (ju _ hd) ?_ | with_reducible refine bg (ju _ hd) ?_ | with_reducible refine ar (kB _) ?_ | with_reducible refine bg (kB _) ?_ | with_reducible refine cY ?_ | with_reducible refine cN ?_ | with_reducible refine aw (fun _=>?_) (fun _=>?_) | refine gA Tryz.func187 ?_ | refine gB ?_ | refine gC ?_ | with_reducible rfl)
  all_goals simp_all [jv,lZ,fA]
  all_goals first | omega | exact sL _
 | 5,_ =>
  refine eP Tryz.func187 ?_;repeat' (first | with_reducible refine ar (jy _ _ _) ?_ | with_reducible refine bg (jy _ _ _) ?_ | with_reducible refine ar (fY _ hd) ?_ | with_reducible refine bg (fY _ hd) ?_ | with_reducible refine ar (ju _ hd) ?_ | with_reducible refine bg (ju _ hd) ?_ | with_reducible refine ar (kB _) ?_ | with_reducible refine bg (kB _) ?_ | with_reducible refine cY ?_ | with_reducible refine cN ?_ | with_reducible refine aw (fun _=>?_) (fun _=>?_) | refine gA Tryz.func187 ?_ | refine gB ?_ | refine gC ?_ | with_reducible rfl)
  all_goals simp_all [jv,lZ,fA]
  all_goals first | omega | exact sL _
 | 6,_ =>
  refine eP Tryz.func187 ?_;repeat' (first | with_reducible refine ar (jy _ _ _) ?_ | with_reducible refine bg (jy _ _ _) ?_ | with_reducible refine ar (fY _ hd) ?_ | with_reducible refine bg (fY _ hd) ?_ | with_reducible refine ar (ju _ hd) ?_ | with_reducible refine bg (ju _ hd) ?_ | with_reducible refine ar (kB _) ?_ | with_reducible refine bg (kB _) ?_ | with_reducible refine cY ?_ | with_reducible refine cN ?_ | with_reducible refine aw (fun _=>?_) (fun _=>?_) | refine gA Tryz.func187 ?_ | refine gB ?_ | refine gC ?_ | with_reducible rfl)
  all_goals simp_all [jv,lZ,fA]
  all_goals first | omega | exact sL _
 | 7,_ =>
  refine eP Tryz.func187 ?_;repeat' (first | with_reducible refine ar (jy _ _ _) ?_ | with_reducible refine bg (jy _ _ _) ?_ | with_reducible refine ar (fY _ hd) ?_ | with_reducible refine bg (fY _ hd) ?_ | with_reducible refine ar (ju _ hd) ?_ | with_reducible refine bg (ju _ hd) ?_ | with_reducible refine ar (kB _) ?_ | with_reducible refine bg (kB _) ?_ | with_reducible refine cY ?_ | with_reducible refine cN ?_ | with_reducible refine aw (fun _=>?_) (fun _=>?_) | refine gA Tryz.func187 ?_ | refine gB ?_ | refine gC ?_ | with_reducible rfl)
  all_goals simp_all [jv,lZ,fA]
  all_goals first | omega | exact sL _
 | 8,_ =>
  refine eP Tryz.func187 ?_;repeat' (first | with_reducible refine ar (jy _ _ _) ?_ | with_reducible refine bg (jy _ _ _) ?_ | with_reducible refine ar (fY _ hd) ?_ | with_reducible refine bg (fY _ hd) ?_ | with_reducible refine ar (ju _ hd) ?_ | with_reducible refine bg (ju _ hd) ?_ | with_reducible refine ar (kB _) ?_ | with_reducible refine bg (kB _) ?_ | with_reducible refine cY ?_ | with_reducible refine cN ?_ | with_reducible refine aw (fun _=>?_) (fun _=>?_) | refine gA Tryz.func187 ?_ | refine gB ?_ | refine gC ?_ | with_reducible rfl)
  all_goals simp_all [jv,lZ,fA]
  all_goals first | omega | exact sL _
theorem l7:∀ (a:Text),Op.bytesLess a a=false
 | []=>rfl
 |c::a=>by simp [Op.bytesLess,l7 a]
theorem Vo (a b:Datum):CG a b=decide (qX a b<0):=by
 unfold CG qX;by_cases h1:a.text=b.text
 ·simp only [h1,ne_eq,not_true_eq_false,if_false,wY,l7,Bool.false_eq_true,oE,if_true,fZ];by_cases h2:a.n=b.n
  ·simp only [h2,not_true_eq_false,if_false,Int.lt_irrefl,if_true];rw [Bool.eq_iff_iff];simp only [decide_eq_true_eq];repeat' split
   all_goals omega
  ·simp only [h2,not_false_eq_true,if_true];rw [Bool.eq_iff_iff];simp only [decide_eq_true_eq];repeat' split
   all_goals omega
 ·simp only [h1,ne_eq,not_false_eq_true,if_true,wY,oE];cases h:Op.bytesLess a.text b.text
  ·simp [h1]
  ·simp
theorem Vp {k:Nat} (h:1≤k∧k≤8):(fA k).single=((k:Int)==3||(k:Int)==4):=by
 match k,h with
 | 1,_=>rfl
 | 2,_=>rfl
 | 3,_=>rfl
 | 4,_=>rfl
 | 5,_=>rfl
 | 6,_=>rfl
 | 7,_=>rfl
 | 8,_=>rfl
theorem Vq {k:Nat} (h:1≤k∧k≤8):(!(fA k).gJ)=((k:Int) != 1&&(k:Int) != 5&&(k:Int) != 8):=by
 match k,h with
 | 1,_=>rfl
 | 2,_=>rfl
 | 3,_=>rfl
 | 4,_=>rfl
 | 5,_=>rfl
 | 6,_=>rfl
 | 7,_=>rfl
 | 8,_=>rfl
end Go.Proofs.YtcmnpelmmekdkaaGreatDoor.P
end
section
namespace Go.Proofs.YtcmnpelmmekdkaaGreatDoor.P
open Go Go.ax
set_option maxRecDepth 100000
set_option maxHeartbeats 4000000
theorem Vr (s:eu):fc s=(Nm.valid s.name&&(decide (1≤s.type)&&decide (s.type≤8))&&(decide (0≤s.gy)&&decide (s.gy≤100000))&&(decide (1≤(s.data.length:Int))&&decide ((s.data.length:Int)≤8)) &&
  !((s.type==3||s.type==4)&&decide ((s.data.length:Int)>1)) && !(Nm.gJ s.name&&(s.type != 1&&s.type != 5&&s.type != 8))&&l4 (fA s.type.toNat) none s.data):=by
 by_cases ht:1≤s.type∧s.type≤8
 ·by_cases hn:1≤(s.data.length:Int)
  ·obtain ⟨t,qk⟩:=Int.eq_ofNat_of_zero_le (a:=s.type) (by omega);have h8:1≤t∧t≤8:=by omega
   have e1:=Vp h8;have e2:=Vq h8;have e3:((s.data.length:Int) != 1)=decide ((s.data.length:Int)>1):=by
    rw [Bool.eq_iff_iff]; simp; omega
   simp only [fc,qk,Int.toNat_natCast,e1,e2,e3]
  ·simp [fc,hn]
 ·simp only [fc];have:(decide (1≤s.type)&&decide (s.type≤8))=false:=by
   rw [Bool.and_eq_false_iff]; simp; omega
  simp only [this,Bool.and_false,Bool.false_and]
theorem Vs (k:Int) (d:Datum) (hk:1≤k∧k≤8) (hd:d.text.length≤maxLen):aA E 187 [.int .i64 k,d.enc] (· = .bool (jv (fA k.toNat) d)):=by
 obtain ⟨t,rfl⟩:=Int.eq_ofNat_of_zero_le (a:=k) (by omega);rw [Int.toNat_natCast];exact Vn t d (by omega) hd
theorem CH (s:eu) (hf:s.Fits):aA E 119 [s.enc] (· = .bool (fc s)):=by
 rw [Vr];refine eP Tryz.func119 ?_;repeat' (first | with_reducible refine ar (fY _ hf.name) ?_ | with_reducible refine bg (fY _ hf.name) ?_ | with_reducible refine ar (jy _ _ _) ?_ | with_reducible refine bg (jy _ _ _) ?_ | with_reducible refine ar (MF _) ?_ | with_reducible refine bg (MF _) ?_ | with_reducible refine ar (ju _ hf.name) ?_ | with_reducible refine bg (ju _ hf.name) ?_ | with_reducible refine cY ?_ | with_reducible refine cN ?_ | with_reducible refine aw (fun _=>?_) (fun _=>?_) | refine gA Tryz.func119 ?_ | refine gB ?_ | refine gC ?_ | with_reducible rfl)
 all_goals try simp only [List.length_map] at *
 all_goals try (simp only [Bool.not_eq_true',Bool.not_eq_false'] at *; simp only [*,Bool.false_and,Bool.and_false,Bool.true_and,Bool.not_true,Bool.not_false,Bool.and_true,Bool.and_self]; done)
 all_goals
  have fy:∀ {a b c d e f:Bool},(!a)=false→(!b)=false→(!c)=false→(!d)=false→e=false→f=false→∀ g:Bool,(a&&b&&c&&d && !e && !f&&g)=g:=fun h1 h2 h3 h4 h5 h6 g=>by
   simp_all
  have MG:1≤s.type∧s.type≤8:=by simp_all
  have hl:s.data.length≤8:=by simp_all <;> omega
  rw [fy (by assumption) (by assumption) (by assumption) (by assumption) (by simp_all <;> omega) (by simp_all) _];clear fy;refine gO Tryz.func119 ?_;refine aa.loop (κ:=Nat) ([2,4]++rg 56 33) (fun k=>[(4,.d (.int .i64 k))]) (fun _=>[]) (fun k=>k≤s.data.length∧l4 (fA s.type.toNat) none s.data=l4 (fA s.type.toNat) (lp s.data k) (s.data.drop k)) (fun k=>s.data.length - k) 0 ⟨Nat.zero_le _,rfl⟩ ?_ ?_
  ·exact sZ
  ·intro k hk IH;refine aa.head aj Tryz.func119 2000 ?_;(conv=>whnf);refine aw (fun h5=>?_) (fun h5=>?_)
   ·have ai:k<s.data.length:=by simpa using h5
    obtain ⟨d,hd⟩:=aY ai;have aX:=Mo (r:=fA s.type.toNat) hd;rw [← hk.2] at aX;refine gO Tryz.func119 ?_;refine aa.draw aj bW 28 2000 (by kernel_rfl) ?_;(conv=>whnf);refine ee d.enc (by omega) (ln hd) rfl ?_;refine gD ?_
    with_reducible refine bg (Vs _ d MG (hf.texts d (List.mem_of_getElem? hd))) ?_
    refine gD ?_;refine aw (fun h6=>?_) (fun h6=>?_)
    ·refine gD ?_;refine gS ?_;refine gO Tryz.func119 ?_;refine bq ?_;refine gO Tryz.func119 ?_;rw [Bool.not_eq_true'] at h6;rw [aX,h6,Bool.false_and,Bool.false_and]
    ·rw [Bool.not_eq_false'] at h6;refine gD ?_;refine aw (fun h7=>?_) (fun h7=>?_)
     ·have df:0<k:=by simpa using h7
      obtain ⟨e,he⟩:=aY (l:=s.data) (k:=k - 1) (by omega);have hw:IntKind.i64.wrap ((k:Int) - 1)=((k - 1:Nat):Int):=by rw [wrap64 (by omega) (by omega)]; omega
      have qZ:lp s.data k=some e:=by simp [lp,he]; omega
      refine gD ?_;rw [hw];refine ee e.enc (by omega) (ln he) rfl ?_;refine gD ?_;refine ee d.enc (by omega) (ln hd) rfl ?_;refine gD ?_
      with_reducible refine bg (Vm _ _) ?_
      refine gD ?_;rw [Vo];refine gS ?_;refine gO Tryz.func119 ?_;refine aw (fun h8=>?_) (fun h8=>?_)
      ·refine gO Tryz.func119 ?_;have:decide (qX e d<0)=false:=by simpa using h8
       rw [aX,qZ]; dsimp only; rw [this,Bool.and_false,Bool.false_and]
      ·refine gO Tryz.func119 ?_;have:decide (qX e d<0)=true:=by simpa using h8
       refine aa.back (IH (k+1) ⟨by omega,by rw [aX,qZ]; dsimp only; rw [this,h6]; rfl⟩ (by omega)) ?_;exact sZ
     ·have df:k=0:=by simp at h7; omega
      have qZ:lp s.data k=none:=by simp [lp,df]
      refine gD ?_;refine gS ?_;refine gO Tryz.func119 ?_;refine ba ?_;refine gO Tryz.func119 ?_;refine aa.back (IH (k+1) ⟨by omega,by rw [aX,qZ,h6]; rfl⟩ (by omega)) ?_;exact sZ
   ·have aP:s.data.length≤k:=by simpa using h5
    refine gO Tryz.func119 ?_;rw [hk.2,List.drop_of_length_le aP];rfl
end Go.Proofs.YtcmnpelmmekdkaaGreatDoor.P
end
section
namespace Go.Proofs.YtcmnpelmmekdkaaGreatDoor.P
open Go Go.ax
set_option maxRecDepth 100000
set_option maxHeartbeats 4000000
def Vt:eu:=⟨[97,46,120],1,5,[⟨[],7,0⟩]⟩
def Vu:Key:=⟨3,1⟩
theorem rb:UL Vt [120] Vu 10 20=true:=by decide +kernel
end Go.Proofs.YtcmnpelmmekdkaaGreatDoor.P
end
