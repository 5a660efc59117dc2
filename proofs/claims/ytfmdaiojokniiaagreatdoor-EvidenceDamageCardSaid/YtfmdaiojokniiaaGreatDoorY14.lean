/- Several texts of mine, one behind the other. Conditions: as each says. -/
import Derived.Test.YtfmdaiojokniiaaGreatDoorY13
set_option linter.unusedVariables false
set_option linter.unusedSimpArgs false
section
namespace Go.Proofs.YtfmdaiojokniiaaGreatDoor.P
open Go Go.ax
set_option maxRecDepth 100000
theorem cX {α:Type} {p:α→Bool} {l:List α} {k:Nat} {x:α} (h:l[k]? = some x) (hx:p x=false):l.all p=false:=by
 rw [Bool.eq_false_iff];intro aH;have:=List.all_eq_true.1 aH x (List.mem_of_getElem? h);rw [hx] at this;cases this
theorem dh {α:Type} {p:α→Bool} {l:List α} {k:Nat} {x:α} (hk:(l.take k).all p=true) (h:l[k]? = some x) (hx:p x=true):(l.take (k+1)).all p=true:=by
 rw [cQ h,List.all_append,hk]; simp [hx]
theorem jS {α:Type} {p:α→Bool} {l:List α} {k:Nat} (hk:(l.take k).all p=true) (h:l.length≤k):l.all p=true:=by
 rwa [List.take_of_length_le h] at hk
theorem ir (x a b:Int):aq E 208 [.int .i64 x,.int .i64 a,.int .i64 b] (· = .bool (decide (a≤x)&&decide (x≤b))):=by
 refine eP Tryz.func208 ?_;repeat' (first | with_reducible refine cY ?_ | with_reducible refine cN ?_ | with_reducible refine ah (fun _=>?_) (fun _=>?_) | refine gA Tryz.func208 ?_ | refine gB ?_ | with_reducible rfl)
 all_goals simp_all
 all_goals omega
theorem HW (t:Int):aq E 209 [.int .i64 t] (· = .bool (t==3||t==4)):=by
 refine eP Tryz.func209 ?_;repeat' (first | with_reducible refine cY ?_ | with_reducible refine cN ?_ | with_reducible refine ah (fun _=>?_) (fun _=>?_) | refine gA Tryz.func209 ?_ | refine gB ?_ | with_reducible rfl)
 all_goals simp_all
def zF (a b:Datum):Bool:=if a.text≠b.text then Op.bytesLess a.text b.text else if a.n≠b.n then decide (a.n<b.n) else decide (a.m<b.m)
theorem Pl (a b:Datum):aq E 211 [a.enc,b.enc] (· = .bool (zF a b)):=by
 refine eP Tryz.func211 ?_;repeat' (first | with_reducible refine cY ?_ | with_reducible refine cN ?_ | with_reducible refine ah (fun _=>?_) (fun _=>?_) | refine gA Tryz.func211 ?_ | refine gB ?_ | with_reducible rfl)
 all_goals simp_all [zF]
theorem HX (a b:Int):aq E 297 [.int .i64 a,.int .i64 b] (· = .bool (xd a b)):=by
 refine eP Tryz.func297 ?_;repeat' (first | with_reducible refine cY ?_ | with_reducible refine cN ?_ | with_reducible refine ah (fun _=>?_) (fun _=>?_) | refine gA Tryz.func297 ?_ | refine gB ?_ | with_reducible rfl)
 all_goals simp_all [xd]
 all_goals omega
theorem js (t:Text):aq E 274 [.str t] (· = .bool (fW t)):=by
 by_cases hb:1≤t.length∧t.length≤40
 ·obtain ⟨c0,oU⟩:=aD (l:=t) (k:=0) (by omega);obtain ⟨c1,jE⟩:=aD (l:=t) (k:=t.length - 1) (by omega);have hw:(IntKind.i64.wrap (t.length - 1))=((t.length - 1:Nat):Int):=by rw [wrap64 (by omega) (by omega)]; omega
  refine eP Tryz.func274 ?_;refine aW (by simp; omega) ?_;refine gO Tryz.func274 ?_;refine aW (by simp; omega) ?_;refine gO Tryz.func274 ?_;refine jl c0 (by decide) oU ?_;refine gO Tryz.func274 ?_;refine ah (fun h2=>?_) (fun h2=>?_)
  ·refine gO Tryz.func274 ?_;refine aY ?_;refine gO Tryz.func274 ?_;have e1:t.head? = some c0:=by rw [← oU]; exact List.head?_eq_getElem?
   simp only [fW,e1,Option.any_some,h2,Bool.not_true,Bool.and_false,Bool.false_and]
  ·refine gO Tryz.func274 ?_;rw [hw];refine jl c1 (by omega) (by rw [Int.toNat_natCast]; exact jE) ?_;refine gO Tryz.func274 ?_;refine ah (fun h3=>?_) (fun h3=>?_)
   ·refine gO Tryz.func274 ?_;have e2:t.getLast? = some c1:=by rw [← jE,List.getLast?_eq_getElem?]
    simp only [fW,e2,Option.any_some,h3,Bool.not_true,Bool.and_false,Bool.false_and]
   ·rw [HN hb.1 hb.2 oU jE h2 h3];refine gO Tryz.func274 ?_;refine I.loop (κ:=Nat) ([2,4,5]++rg 26 26) (fun k=>[(4,.d (.int .i64 k))]) (fun _=>[]) (fun k=>k≤t.length∧(t.take k).all mP=true) (fun k=>t.length - k) 0 ⟨Nat.zero_le _,rfl⟩ ?_ ?_
    ·exact sZ
    ·intro k hk IH;refine I.head af Tryz.func274 2000 ?_;(conv=>whnf);refine ah (fun h4=>?_) (fun h4=>?_)
     ·simp at h4;obtain ⟨c,hc⟩:=aD h4;refine gO Tryz.func274 ?_;refine jl c (by omega) (by rw [Int.toNat_natCast]; exact hc) ?_;refine gO Tryz.func274 ?_;repeat' (first | with_reducible refine cY ?_ | with_reducible refine cN ?_ | with_reducible refine ah (fun _=>?_) (fun _=>?_) | refine gA Tryz.func274 ?_ | refine gB ?_ | with_reducible rfl)
      all_goals first
       |(rw [cX hc (by simp_all [mP] <;> omega)]; done)
       |skip
      all_goals
       refine gO Tryz.func274 ?_;refine I.back (IH (k+1) ⟨by omega,dh hk.2 hc (by simp_all [mP] <;> omega)⟩ (by omega)) ?_;exact sZ
     ·simp at h4;refine gO Tryz.func274 ?_;rw [jS hk.2 h4]
 ·have bL:fW t=false:=by
   simp only [fW,Bool.and_eq_false_iff,decide_eq_false_iff_not];omega
  rw [bL];refine eP Tryz.func274 ?_;refine ah (fun h=>?_) (fun h=>?_)
  ·refine gO Tryz.func274 ?_;refine aY ?_;refine gO Tryz.func274 ?_;refine aY ?_;refine gO Tryz.func274 ?_;refine aY ?_;refine gO Tryz.func274 ?_
   with_reducible rfl
  ·simp at h;refine gO Tryz.func274 ?_;refine aV (by simp; omega) ?_;refine gO Tryz.func274 ?_;refine aY ?_;refine gO Tryz.func274 ?_;refine aY ?_;refine gO Tryz.func274 ?_
   with_reducible rfl
theorem qf (n:Int):(n==0)=(decide (0≤n)&&decide (n≤0)):=by
 rw [Bool.eq_iff_iff];simp;omega
theorem Pm (k:Nat) (d:Datum) (hk:1≤k∧k≤8) (hd:d.text.length≤maxLen):aq E 210 [.int .i64 k,d.enc] (· = .bool (iS (eO k) d)):=by
 match k,hk with
 | 1,_ =>
  refine eP Tryz.func210 ?_;repeat' (first | with_reducible refine ao (ir _ _ _) ?_ | with_reducible refine au (ir _ _ _) ?_ | with_reducible refine ao (dR _ hd) ?_ | with_reducible refine au (dR _ hd) ?_ | with_reducible refine ao (gM _ hd) ?_ | with_reducible refine au (gM _ hd) ?_ | with_reducible refine ao (js _) ?_ | with_reducible refine au (js _) ?_ | with_reducible refine cY ?_ | with_reducible refine cN ?_ | with_reducible refine ah (fun _=>?_) (fun _=>?_) | refine gA Tryz.func210 ?_ | refine gB ?_ | with_reducible rfl)
  all_goals simp_all [iS,lj,eO]
  all_goals first | omega | exact qf _
 | 2,_ =>
  refine eP Tryz.func210 ?_;repeat' (first | with_reducible refine ao (ir _ _ _) ?_ | with_reducible refine au (ir _ _ _) ?_ | with_reducible refine ao (dR _ hd) ?_ | with_reducible refine au (dR _ hd) ?_ | with_reducible refine ao (gM _ hd) ?_ | with_reducible refine au (gM _ hd) ?_ | with_reducible refine ao (js _) ?_ | with_reducible refine au (js _) ?_ | with_reducible refine cY ?_ | with_reducible refine cN ?_ | with_reducible refine ah (fun _=>?_) (fun _=>?_) | refine gA Tryz.func210 ?_ | refine gB ?_ | with_reducible rfl)
  all_goals simp_all [iS,lj,eO]
  all_goals first | omega | exact qf _
 | 3,_ =>
  refine eP Tryz.func210 ?_;repeat' (first | with_reducible refine ao (ir _ _ _) ?_ | with_reducible refine au (ir _ _ _) ?_ | with_reducible refine ao (dR _ hd) ?_ | with_reducible refine au (dR _ hd) ?_ | with_reducible refine ao (gM _ hd) ?_ | with_reducible refine au (gM _ hd) ?_ | with_reducible refine ao (js _) ?_ | with_reducible refine au (js _) ?_ | with_reducible refine cY ?_ | with_reducible refine cN ?_ | with_reducible refine ah (fun _=>?_) (fun _=>?_) | refine gA Tryz.func210 ?_ | refine gB ?_ | with_reducible rfl)
  all_goals simp_all [iS,lj,eO]
  all_goals first | omega | exact qf _
 | 4,_ =>
  refine eP Tryz.func210 ?_;repeat' (first | with_reducible refine ao (ir _ _ _) ?_ | with_reducible refine au (ir _ _ _) ?_ | with_reducible refine ao (dR _ hd) ?_ | with_reducible refine au (dR _ hd) ?_ | with_reducible refine ao (gM _ hd) ?_ | with_reducible refine au (gM _ hd) ?_ | with_reducible refine ao (js _) ?_ | with_reducible refine au (js _) ?_ | with_reducible refine cY ?_ | with_reducible refine cN ?_ | with_reducible refine ah (fun _=>?_) (fun _=>?_) | refine gA Tryz.func210 ?_ | refine gB ?_ | with_reducible rfl)
  all_goals simp_all [iS,lj,eO]
  all_goals first | omega | exact qf _
 | 5,_ =>
  refine eP Tryz.func210 ?_;repeat' (first | with_reducible refine ao (ir _ _ _) ?_ | with_reducible refine au (ir _ _ _) ?_ | with_reducible refine ao (dR _ hd) ?_ | with_reducible refine au (dR _ hd) ?_ | with_reducible refine ao (gM _ hd) ?_ | with_reducible refine au (gM _ hd) ?_ | with_reducible refine ao (js _) ?_ | with_reducible refine au (js _) ?_ | with_reducible refine cY ?_ | with_reducible refine cN ?_ | with_reducible refine ah (fun _=>?_) (fun _=>?_) | refine gA Tryz.func210 ?_ | refine gB ?_ | with_reducible rfl)
  all_goals simp_all [iS,lj,eO]
  all_goals first | omega | exact qf _
 | 6,_ =>
  refine eP Tryz.func210 ?_;repeat' (first | with_reducible refine ao (ir _ _ _) ?_ | with_reducible refine au (ir _ _ _) ?_ | with_reducible refine ao (dR _ hd) ?_ | with_reducible refine au (dR _ hd) ?_ | with_reducible refine ao (gM _ hd) ?_ | with_reducible refine au (gM _ hd) ?_ | with_reducible refine ao (js _) ?_ | with_reducible refine au (js _) ?_ | with_reducible refine cY ?_ | with_reducible refine cN ?_ | with_reducible refine ah (fun _=>?_) (fun _=>?_) | refine gA Tryz.func210 ?_ | refine gB ?_ | with_reducible rfl)
  all_goals simp_all [iS,lj,eO]
  all_goals first | omega | exact qf _
 | 7,_ =>
  refine eP Tryz.func210 ?_;repeat' (first | with_reducible refine ao (ir _ _ _) ?_ | with_reducible refine au (ir _ _ _) ?_ | with_reducible refine ao (dR _ hd) ?_ | with_reducible refine au (dR _ hd) ?_ | with_reducible refine ao (gM _ hd) ?_ | with_reducible refine au (gM _ hd) ?_ | with_reducible refine ao (js _) ?_ | with_reducible refine au (js _) ?_ | with_reducible refine cY ?_ | with_reducible refine cN ?_ | with_reducible refine ah (fun _=>?_) (fun _=>?_) | refine gA Tryz.func210 ?_ | refine gB ?_ | with_reducible rfl)
  all_goals simp_all [iS,lj,eO]
  all_goals first | omega | exact qf _
 | 8,_ =>
  refine eP Tryz.func210 ?_;repeat' (first | with_reducible refine ao (ir _ _ _) ?_ | with_reducible refine au (ir _ _ _) ?_ | with_reducible refine ao (dR _ hd) ?_ | with_reducible refine au (dR _ hd) ?_ | with_reducible refine ao (gM _ hd) ?_ | with_reducible refine au (gM _ hd) ?_ | with_reducible refine ao (js _) ?_ | with_reducible refine au (js _) ?_ | with_reducible refine cY ?_ | with_reducible refine cN ?_ | with_reducible refine ah (fun _=>?_) (fun _=>?_) | refine gA Tryz.func210 ?_ | refine gB ?_ | with_reducible rfl)
  all_goals simp_all [iS,lj,eO]
  all_goals first | omega | exact qf _
theorem jT:∀ (a:Text),Op.bytesLess a a=false
 | []=>rfl
 |c::a=>by simp [Op.bytesLess,jT a]
theorem Pn (a b:Datum):zF a b=decide (oT a b<0):=by
 unfold zF oT;by_cases h1:a.text=b.text
 ·simp only [h1,ne_eq,not_true_eq_false,if_false,um,jT,Bool.false_eq_true,oS,if_true,iq];by_cases h2:a.n=b.n
  ·simp only [h2,not_true_eq_false,if_false,Int.lt_irrefl,if_true];rw [Bool.eq_iff_iff];simp only [decide_eq_true_eq];repeat' split
   all_goals omega
  ·simp only [h2,not_false_eq_true,if_true];rw [Bool.eq_iff_iff];simp only [decide_eq_true_eq];repeat' split
   all_goals omega
 ·simp only [h1,ne_eq,not_false_eq_true,if_true,um,oS];cases h:Op.bytesLess a.text b.text
  ·simp [h1]
  ·simp
theorem Po {k:Nat} (h:1≤k∧k≤8):(eO k).single=((k:Int)==3||(k:Int)==4):=by
 match k,h with
 | 1,_=>rfl
 | 2,_=>rfl
 | 3,_=>rfl
 | 4,_=>rfl
 | 5,_=>rfl
 | 6,_=>rfl
 | 7,_=>rfl
 | 8,_=>rfl
theorem Pp {k:Nat} (h:1≤k∧k≤8):(!(eO k).fX)=((k:Int) != 1&&(k:Int) != 5&&(k:Int) != 8):=by
 match k,h with
 | 1,_=>rfl
 | 2,_=>rfl
 | 3,_=>rfl
 | 4,_=>rfl
 | 5,_=>rfl
 | 6,_=>rfl
 | 7,_=>rfl
 | 8,_=>rfl
end Go.Proofs.YtfmdaiojokniiaaGreatDoor.P
end
section
namespace Go.Proofs.YtfmdaiojokniiaaGreatDoor.P
open Go Go.ax
set_option maxRecDepth 100000
set_option maxHeartbeats 4000000
theorem Pq (s:cP):ev s=(Nm.valid s.name&&(decide (1≤s.type)&&decide (s.type≤8))&&(decide (0≤s.cD)&&decide (s.cD≤100000))&&(decide (1≤(s.data.length:Int))&&decide ((s.data.length:Int)≤8)) &&
  !((s.type==3||s.type==4)&&decide ((s.data.length:Int)>1)) && !(Nm.fX s.name&&(s.type != 1&&s.type != 5&&s.type != 8))&&ky (eO s.type.toNat) none s.data):=by
 by_cases ht:1≤s.type∧s.type≤8
 ·by_cases hn:1≤(s.data.length:Int)
  ·obtain ⟨t,lM⟩:=Int.eq_ofNat_of_zero_le (a:=s.type) (by omega);have h8:1≤t∧t≤8:=by omega
   have e1:=Po h8;have e2:=Pp h8;have e3:((s.data.length:Int) != 1)=decide ((s.data.length:Int)>1):=by
    rw [Bool.eq_iff_iff]; simp; omega
   simp only [ev,lM,Int.toNat_natCast,e1,e2,e3]
  ·simp [ev,hn]
 ·simp only [ev];have:(decide (1≤s.type)&&decide (s.type≤8))=false:=by
   rw [Bool.and_eq_false_iff]; simp; omega
  simp only [this,Bool.and_false,Bool.false_and]
theorem Pr (k:Int) (d:Datum) (hk:1≤k∧k≤8) (hd:d.text.length≤maxLen):aq E 210 [.int .i64 k,d.enc] (· = .bool (iS (eO k.toNat) d)):=by
 obtain ⟨t,rfl⟩:=Int.eq_ofNat_of_zero_le (a:=k) (by omega);rw [Int.toNat_natCast];exact Pm t d (by omega) hd
theorem uq (s:cP) (hf:s.Fits):aq E 140 [s.enc] (· = .bool (ev s)):=by
 rw [Pq];refine eP Tryz.func140 ?_;repeat' (first | with_reducible refine ao (dR _ hf.name) ?_ | with_reducible refine au (dR _ hf.name) ?_ | with_reducible refine ao (ir _ _ _) ?_ | with_reducible refine au (ir _ _ _) ?_ | with_reducible refine ao (HW _) ?_ | with_reducible refine au (HW _) ?_ | with_reducible refine ao (gM _ hf.name) ?_ | with_reducible refine au (gM _ hf.name) ?_ | with_reducible refine cY ?_ | with_reducible refine cN ?_ | with_reducible refine ah (fun _=>?_) (fun _=>?_) | refine gA Tryz.func140 ?_ | refine gB ?_ | with_reducible rfl)
 all_goals try simp only [List.length_map] at *
 all_goals try (simp only [Bool.not_eq_true',Bool.not_eq_false'] at *; simp only [*,Bool.false_and,Bool.and_false,Bool.true_and,Bool.not_true,Bool.not_false,Bool.and_true,Bool.and_self]; done)
 all_goals
  have jk:∀ {a b c d e f:Bool},(!a)=false→(!b)=false→(!c)=false→(!d)=false→e=false→f=false→∀ g:Bool,(a&&b&&c&&d && !e && !f&&g)=g:=fun h1 h2 h3 h4 h5 h6 g=>by
   simp_all
  have HY:1≤s.type∧s.type≤8:=by simp_all
  have hl:s.data.length≤8:=by simp_all <;> omega
  rw [jk (by assumption) (by assumption) (by assumption) (by assumption) (by simp_all <;> omega) (by simp_all) _];clear jk;refine gO Tryz.func140 ?_;refine I.loop (κ:=Nat) ([2,4]++rg 56 33) (fun k=>[(4,.d (.int .i64 k))]) (fun _=>[]) (fun k=>k≤s.data.length∧ky (eO s.type.toNat) none s.data=ky (eO s.type.toNat) (jR s.data k) (s.data.drop k)) (fun k=>s.data.length - k) 0 ⟨Nat.zero_le _,rfl⟩ ?_ ?_
  ·exact sZ
  ·intro k hk IH;refine I.head af Tryz.func140 2000 ?_;(conv=>whnf);refine ah (fun h5=>?_) (fun h5=>?_)
   ·have ai:k<s.data.length:=by simpa using h5
    obtain ⟨d,hd⟩:=aD ai;have aE:=HT (r:=eO s.type.toNat) hd;rw [← hk.2] at aE;refine gO Tryz.func140 ?_;refine I.bH af bI 2000 (by kernel_rfl) ?_;(conv=>whnf);refine eu d.enc (by omega) (jQ hd) rfl ?_;refine gD ?_;refine au (Pr _ d HY (hf.texts d (List.mem_of_getElem? hd))) ?_;refine gD ?_;refine ah (fun h6=>?_) (fun h6=>?_)
    ·refine gD ?_;refine gO Tryz.func140 ?_;refine aY ?_;refine gO Tryz.func140 ?_;rw [Bool.not_eq_true'] at h6;rw [aE,h6,Bool.false_and,Bool.false_and]
    ·rw [Bool.not_eq_false'] at h6;refine gD ?_;refine ah (fun h7=>?_) (fun h7=>?_)
     ·have cJ:0<k:=by simpa using h7
      obtain ⟨e,he⟩:=aD (l:=s.data) (k:=k - 1) (by omega);have hw:IntKind.i64.wrap ((k:Int) - 1)=((k - 1:Nat):Int):=by rw [wrap64 (by omega) (by omega)]; omega
      have oV:jR s.data k=some e:=by simp [jR,he]; omega
      refine gD ?_;rw [hw];refine eu e.enc (by omega) (jQ he) rfl ?_;refine gD ?_;refine eu d.enc (by omega) (jQ hd) rfl ?_;refine gD ?_;refine au (Pl _ _) ?_;refine gD ?_;rw [Pn];refine gO Tryz.func140 ?_;refine ah (fun h8=>?_) (fun h8=>?_)
      ·refine gO Tryz.func140 ?_;have:decide (oT e d<0)=false:=by simpa using h8
       rw [aE,oV]; dsimp only; rw [this,Bool.and_false,Bool.false_and]
      ·refine gO Tryz.func140 ?_;have:decide (oT e d<0)=true:=by simpa using h8
       refine I.back (IH (k+1) ⟨by omega,by rw [aE,oV]; dsimp only; rw [this,h6]; rfl⟩ (by omega)) ?_;exact sZ
     ·have cJ:k=0:=by simp at h7; omega
      have oV:jR s.data k=none:=by simp [jR,cJ]
      refine gD ?_;refine gO Tryz.func140 ?_;refine aQ ?_;refine gO Tryz.func140 ?_;refine I.back (IH (k+1) ⟨by omega,by rw [aE,oV,h6]; rfl⟩ (by omega)) ?_;exact sZ
   ·have aC:s.data.length≤k:=by simpa using h5
    refine gO Tryz.func140 ?_;rw [hk.2,List.drop_of_length_le aC];rfl
end Go.Proofs.YtfmdaiojokniiaaGreatDoor.P
end
section
namespace Go.Proofs.YtfmdaiojokniiaaGreatDoor.P
open Go Go.ax
set_option maxRecDepth 100000
set_option maxHeartbeats 4000000
def Ps:cP:=⟨[97,46,120],1,5,[⟨[],7,0⟩]⟩
def Pt:Key:=⟨3,1⟩
theorem oW:Pk Ps [120] Pt 10 20=true:=by decide +kernel
end Go.Proofs.YtfmdaiojokniiaaGreatDoor.P
end
