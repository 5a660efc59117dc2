/- Several texts of mine, one behind the other. Conditions: as each says. -/
import Derived.Test.YthikfaephakahaaGreatDoorZM6
set_option linter.unusedVariables false
set_option linter.unusedSimpArgs false
section
namespace Go.Proofs.YthikfaephakahaaGreatDoor.P
open Go Go.Eng
set_option maxRecDepth 100000
theorem all_no {α:Type} {p:α→Bool} {l:List α} {k:Nat} {x:α} (h:l[k]? = some x) (hx:p x=false):l.all p=false:=by
 rw [Bool.eq_false_iff];intro hall;have:=List.all_eq_true.1 hall x (List.mem_of_getElem? h);rw [hx] at this;cases this
theorem all_next {α:Type} {p:α→Bool} {l:List α} {k:Nat} {x:α} (hk:(l.take k).all p=true) (h:l[k]? = some x) (hx:p x=true):(l.take (k+1)).all p=true:=by
 rw [take_next h,List.all_append,hk]; simp [hx]
theorem all_end {α:Type} {p:α→Bool} {l:List α} {k:Nat} (hk:(l.take k).all p=true) (h:l.length≤k):l.all p=true:=by
 rwa [List.take_of_length_le h] at hk
theorem rwithin_p (x a b:Int):PCalls E 271 [.int .i64 x,.int .i64 a,.int .i64 b] (· = .bool (decide (a≤x)&&decide (x≤b))):=by
 refine eP Tryz.func271 ?_;repeat' (first | with_reducible refine cY ?_ | with_reducible refine cN ?_ | with_reducible refine caseB_split (fun _=>?_) (fun _=>?_) | refine gA Tryz.func271 ?_ | refine gB ?_ | refine gC ?_ | with_reducible rfl)
 all_goals simp_all
 all_goals omega
theorem rsingle_p (t:Int):PCalls E 272 [.int .i64 t] (· = .bool (t==3||t==4)):=by
 refine eP Tryz.func272 ?_;repeat' (first | with_reducible refine cY ?_ | with_reducible refine cN ?_ | with_reducible refine caseB_split (fun _=>?_) (fun _=>?_) | refine gA Tryz.func272 ?_ | refine gB ?_ | refine gC ?_ | with_reducible rfl)
 all_goals simp_all
def lessD (a b:Datum):Bool:=if a.text≠b.text then Op.bytesLess a.text b.text else if a.n≠b.n then decide (a.n<b.n) else decide (a.m<b.m)
theorem rless_p (a b:Datum):PCalls E 275 [a.enc,b.enc] (· = .bool (lessD a b)):=by
 refine eP Tryz.func275 ?_;repeat' (first | with_reducible refine cY ?_ | with_reducible refine cN ?_ | with_reducible refine caseB_split (fun _=>?_) (fun _=>?_) | refine gA Tryz.func275 ?_ | refine gB ?_ | refine gC ?_ | with_reducible rfl)
 all_goals simp_all [lessD]
theorem rtext_p (t:Text):PCalls E 300 [.str t] (· = .bool (freeB t)):=by
 by_cases hb:1≤t.length∧t.length≤40
 ·obtain ⟨c0,hc0⟩:=some_of_lt (l:=t) (k:=0) (by omega);obtain ⟨c1,hc1⟩:=some_of_lt (l:=t) (k:=t.length - 1) (by omega);have hw:(IntKind.i64.wrap (t.length - 1))=((t.length - 1:Nat):Int):=by rw [wrap64 (by omega) (by omega)]; omega
  refine eP Tryz.func300 ?_;refine caseB_no (by simp; omega) ?_;refine gO Tryz.func300 ?_;refine caseB_no (by simp; omega) ?_;refine gO Tryz.func300 ?_;refine byteP_intro c0 (by decide) hc0 ?_;refine gO Tryz.func300 ?_;refine caseB_split (fun h2=>?_) (fun h2=>?_)
  ·refine gO Tryz.func300 ?_;refine caseB_true ?_;refine gO Tryz.func300 ?_;have e1:t.head? = some c0:=by rw [← hc0]; exact List.head?_eq_getElem?
   simp only [freeB,e1,Option.any_some,h2,Bool.not_true,Bool.and_false,Bool.false_and]
  ·refine gO Tryz.func300 ?_;rw [hw];refine byteP_intro c1 (by omega) (by rw [Int.toNat_natCast]; exact hc1) ?_;refine gO Tryz.func300 ?_;refine caseB_split (fun h3=>?_) (fun h3=>?_)
   ·refine gO Tryz.func300 ?_;have e2:t.getLast? = some c1:=by rw [← hc1,List.getLast?_eq_getElem?]
    simp only [freeB,e2,Option.any_some,h3,Bool.not_true,Bool.and_false,Bool.false_and]
   ·rw [freeB_of hb.1 hb.2 hc0 hc1 h2 h3];refine gO Tryz.func300 ?_;refine AWL.loop (κ:=Nat) ([2,4,5]++rg 26 26) (fun k=>[(4,.d (.int .i64 k))]) (fun _=>[]) (fun k=>k≤t.length∧(t.take k).all okc=true) (fun k=>t.length - k) 0 ⟨Nat.zero_le _,rfl⟩ ?_ ?_
    ·(conv=>whnf);repeat (first | exact trivial | (refine sI ?_; conv=>whnf))
    ·intro k hk IH;refine AWL.head E_ok Tryz.func300 2000 ?_;(conv=>whnf);refine caseB_split (fun h4=>?_) (fun h4=>?_)
     ·simp at h4;obtain ⟨c,hc⟩:=some_of_lt h4;refine gO Tryz.func300 ?_;refine byteP_intro c (by omega) (by rw [Int.toNat_natCast]; exact hc) ?_;refine gO Tryz.func300 ?_;repeat' (first | with_reducible refine cY ?_ | with_reducible refine cN ?_ | with_reducible refine caseB_split (fun _=>?_) (fun _=>?_) | refine gA Tryz.func300 ?_ | refine gB ?_ | refine gC ?_ | with_reducible rfl)
      all_goals first
       |(rw [all_no hc (by simp_all [okc] <;> omega)]; done)
       |skip
      all_goals
       refine gO Tryz.func300 ?_;refine AWL.back (IH (k+1) ⟨by omega,all_next hk.2 hc (by simp_all [okc] <;> omega)⟩ (by omega)) ?_;(conv=>whnf);repeat (first | exact trivial | (refine sI ?_; conv=>whnf))
     ·simp at h4;refine gO Tryz.func300 ?_;rw [all_end hk.2 h4]
 ·have hno:freeB t=false:=by
   simp only [freeB,Bool.and_eq_false_iff,decide_eq_false_iff_not];omega
  rw [hno];refine eP Tryz.func300 ?_;refine caseB_split (fun h=>?_) (fun h=>?_)
  ·refine gO Tryz.func300 ?_;refine caseB_true ?_;refine gO Tryz.func300 ?_;refine caseB_true ?_;refine gO Tryz.func300 ?_;refine caseB_true ?_;refine gO Tryz.func300 ?_
   with_reducible rfl
  ·simp at h;refine gO Tryz.func300 ?_;refine caseB_yes (by simp; omega) ?_;refine gO Tryz.func300 ?_;refine caseB_true ?_;refine gO Tryz.func300 ?_;refine caseB_true ?_;refine gO Tryz.func300 ?_
   with_reducible rfl
theorem eq0 (n:Int):(n==0)=(decide (0≤n)&&decide (n≤0)):=by
 rw [Bool.eq_iff_iff];simp;omega
theorem rdatum_p (k:Nat) (d:Datum) (hk:1≤k∧k≤8) (hd:d.text.length≤maxLen):PCalls E 274 [.int .i64 k,d.enc] (· = .bool (datumOK (ruleOf k) d)):=by
 match k,hk with
 | 1,_ =>
  refine eP Tryz.func274 ?_;repeat' (first | with_reducible refine callP_eq (rwithin_p _ _ _) ?_ | with_reducible refine callP1_eq (rwithin_p _ _ _) ?_ | with_reducible refine callP_eq (rvalid_p _ hd) ?_ | with_reducible refine callP1_eq (rvalid_p _ hd) ?_ | with_reducible refine callP_eq (rwild_p _ hd) ?_ | with_reducible refine callP1_eq (rwild_p _ hd) ?_ | with_reducible refine callP_eq (rtext_p _) ?_ | with_reducible refine callP1_eq (rtext_p _) ?_ | with_reducible refine cY ?_ | with_reducible refine cN ?_ | with_reducible refine caseB_split (fun _=>?_) (fun _=>?_) | refine gA Tryz.func274 ?_ | refine gB ?_ | refine gC ?_ | with_reducible rfl)
  all_goals simp_all [datumOK,textOK,ruleOf]
  all_goals first | omega | exact eq0 _
 | 2,_ =>
  refine eP Tryz.func274 ?_;repeat' (first | with_reducible refine callP_eq (rwithin_p _ _ _) ?_ | with_reducible refine callP1_eq (rwithin_p _ _ _) ?_ | with_reducible refine callP_eq (rvalid_p _ hd) ?_ | with_reducible refine callP1_eq (rvalid_p _ hd) ?_ | with_reducible refine callP_eq (rwild_p _ hd) ?_ | with_reducible refine callP1_eq (rwild_p _ hd) ?_ | with_reducible refine callP_eq (rtext_p _) ?_ | with_reducible refine callP1_eq (rtext_p _) ?_ | with_reducible refine cY ?_ | with_reducible refine cN ?_ | with_reducible refine caseB_split (fun _=>?_) (fun _=>?_) | refine gA Tryz.func274 ?_ | refine gB ?_ | refine gC ?_ | with_reducible rfl)
  all_goals simp_all [datumOK,textOK,ruleOf]
  all_goals first | omega | exact eq0 _
 | 3,_ =>
  refine eP Tryz.func274 ?_;repeat' (first | with_reducible refine callP_eq (rwithin_p _ _ _) ?_ | with_reducible refine callP1_eq (rwithin_p _ _ _) ?_ | with_reducible refine callP_eq (rvalid_p _ hd) ?_ | with_reducible refine callP1_eq (rvalid_p _ hd) ?_ | with_reducible refine callP_eq (rwild_p _ hd) ?_ | with_reducible refine callP1_eq (rwild_p _ hd) ?_ | with_reducible refine callP_eq (rtext_p _) ?_ | with_reducible refine callP1_eq (rtext_p _) ?_ | with_reducible refine cY ?_ | with_reducible refine cN ?_ | with_reducible refine caseB_split (fun _=>?_) (fun _=>?_) | refine gA Tryz.func274 ?_ | refine gB ?_ | refine gC ?_ | with_reducible rfl)
  all_goals simp_all [datumOK,textOK,ruleOf]
  all_goals first | omega | exact eq0 _
 | 4,_ =>
  refine eP Tryz.func274 ?_;repeat' (first | with_reducible refine callP_eq (rwithin_p _ _ _) ?_ | with_reducible refine callP1_eq (rwithin_p _ _ _) ?_ | with_reducible refine callP_eq (rvalid_p _ hd) ?_ | with_reducible refine callP1_eq (rvalid_p _ hd) ?_ | with_reducible refine callP_eq (rwild_p _ hd) ?_ | with_reducible refine callP1_eq (rwild_p _ hd) ?_ | with_reducible refine callP_eq (rtext_p _) ?_ | with_reducible refine callP1_eq (rtext_p _) ?_ | with_reducible refine cY ?_ | with_reducible refine cN ?_ | with_reducible refine caseB_split (fun _=>?_) (fun _=>?_) | refine gA Tryz.func274 ?_ | refine gB ?_ | refine gC ?_ | with_reducible rfl)
  all_goals simp_all [datumOK,textOK,ruleOf]
  all_goals first | omega | exact eq0 _
 | 5,_ =>
  refine eP Tryz.func274 ?_;repeat' (first | with_reducible refine callP_eq (rwithin_p _ _ _) ?_ | with_reducible refine callP1_eq (rwithin_p _ _ _) ?_ | with_reducible refine callP_eq (rvalid_p _ hd) ?_ | with_reducible refine callP1_eq (rvalid_p _ hd) ?_ | with_reducible refine callP_eq (rwild_p _ hd) ?_ | with_reducible refine callP1_eq (rwild_p _ hd) ?_ | with_reducible refine callP_eq (rtext_p _) ?_ | with_reducible refine callP1_eq (rtext_p _) ?_ | with_reducible refine cY ?_ | with_reducible refine cN ?_ | with_reducible refine caseB_split (fun _=>?_) (fun _=>?_) | refine gA Tryz.func274 ?_ | refine gB ?_ | refine gC ?_ | with_reducible rfl)
  all_goals simp_all [datumOK,textOK,ruleOf]
  all_goals first | omega | exact eq0 _
 | 6,_ =>
  refine eP Tryz.func274 ?_;repeat' (first | with_reducible refine callP_eq (rwithin_p _ _ _) ?_ | with_reducible refine callP1_eq (rwithin_p _ _ _) ?_ | with_reducible refine callP_eq (rvalid_p _ hd) ?_ | with_reducible refine callP1_eq (rvalid_p _ hd) ?_ | with_reducible refine callP_eq (rwild_p _ hd) ?_ | with_reducible refine callP1_eq (rwild_p _ hd) ?_ | with_reducible refine callP_eq (rtext_p _) ?_ | with_reducible refine callP1_eq (rtext_p _) ?_ | with_reducible refine cY ?_ | with_reducible refine cN ?_ | with_reducible refine caseB_split (fun _=>?_) (fun _=>?_) | refine gA Tryz.func274 ?_ | refine gB ?_ | refine gC ?_ | with_reducible rfl)
  all_goals simp_all [datumOK,textOK,ruleOf]
  all_goals first | omega | exact eq0 _
 | 7,_ =>
  refine eP Tryz.func274 ?_;repeat' (first | with_reducible refine callP_eq (rwithin_p _ _ _) ?_ | with_reducible refine callP1_eq (rwithin_p _ _ _) ?_ | with_reducible refine callP_eq (rvalid_p _ hd) ?_ | with_reducible refine callP1_eq (rvalid_p _ hd) ?_ | with_reducible refine callP_eq (rwild_p _ hd) ?_ | with_reducible refine callP1_eq (rwild_p _ hd) ?_ | with_reducible refine callP_eq (rtext_p _) ?_ | with_reducible refine callP1_eq (rtext_p _) ?_ | with_reducible refine cY ?_ | with_reducible refine cN ?_ | with_reducible refine caseB_split (fun _=>?_) (fun _=>?_) | refine gA Tryz.func274 ?_ | refine gB ?_ | refine gC ?_ | with_reducible rfl)
  all_goals simp_all [datumOK,textOK,ruleOf]
  all_goals first | omega | exact eq0 _
 | 8,_ =>
  refine eP Tryz.func274 ?_;repeat' (first | with_reducible refine callP_eq (rwithin_p _ _ _) ?_ | with_reducible refine callP1_eq (rwithin_p _ _ _) ?_ | with_reducible refine callP_eq (rvalid_p _ hd) ?_ | with_reducible refine callP1_eq (rvalid_p _ hd) ?_ | with_reducible refine callP_eq (rwild_p _ hd) ?_ | with_reducible refine callP1_eq (rwild_p _ hd) ?_ | with_reducible refine callP_eq (rtext_p _) ?_ | with_reducible refine callP1_eq (rtext_p _) ?_ | with_reducible refine cY ?_ | with_reducible refine cN ?_ | with_reducible refine caseB_split (fun _=>?_) (fun _=>?_) | refine gA Tryz.func274 ?_ | refine gB ?_ | refine gC ?_ | with_reducible rfl)
  all_goals simp_all [datumOK,textOK,ruleOf]
  all_goals first | omega | exact eq0 _
theorem bytesLess_irrefl:∀ (a:Text),Op.bytesLess a a=false
 | []=>rfl
 |c::a=>by simp [Op.bytesLess,bytesLess_irrefl a]
theorem lessD_cmp (a b:Datum):lessD a b=decide (cmpD a b<0):=by
 unfold lessD cmpD;by_cases h1:a.text=b.text
 ·simp only [h1,ne_eq,not_true_eq_false,if_false,cmpS,bytesLess_irrefl,Bool.false_eq_true,orI,if_true,cmpI];by_cases h2:a.n=b.n
  ·simp only [h2,not_true_eq_false,if_false,Int.lt_irrefl,if_true];rw [Bool.eq_iff_iff];simp only [decide_eq_true_eq];repeat' split
   all_goals omega
  ·simp only [h2,not_false_eq_true,if_true];rw [Bool.eq_iff_iff];simp only [decide_eq_true_eq];repeat' split
   all_goals omega
 ·simp only [h1,ne_eq,not_false_eq_true,if_true,cmpS,orI];cases h:Op.bytesLess a.text b.text
  ·simp [h1]
  ·simp
theorem ruleOf_single {k:Nat} (h:1≤k∧k≤8):(ruleOf k).single=((k:Int)==3||(k:Int)==4):=by
 match k,h with
 | 1,_=>rfl
 | 2,_=>rfl
 | 3,_=>rfl
 | 4,_=>rfl
 | 5,_=>rfl
 | 6,_=>rfl
 | 7,_=>rfl
 | 8,_=>rfl
theorem ruleOf_wild {k:Nat} (h:1≤k∧k≤8):(!(ruleOf k).wild)=((k:Int) != 1&&(k:Int) != 5&&(k:Int) != 8):=by
 match k,h with
 | 1,_=>rfl
 | 2,_=>rfl
 | 3,_=>rfl
 | 4,_=>rfl
 | 5,_=>rfl
 | 6,_=>rfl
 | 7,_=>rfl
 | 8,_=>rfl
end Go.Proofs.YthikfaephakahaaGreatDoor.P
end
section
namespace Go.Proofs.YthikfaephakahaaGreatDoor.P
open Go Go.Eng
set_option maxRecDepth 100000
set_option maxHeartbeats 4000000
theorem setOK_alt (s:RSet):setOK s=(Nm.valid s.name&&(decide (1≤s.type)&&decide (s.type≤8))&&(decide (0≤s.life)&&decide (s.life≤100000))&&(decide (1≤(s.data.length:Int))&&decide ((s.data.length:Int)≤8)) &&
  !((s.type==3||s.type==4)&&decide ((s.data.length:Int)>1)) && !(Nm.wild s.name&&(s.type != 1&&s.type != 5&&s.type != 8))&&dataB (ruleOf s.type.toNat) none s.data):=by
 by_cases ht:1≤s.type∧s.type≤8
 ·by_cases hn:1≤(s.data.length:Int)
  ·obtain ⟨t,ht'⟩:=Int.eq_ofNat_of_zero_le (a:=s.type) (by omega);have h8:1≤t∧t≤8:=by omega
   have e1:=ruleOf_single h8;have e2:=ruleOf_wild h8;have e3:((s.data.length:Int) != 1)=decide ((s.data.length:Int)>1):=by
    rw [Bool.eq_iff_iff]; simp; omega
   simp only [setOK,ht',Int.toNat_natCast,e1,e2,e3]
  ·simp [setOK,hn]
 ·simp only [setOK];have:(decide (1≤s.type)&&decide (s.type≤8))=false:=by
   rw [Bool.and_eq_false_iff]; simp; omega
  simp only [this,Bool.and_false,Bool.false_and]
theorem rdatum_q (k:Int) (d:Datum) (hk:1≤k∧k≤8) (hd:d.text.length≤maxLen):PCalls E 274 [.int .i64 k,d.enc] (· = .bool (datumOK (ruleOf k.toNat) d)):=by
 obtain ⟨t,rfl⟩:=Int.eq_ofNat_of_zero_le (a:=k) (by omega);rw [Int.toNat_natCast];exact rdatum_p t d (by omega) hd
set_option linter.unusedSimpArgs false in
theorem rsetOK_p (s:RSet) (hf:s.Fits):PCalls E 203 [s.enc] (· = .bool (setOK s)):=by
 rw [setOK_alt];refine eP Tryz.func203 ?_;repeat' (first | with_reducible refine callP_eq (rvalid_p _ hf.name) ?_ | with_reducible refine callP1_eq (rvalid_p _ hf.name) ?_ | with_reducible refine callP_eq (rwithin_p _ _ _) ?_ | with_reducible refine callP1_eq (rwithin_p _ _ _) ?_ | with_reducible refine callP_eq (rsingle_p _) ?_ | with_reducible refine callP1_eq (rsingle_p _) ?_ | with_reducible refine callP_eq (rwild_p _ hf.name) ?_ | with_reducible refine callP1_eq (rwild_p _ hf.name) ?_ | with_reducible refine cY ?_ | with_reducible refine cN ?_ | with_reducible refine caseB_split (fun _=>?_) (fun _=>?_) | refine gA Tryz.func203 ?_ | refine gB ?_ | refine gC ?_ | with_reducible rfl)
 all_goals try simp only [List.length_map] at *
 all_goals try (simp only [Bool.not_eq_true',Bool.not_eq_false'] at *; simp only [*,Bool.false_and,Bool.and_false,Bool.true_and,Bool.not_true,Bool.not_false,Bool.and_true,Bool.and_self]; done)
 all_goals
  have hfin:∀ {a b c d e f:Bool},(!a)=false→(!b)=false→(!c)=false→(!d)=false→e=false→f=false→∀ g:Bool,(a&&b&&c&&d && !e && !f&&g)=g:=fun h1 h2 h3 h4 h5 h6 g=>by
   simp_all
  have hty:1≤s.type∧s.type≤8:=by simp_all
  have hl:s.data.length≤8:=by simp_all <;> omega
  rw [hfin (by assumption) (by assumption) (by assumption) (by assumption) (by simp_all <;> omega) (by simp_all) _];clear hfin;refine gO Tryz.func203 ?_;refine AWL.loop (κ:=Nat) ([2,4]++rg 56 33) (fun k=>[(4,.d (.int .i64 k))]) (fun _=>[]) (fun k=>k≤s.data.length∧dataB (ruleOf s.type.toNat) none s.data=dataB (ruleOf s.type.toNat) (prevD s.data k) (s.data.drop k)) (fun k=>s.data.length - k) 0 ⟨Nat.zero_le _,rfl⟩ ?_ ?_
  ·(conv=>whnf);repeat (first | exact trivial | (refine sI ?_; conv=>whnf))
  ·intro k hk IH;refine AWL.head E_ok Tryz.func203 2000 ?_;(conv=>whnf);refine caseB_split (fun h5=>?_) (fun h5=>?_)
   ·have hlt:k<s.data.length:=by simpa using h5
    obtain ⟨d,hd⟩:=some_of_lt hlt;have hnext:=dataB_next (r:=ruleOf s.type.toNat) hd;rw [← hk.2] at hnext;refine gO Tryz.func203 ?_;refine AWL.draw E_ok E_mixed 28 2000 (by kernel_rfl) ?_;(conv=>whnf);refine elemP_intro d.enc (by omega) (elem_map hd) rfl ?_;refine gD ?_
    with_reducible refine callP1_eq (rdatum_q _ d hty (hf.texts d (List.mem_of_getElem? hd))) ?_
    refine gD ?_;refine caseB_split (fun h6=>?_) (fun h6=>?_)
    ·refine gD ?_;refine gS ?_;refine gO Tryz.func203 ?_;refine caseB_true ?_;refine gO Tryz.func203 ?_;rw [Bool.not_eq_true'] at h6;rw [hnext,h6,Bool.false_and,Bool.false_and]
    ·rw [Bool.not_eq_false'] at h6;refine gD ?_;refine caseB_split (fun h7=>?_) (fun h7=>?_)
     ·have hk0:0<k:=by simpa using h7
      obtain ⟨e,he⟩:=some_of_lt (l:=s.data) (k:=k - 1) (by omega);have hw:IntKind.i64.wrap ((k:Int) - 1)=((k - 1:Nat):Int):=by rw [wrap64 (by omega) (by omega)]; omega
      have hpr:prevD s.data k=some e:=by simp [prevD,he]; omega
      refine gD ?_;rw [hw];refine elemP_intro e.enc (by omega) (elem_map he) rfl ?_;refine gD ?_;refine elemP_intro d.enc (by omega) (elem_map hd) rfl ?_;refine gD ?_
      with_reducible refine callP1_eq (rless_p _ _) ?_
      refine gD ?_;rw [lessD_cmp];refine gS ?_;refine gO Tryz.func203 ?_;refine caseB_split (fun h8=>?_) (fun h8=>?_)
      ·refine gO Tryz.func203 ?_;have:decide (cmpD e d<0)=false:=by simpa using h8
       rw [hnext,hpr]; dsimp only; rw [this,Bool.and_false,Bool.false_and]
      ·refine gO Tryz.func203 ?_;have:decide (cmpD e d<0)=true:=by simpa using h8
       refine AWL.back (IH (k+1) ⟨by omega,by rw [hnext,hpr]; dsimp only; rw [this,h6]; rfl⟩ (by omega)) ?_;(conv=>whnf);repeat (first | exact trivial | (refine sI ?_; conv=>whnf))
     ·have hk0:k=0:=by simp at h7; omega
      have hpr:prevD s.data k=none:=by simp [prevD,hk0]
      refine gD ?_;refine gS ?_;refine gO Tryz.func203 ?_;refine caseB_false ?_;refine gO Tryz.func203 ?_;refine AWL.back (IH (k+1) ⟨by omega,by rw [hnext,hpr,h6]; rfl⟩ (by omega)) ?_;(conv=>whnf);repeat (first | exact trivial | (refine sI ?_; conv=>whnf))
   ·have hge:s.data.length≤k:=by simpa using h5
    refine gO Tryz.func203 ?_;rw [hk.2,List.drop_of_length_le hge];rfl
end Go.Proofs.YthikfaephakahaaGreatDoor.P
end
section
namespace Go.Proofs.YthikfaephakahaaGreatDoor.P
open Go Go.Eng
set_option maxRecDepth 100000
set_option maxHeartbeats 4000000
def setA:RSet:=⟨[97,46,120],1,5,[⟨[],7,0⟩]⟩
def key3:Key:=⟨3,1⟩
theorem okA:signOK setA [120] key3 10 20=true:=by decide +kernel
end Go.Proofs.YthikfaephakahaaGreatDoor.P
end
