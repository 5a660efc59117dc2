/- Several texts of mine, one behind the other. Conditions: as each says. -/
import Derived.Test.YtcmnpelmmekdkaaGreatDoorY47
import Derived.Test.YtcmnpelmmekdkaaGreatDoorY48
set_option linter.unusedVariables false
set_option linter.unusedSimpArgs false
section
namespace Go.Proofs.YtcmnpelmmekdkaaGreatDoor.P
open Go Go.ax
set_option maxRecDepth 100000
set_option maxHeartbeats 4000000
theorem Jd {G:List (Nat × DV)} {s:List AV} {a:Array UInt8}:bp G s (.const (.string ⟨a⟩)) (.d (.str a.toList)):=fun c x _ _=>by
 have h:=VD.str (bad:=c.bad) (w:=c.w) a.toList;rw [Array.toArray_toList] at h;exact .d _ _ h
theorem A7 {w:ca} (hg:w.Good) (hf:p7 w=true):w.Fits∧w.aq.length≤20∧w.hints.length≤1000000∧∀ c∈w.aq,c.ay.Fits∧c.ay.mc∧c.ay.uL:=by
 simp only [p7,xN,Bool.and_eq_true,decide_eq_true_eq] at hf;obtain ⟨⟨h1,h2⟩,⟨⟨h3,h4⟩,h5⟩,h6⟩:=hf;rw [List.take_of_length_le (by omega)] at h1 h2;obtain ⟨g1,g2,g3,g4⟩:=hg;have hz:∀ c∈w.aq,c.ay.Fits∧c.ay.mc∧c.ay.uL:=fun c hc=>by
  have:=List.all_eq_true.1 h1 c hc;simp only [oX,Bool.and_eq_true] at this;exact Xm (g2.2 c hc).2 this.1
 exact ⟨⟨fun x hx=>(g1.2 x hx).1,⟨g3.1,by omega,fun d hd=>(g3.2.2.2.2 d hd).1⟩,g4.1,fun c hc=>(hz c hc).1⟩,h3,by omega,hz⟩
def xW (s:Text) (k:Int) (d:Datum):DV := .agg [.str s,.int .i64 k,.int .i64 9,.sl [d.enc],.a8]
theorem Je (s:Text) (k:Int) (d:Datum):aA E 66 [.str s,.int .i64 k,d.enc] (· = xW s k d):=by
 obtain ⟨x,y,z⟩:=d;show aA E _ [.str s,.int .i64 k,DV.agg [.str x,.int .i64 y,.int .i64 z]] _;refine eP Tryz.func66 ?_;rfl
theorem abg (s h:Text):aC E 67 [.cells [.d (.fn (.func 66))]] [.d (.str s),.d (.str h),.ptr 0 0] (fun a b=>a = .d (xW s 2 ⟨h,0,0⟩)∧b=[.cells [.d (.fn (.func 66))]]):=by
 have c1:=Je s 2 ⟨h,0,0⟩;apply aC.kG
 case hk=>rfl
 unfold xW at c1 ⊢;refine aC.run aj (fn:=Tryz.f67) Tryz.func67 (body:=Tryz.f67.body.getD .skip) rfl (by decide) 1 rfl ?_;(conv=>whnf);(conv=>whnf);repeat ((fail_if_success (first | (refine aa.DW rfl rfl (bh rfl) (pU (bh rfl) pT (bh rfl)) c1 ?_) | fail)); (refine aa.run aj Tryz.func67 1 ?_); (conv=>whnf))
 refine aa.DW rfl rfl (bh rfl) (pU (bh rfl) pT (bh rfl)) c1 ?_;(conv=>whnf);refine gO Tryz.func67 ?_;exact ⟨rfl,rfl⟩
theorem abh (s:Text):aC E 68 [.cells [.d (.fn (.func 66))]] [.d (.str s),.ptr 0 0] (fun a b=>a = .d (xW s 4 ⟨[],1,0⟩)∧b=[.cells [.d (.fn (.func 66))]]):=by
 have c1:=Je s 4 ⟨[],1,0⟩;apply aC.kG
 case hk=>rfl
 unfold xW at c1 ⊢;refine aC.run aj (fn:=Tryz.f68) Tryz.func68 (body:=Tryz.f68.body.getD .skip) rfl (by decide) 1 rfl ?_;(conv=>whnf);(conv=>whnf);repeat ((fail_if_success (first | (refine aa.DW rfl rfl (bh rfl) (pU (bh rfl) pT (bh rfl)) c1 ?_) | fail)); (refine aa.run aj Tryz.func68 1 ?_); (conv=>whnf))
 refine aa.DW rfl rfl (bh rfl) (pU (bh rfl) pT (bh rfl)) c1 ?_;(conv=>whnf);refine gO Tryz.func68 ?_;exact ⟨rfl,rfl⟩
def p9 (s:Text) (k:Int) (d:Datum):Signed:=⟨⟨s,k,9,[d]⟩,[]⟩
def gM:ca:=⟨[⟨[97,46,110,115],1,0⟩,⟨[104,46,121],2,5⟩,⟨[103,46,121],3,4⟩,⟨[105],4,9⟩],
 [⟨0, ⟨[46], [p9 [46] 2 ⟨[97, 46, 110, 115], 0, 0⟩, p9 [46] 4 ⟨[], 1, 0⟩, p9 [120] 2 ⟨[104, 46, 121], 0, 0⟩, p9 [121] 2 ⟨[103, 46, 121], 0, 0⟩]⟩⟩,
  ⟨1, ⟨[120], [p9 [120] 2 ⟨[104, 46, 121], 0, 0⟩, p9 [120] 4 ⟨[], 1, 0⟩, p9 [108, 46, 120] 3 ⟨[116, 46, 120], 0, 0⟩, p9 [116, 46, 120] 1 ⟨[], 7, 0⟩]⟩⟩,
  ⟨2, ⟨[121], [p9 [121] 2 ⟨[103, 46, 121], 0, 0⟩, p9 [121] 4 ⟨[], 1, 0⟩]⟩⟩],
 ⟨[46],6,0,[⟨[],1,1⟩]⟩,[1]⟩
theorem abi:aA E 29 [] (· = gM.enc):=by
 have c1:=abg;have c2:=abh;have c3:=Je;unfold xW at c1 c2 c3;refine aA.kF ?_;refine aA.run aj (fn:=Tryz.f29) Tryz.func29 (body:=Tryz.f29.body.getD .skip) rfl (by decide) 1 ?_;(conv=>whnf);(conv=>whnf);repeat ((fail_if_success (first | (refine aa.QO (b:=1) (off:=0) rfl rfl ?_) | fail)); (refine aa.run aj Tryz.func29 1 ?_); (conv=>whnf))
 refine aa.QO (b:=1) (off:=0) rfl rfl ?_;(conv=>whnf);refine gO Tryz.func29 ?_
 with_reducible refine bR (c1 [46] [97,46,110,115]) ?_
 refine gO Tryz.func29 ?_
 with_reducible refine bR (c2 [46]) ?_
 refine gO Tryz.func29 ?_
 with_reducible refine bR (c1 [120] [104,46,121]) ?_
 refine gO Tryz.func29 ?_
 with_reducible refine bR (c1 [121] [103,46,121]) ?_
 refine gO Tryz.func29 ?_;refine aa.Lm aj bW 12 2000 (by kernel_rfl) ?_;(conv=>whnf);refine cb.jW (ah:=[1]) (c1 [120] [104,46,121]) rfl rfl (bh rfl) (mg Jd Jd) (by decide) (by simp) rfl rfl rfl ?_;refine gD ?_;refine cb.jW (ah:=[1]) (c2 [120]) rfl rfl (bh rfl) (jY Jd) (by decide) (by simp) rfl rfl rfl ?_;refine gD ?_;refine bg (c3 [108,46,120] 3 ⟨[116,46,120],0,0⟩) ?_;refine gD ?_;refine bg (c3 [116,46,120] 1 ⟨[],7,0⟩) ?_;refine gD ?_;refine gS ?_;refine gO Tryz.func29 ?_
 with_reducible refine bR (c1 [121] [103,46,121]) ?_
 refine gO Tryz.func29 ?_
 with_reducible refine bR (c2 [121]) ?_
 refine gO Tryz.func29 ?_;kernel_rfl
theorem abj:gM.Fits:=by
 exact ⟨by decide,⟨by decide,by decide,by decide⟩,by decide,fun p hp=>by
  have h:∀ p∈gM.aq,p.ay.ab.length≤100∧∀ s∈p.ay.af,s.set.name.length≤100∧s.set.data.length≤100∧∀ d∈s.set.data,d.text.length≤100:=by decide
  obtain ⟨h1,h2⟩:=h p hp;refine ⟨Nat.le_trans h1 (by decide),fun s hs=>?_⟩;obtain ⟨h3,h4,h5⟩:=h2 s hs
  exact ⟨Nat.le_trans h3 (by decide),by omega,fun d hd=>Nat.le_trans (h5 d hd) (by decide)⟩⟩
theorem abk:ke gM [116,46,120]=[[46],[120],[121]]:=by kernel_rfl
theorem abl:ke gM [113,46,121]=[[46],[121]]:=by kernel_rfl
theorem QP:kL gM [116,46,120]=0:=by kernel_rfl
theorem abm:kL gM [113,46,121]=0:=by kernel_rfl
theorem abn:kL gM [113]=0:=by kernel_rfl
theorem abo:vz gM [116,46,120]=[0,4,5]:=by kernel_rfl
theorem abp:vz gM [113]=[0]:=by kernel_rfl
theorem abq:jd gM [116,46,120] [121]=([⟨[120],2⟩],0):=by kernel_rfl
theorem abr:jd gM [116,46,120] [120]=([],0):=by kernel_rfl
theorem abt:jd gM [108,46,120] [121]=([⟨[120],2⟩],0):=by kernel_rfl
theorem abu:jd gM [113,46,121] [120]=([],4):=by kernel_rfl
theorem DX:aA E 9 [] (· = .bool true):=by
 have hf:=abj;have b1:([116,46,120]:Text).length≤maxLen:=by decide
 have b2:([113,46,121]:Text).length≤maxLen:=by decide
 have b3:([113]:Text).length≤maxLen:=by decide
 have b4:([108,46,120]:Text).length≤maxLen:=by decide
 have b5:([121]:Text).length≤maxLen:=by decide
 have b6:([120]:Text).length≤maxLen:=by decide
 have c1:=I8 gM [116,46,120] hf b1;have c2:=I8 gM [113,46,121] hf b2;have c3:=Jb gM [116,46,120] hf b1;have c4:=Jb gM [113] hf b3;have c5:=A6 gM [116,46,120] [121] hf b1 b5;have c6:=A6 gM [116,46,120] [120] hf b1 b6;have c7:=A6 gM [108,46,120] [121] hf b4 b5;have c8:=A6 gM [113,46,121] [120] hf b2 b6;rw [abk,QP] at c1;rw [abl,abm] at c2;rw [abo,QP] at c3;rw [abp,abn] at c4;rw [abq] at c5;rw [abr] at c6;rw [abt] at c7;rw [abu] at c8;have d1:=H9 [[46],[120],[121]] [[46],[120],[121]] (by decide);have d2:=H9 [[46],[121]] [[46],[121]] (by decide);have d3:=ZB [⟨[120],2⟩] [⟨[120],2⟩] (by decide);have c0:=abi;generalize gM=w at *;refine eP Tryz.func9 ?_;refine ar (c0) ?_;refine gO Tryz.func9 ?_;refine ar (c1) ?_;refine gO Tryz.func9 ?_;refine ar (c2) ?_;refine gO Tryz.func9 ?_;refine ar (c3) ?_;refine gO Tryz.func9 ?_;refine ar (c4) ?_;refine gO Tryz.func9 ?_;refine ar (c5) ?_;refine gO Tryz.func9 ?_;refine ar (c6) ?_;refine gO Tryz.func9 ?_;refine ar (c7) ?_;refine gO Tryz.func9 ?_;refine ar (c8) ?_;refine gO Tryz.func9 ?_;refine aM (by decide) ?_;refine gO Tryz.func9 ?_;refine aM (by decide) ?_;refine gO Tryz.func9 ?_;refine aM (by decide) ?_;refine gO Tryz.func9 ?_;refine aM (by decide) ?_;refine gO Tryz.func9 ?_;refine aM (by decide) ?_;refine gO Tryz.func9 ?_;refine aM (by decide) ?_;refine gO Tryz.func9 ?_;refine aM (by decide) ?_;refine gO Tryz.func9 ?_;refine aM (by decide) ?_;refine gO Tryz.func9 ?_;refine ar (d1) ?_;refine gO Tryz.func9 ?_;refine aM (by decide) ?_;refine gO Tryz.func9 ?_;refine ar (d2) ?_;refine gO Tryz.func9 ?_;refine aM (by decide) ?_;refine gO Tryz.func9 ?_;refine aM (by decide) ?_;refine gO Tryz.func9 ?_;refine aF (e := .int .i64 0) ⟨by decide,rfl⟩ rfl ?_;refine gO Tryz.func9 ?_;refine aM (by decide) ?_;refine gO Tryz.func9 ?_;refine aF (e := .int .i64 4) ⟨by decide,rfl⟩ rfl ?_;refine gO Tryz.func9 ?_;refine aM (by decide) ?_;refine gO Tryz.func9 ?_;refine aF (e := .int .i64 5) ⟨by decide,rfl⟩ rfl ?_;refine gO Tryz.func9 ?_;refine aM (by decide) ?_;refine gO Tryz.func9 ?_;refine aM (by decide) ?_;refine gO Tryz.func9 ?_;refine aF (e := .int .i64 0) ⟨by decide,rfl⟩ rfl ?_;refine gO Tryz.func9 ?_;refine aM (by decide) ?_;refine gO Tryz.func9 ?_;refine ar (d3) ?_;refine gO Tryz.func9 ?_;refine aM (by decide) ?_;refine gO Tryz.func9 ?_;refine aM (by decide) ?_;refine gO Tryz.func9 ?_;refine ar (d3) ?_;refine gO Tryz.func9 ?_;simp
theorem DY (w:ca) (s:Text) (hg:w.Good) (hs:s.length≤maxLen):aA E 19 [w.enc,.str s] (· = .bool ((p7 w&&dn w)&&Nm.valid s)):=by
 have c1:=aba w;have c2:=fY s hs;cases h1:p7 w
 ·rw [h1] at c1;refine eP Tryz.func19 ?_;refine ar (c1) ?_;refine gO Tryz.func19 ?_;refine ba ?_;refine gO Tryz.func19 ?_;refine ba ?_;refine gO Tryz.func19 ?_;rfl
 obtain ⟨hf,hk,hh,-⟩:=A7 hg h1;have c3:=Zp w hf hh;rw [h1] at c1;cases h2:dn w
 ·rw [h2] at c3;refine eP Tryz.func19 ?_;refine ar (c1) ?_;refine gO Tryz.func19 ?_;refine bq ?_;refine gO Tryz.func19 ?_;refine ar (c3) ?_;refine gO Tryz.func19 ?_;refine ba ?_;refine gO Tryz.func19 ?_;rfl
 rw [h2] at c3;refine eP Tryz.func19 ?_;refine ar (c1) ?_;refine gO Tryz.func19 ?_;refine bq ?_;refine gO Tryz.func19 ?_;refine ar (c3) ?_;refine gO Tryz.func19 ?_;refine bq ?_;refine gO Tryz.func19 ?_;refine ar (c2) ?_;refine gO Tryz.func19 ?_;rfl
end Go.Proofs.YtcmnpelmmekdkaaGreatDoor.P
end
section
namespace Go.Proofs.YtcmnpelmmekdkaaGreatDoor.P
open Go Go.ax
set_option maxRecDepth 100000
set_option maxHeartbeats 4000000
theorem abv {L:List Text} {n:Int} {r:DV} (h:r = .aL [AS L,.int .i64 n]):norm r = .aL [.sl (L.map .str),.int .i64 n]:=by
 subst h;unfold AS;split
 ·rename_i e; subst e; rfl
 ·rfl
theorem xX (w:ca) (s:Text) (hf:w.Fits) (iU:s.length≤maxLen):aA E 11 [w.enc,.str s] (· = .aL [.sl ((ke w s).map .str),.int .i64 (kL w s)]):=aA.norm ((I8 w s hf iU).mono fun _ h=>abv h)
theorem QQ {l:List aB} {s:Text} (H:dW l) (hl:l.length≤20):(cB l s).length≤1000000:=by
 rw [cB,← P4];refine Nat.le_trans (P7 fun z hz=>(P6 H (s:=s) (i:=(dM l s).length) z (by rw [List.take_length]; exact hz)).1) ?_;have:(l.flatMap fun p=>p.ay.af.map fun s=>s.set.name).length≤l.length*20000:=AT fun p hp=>by simp; exact (lv (H p hp)).len
 have:=Nat.mul_le_mul_right 20000 hl;simp only [tc,List.length_cons];omega
theorem DZ {w:ca} {s:Text} (hl:w.aq.length≤20):(ke w s).length≤1000000:=by
 unfold ke;split
 ·rename_i h;simp only [Bool.and_eq_true] at h;exact QQ (mj h.1).1 hl
 ·simp
theorem abw {J:ka} {s:Text} {R:List bK} (H:ev J s R []):∀ (i:Nat) (v:bK),R[i]? = some v→v.list.length≤i:=by
 intro i
 induction i using Nat.strongRecOn with
 |ind i ih =>
  intro v h;rcases H.back h with ⟨-,h2⟩ | ⟨b,u,-,h2,h4,h8⟩
  ·rw [h2]; simp
  ·have:=ih b h2 u h4;rw [h8]; simp; omega
theorem abx {w:ca} {s z:Text}:(jd w s z).1.length≤2147483648:=by
 unfold jd;split
 case isFalse=>simp
 rename_i h;simp only [Bool.and_eq_true] at h;obtain ⟨H,hl⟩:=mj h.1;split
 ·rename_i v hv;obtain ⟨i,hi⟩:=List.getElem?_of_mem (List.mem_of_find?_eq_some hv);have h1:=abw (lB H s) i v hi;have h2:=aZ hi;have h3:=AG H s;have h4:=DJ H hl;simp only;omega
 ·simp
end Go.Proofs.YtcmnpelmmekdkaaGreatDoor.P
end
