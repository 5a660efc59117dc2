/- Several texts of mine, one behind the other. Conditions: as each says. -/
import Derived.Test.YtcmnpelmmekdkaaGreatDoorY27
import Derived.Test.YtcmnpelmmekdkaaGreatDoorY29
set_option linter.unusedVariables false
set_option linter.unusedSimpArgs false
section
namespace Go.Proofs.YtcmnpelmmekdkaaGreatDoor.P
open Go Go.ax
set_option maxRecDepth 100000
set_option maxHeartbeats 4000000
structure ca.Fits (w:ca):Prop where
 cd:∀ x∈w.cd,x.name.length≤maxLen
 anchor:w.anchor.Fits
 hints:w.hints.length≤maxLen
 aq:∀ p∈w.aq,p.ay.Fits
theorem xO {l:List aB} {n:Nat} (h:l.all (kb n)=false):kJ n l=false:=by simp [kJ,h]
theorem Zm {l:List aB} {k:Nat} {x:aB} (h:l[k]? = some x):(l.take (k+1)).map (·.ay.ab)=(l.take k).map (·.ay.ab)++[x.ay.ab]:=by rw [eI h,List.map_append]; rfl
theorem Zn (l:List aB):(fq DV.str (l.map (·.ay.ab))).length=DD l:=by
 have:=PJ rC (l.map (·.ay.ab)) _ (Nat.le_refl _)
 rwa [List.take_length] at this
theorem PN (cd:List Host) (l:List aB) (a:eu) (hints:List Int) (hz:∀ p∈l,p.ay.Fits):aA E 70 [DV.agg [.sl (cd.map Host.enc),.sl (l.map aB.enc),.str a.name,.int .i64 a.type,.int .i64 a.gy,.sl (a.data.map Datum.enc),.sl (hints.map (.int .i64))]] (· = .bool (kJ cd.length l)):=by
 refine eP Tryz.func70 ?_;refine aw (fun h1=>?_) (fun h1=>?_)
 ·refine gO Tryz.func70 ?_;have:kJ cd.length l=false:=by simp [kJ]; simp at h1; omega
  rw [this]
 have hlen:l.length≤4000:=by simp at h1; omega
 refine gO Tryz.func70 ?_;refine gO Tryz.func70 ?_;refine gO Tryz.func70 ?_;refine aa.loop (κ:=Nat) ([2,6,7]++rg 17 39) (fun k=>[(17,.d (.int .i64 k)),(2,.d (.bool false)),(3,.map 1),(4,.map 2)]) (fun k=>[(1,.map (fq pS.en ((l.take k).map aB.spot))),(2,.map (fq DV.str ((l.take k).map (·.ay.ab))))]) (fun k=>k≤l.length∧(l.take k).all (kb cd.length)=true∧((l.take k).map aB.spot).Nodup) (fun k=>l.length - k) 0 ⟨Nat.zero_le _,rfl,by simp⟩ ?_ ?_
 ·(conv=>whnf);repeat (first | exact trivial | (refine sI ?_; conv=>whnf))
  refine And.intro rfl ?_;(conv=>whnf);repeat (first | exact trivial | (refine sI ?_; conv=>whnf))
  refine And.intro rfl ?_;exact sZ
 rintro i ⟨hi,aT,fm⟩ IH;refine aa.head aj Tryz.func70 2000 ?_;(conv=>whnf);refine aw (fun h5=>?_) (fun h5=>?_)
 ·have ai:i<l.length:=by simpa using h5
  obtain ⟨x,hx⟩:=aY ai;have mi:=hz x (List.mem_of_getElem? hx);have mT:=(pR OL ((l.take i).map aB.spot)).1;have Zo:=(pR rC ((l.take i).map (·.ay.ab))).1;obtain ⟨mG,s9⟩:=Ar OL ((l.take i).map aB.spot) x.spot;refine gO Tryz.func70 ?_;refine aF (e:=x.enc) (a7 hx) rfl ?_;refine gO Tryz.func70 ?_;refine aw (fun h6=>?_) (fun h6=>?_)
  ·repeat' (first | with_reducible refine cY ?_ | with_reducible refine cN ?_ | with_reducible refine aw (fun _=>?_) (fun _=>?_) | refine gA Tryz.func70 ?_ | refine gB ?_ | refine gC ?_ | with_reducible rfl)
   rw [xO (iI hx (by simp [kb]; simp at h6; omega))]
  refine gO Tryz.func70 ?_;refine aw (fun h7=>?_) (fun h7=>?_)
  ·repeat' (first | with_reducible refine cY ?_ | with_reducible refine cN ?_ | with_reducible refine aw (fun _=>?_) (fun _=>?_) | refine gA Tryz.func70 ?_ | refine gB ?_ | refine gC ?_ | with_reducible rfl)
   rw [xO (iI hx (by simp [kb]; simp at h7; omega))]
  refine gO Tryz.func70 ?_;refine iR (.bool false) (.bool false) ⟨_,rfl,rfl,⟨_,rfl,_,rfl⟩,rfl,⟨_,rfl,_,rfl⟩,trivial⟩ (PH mT) (fun w=>by kernel_rfl) (fun _ _ => .bool _) mG s9 ?_;refine gO Tryz.func70 ?_;refine aw (fun h8=>?_) (fun h8=>?_)
  ·repeat' (first | with_reducible refine cY ?_ | with_reducible refine cN ?_ | with_reducible refine aw (fun _=>?_) (fun _=>?_) | refine gA Tryz.func70 ?_ | refine gB ?_ | refine gC ?_ | with_reducible rfl)
   have:=PF hx (by simpa using h8);simp [kJ,this]
  refine gO Tryz.func70 ?_
  with_reducible refine ar (Ha x.ay mi) ?_
  refine gO Tryz.func70 ?_;cases AM:eV x.ay
  ·repeat' (first | with_reducible refine cY ?_ | with_reducible refine cN ?_ | with_reducible refine aw (fun _=>?_) (fun _=>?_) | refine gA Tryz.func70 ?_ | refine gB ?_ | refine gC ?_ | with_reducible rfl)
   rw [xO (iI hx (by simp [kb,AM]))]
  refine ba ?_;refine gO Tryz.func70 ?_;have aK:kb cd.length x=true:=by simp [kb,AM]; simp at h6 h7; omega
  refine bQ ⟨⟨_,rfl,rfl,⟨_,rfl,_,rfl⟩,rfl,⟨_,rfl,_,rfl⟩,trivial⟩,PH mT⟩ ?_;refine gO Tryz.func70 ?_;refine bQ ⟨⟨_,rfl⟩,Zo⟩ ?_;refine gO Tryz.func70 ?_;refine aa.back (IH (i+1) ⟨by omega,jx aT hx aK,PG hx fm (by simpa using h8)⟩ (by omega)) ?_;rw [PE hx,xC,Zm hx,xC];(conv=>whnf);repeat (first | exact trivial | (refine sI ?_; conv=>whnf))
  refine And.intro rfl ?_;exact sZ
 ·have aP:l.length≤i:=by simpa using h5
  rw [List.take_of_length_le aP] at aT fm ⊢;refine gO Tryz.func70 ?_;refine gO Tryz.func70 ?_;have:=Zn l;rw [this];simp [kJ,aT,fm,hlen];omega
theorem DF (w:ca) (hf:w.Fits):aA E 31 [w.enc] (· = .bool (dn w)):=by
 obtain ⟨cd,aq,anchor,hints⟩:=w;obtain ⟨f1,f2,f3,f4⟩:=hf;simp only at f1 f2 f3 f4;show aA E _ [DV.agg [.sl (cd.map Host.enc),.sl (aq.map aB.enc),.str anchor.name,.int .i64 anchor.type,.int .i64 anchor.gy,.sl (anchor.data.map Datum.enc),.sl (hints.map (.int .i64))]] _;refine eP Tryz.func31 ?_;repeat' (first | with_reducible refine ar (OF cd f1) ?_ | with_reducible refine bg (OF cd f1) ?_ | with_reducible refine ar (PN cd aq anchor hints f4) ?_ | with_reducible refine bg (PN cd aq anchor hints f4) ?_ | with_reducible refine ar (OG anchor hints f2 f3) ?_ | with_reducible refine bg (OG anchor hints f2 f3) ?_ | with_reducible refine cY ?_ | with_reducible refine cN ?_ | with_reducible refine aw (fun _=>?_) (fun _=>?_) | refine gA Tryz.func31 ?_ | refine gB ?_ | refine gC ?_ | with_reducible rfl)
 all_goals simp_all [dn]
theorem Zp (w:ca) (hf:w.Fits) (hh:w.hints.length≤1000000):aA E 37 [w.enc] (· = .bool (dn w)):=by
 obtain ⟨cd,l,anchor,hints⟩:=w;obtain ⟨f1,f2,f3,hz⟩:=hf;simp only at f1 f2 f3 hz hh;show aA E _ [DV.agg [.sl (cd.map Host.enc),.sl (l.map aB.enc),.str anchor.name,.int .i64 anchor.type,.int .i64 anchor.gy,.sl (anchor.data.map Datum.enc),.sl (hints.map (.int .i64))]] _;have hw:dn ⟨cd,l,anchor,hints⟩=(jb cd&&kJ cd.length l&&nS anchor hints):=rfl;rw [hw];refine eP Tryz.func37 ?_
 with_reducible refine ar (Za cd f1) ?_
 refine gO Tryz.func37 ?_;cases h1:jb cd
 ·repeat' (first | with_reducible refine cY ?_ | with_reducible refine cN ?_ | with_reducible refine aw (fun _=>?_) (fun _=>?_) | refine gA Tryz.func37 ?_ | refine gB ?_ | refine gC ?_ | with_reducible rfl)
  all_goals simp
 refine ba ?_;refine gO Tryz.func37 ?_;refine aw (fun h2=>?_) (fun h2=>?_)
 ·repeat' (first | with_reducible refine cY ?_ | with_reducible refine cN ?_ | with_reducible refine aw (fun _=>?_) (fun _=>?_) | refine gA Tryz.func37 ?_ | refine gB ?_ | refine gC ?_ | with_reducible rfl)
  have:kJ cd.length l=false:=by simp [kJ]; simp at h2; omega
  simp [this]
 have hlen:l.length≤4000:=by simp at h2; omega
 refine gO Tryz.func37 ?_
 with_reducible refine ar (Zb anchor hints f2 hh) ?_
 refine gO Tryz.func37 ?_;cases h3:nS anchor hints
 ·repeat' (first | with_reducible refine cY ?_ | with_reducible refine cN ?_ | with_reducible refine aw (fun _=>?_) (fun _=>?_) | refine gA Tryz.func37 ?_ | refine gB ?_ | refine gC ?_ | with_reducible rfl)
  all_goals simp
 refine ba ?_;refine gO Tryz.func37 ?_;rw [Bool.true_and,Bool.and_true];refine aa.loop (κ:=Nat) (rg 2 5++rg 25 57) (fun k=>[(3,.d (.int .i64 k)),(2,.d (.bool false))]) (fun _=>[]) (fun k=>k≤l.length∧(l.take k).all (kb cd.length)=true∧((l.take k).map aB.spot).Nodup) (fun k=>l.length - k) 0 ⟨Nat.zero_le _,rfl,by simp⟩ ?_ ?_
 ·exact sZ
 rintro i ⟨hi,aT,fm⟩ IH;refine aa.head aj Tryz.func37 2000 ?_;(conv=>whnf);refine aw (fun h5=>?_) (fun h5=>?_)
 ·have ai:i<l.length:=by simpa using h5
  obtain ⟨x,hx⟩:=aY ai;have mi:=hz x (List.mem_of_getElem? hx);refine gO Tryz.func37 ?_;refine aF (e:=x.enc) (a7 hx) rfl ?_;refine gO Tryz.func37 ?_
  with_reducible refine ar (VP x.ay mi) ?_
  refine gO Tryz.func37 ?_;cases AM:eV x.ay
  ·repeat' (first | with_reducible refine cY ?_ | with_reducible refine cN ?_ | with_reducible refine aw (fun _=>?_) (fun _=>?_) | refine gA Tryz.func37 ?_ | refine gB ?_ | refine gC ?_ | with_reducible rfl)
   rw [xO (iI hx (by simp [kb,AM]))]
  refine ba ?_;refine gO Tryz.func37 ?_;refine aw (fun h6=>?_) (fun h6=>?_)
  ·repeat' (first | with_reducible refine cY ?_ | with_reducible refine cN ?_ | with_reducible refine aw (fun _=>?_) (fun _=>?_) | refine gA Tryz.func37 ?_ | refine gB ?_ | refine gC ?_ | with_reducible rfl)
   rw [xO (iI hx (by simp [kb]; simp at h6; omega))]
  refine gO Tryz.func37 ?_;refine aw (fun h7=>?_) (fun h7=>?_)
  ·repeat' (first | with_reducible refine cY ?_ | with_reducible refine cN ?_ | with_reducible refine aw (fun _=>?_) (fun _=>?_) | refine gA Tryz.func37 ?_ | refine gB ?_ | refine gC ?_ | with_reducible rfl)
   rw [xO (iI hx (by simp [kb]; simp at h7; omega))]
  have aK:kb cd.length x=true:=by simp [kb,AM]; simp at h6 h7; omega
  refine gO Tryz.func37 ?_;refine aa.loop (κ:=Nat) ([2,6]++rg 55 27) (fun k=>[(6,.d (.int .i64 k)),(2,.d (.bool false))]) (fun _=>[]) (fun k=>k≤i∧∀ m y,m<k→l[m]? = some y→y.spot≠x.spot) (fun k=>i - k) 0 ⟨Nat.zero_le _,fun m y h=>by omega⟩ ?_ ?_
  ·exact sZ
  rintro k ⟨hk,aJ⟩ xc;refine aa.head aj Tryz.func37 2000 ?_;(conv=>whnf);refine aw (fun h9=>?_) (fun h9=>?_)
  ·have gX:k<i:=by simpa using h9
   obtain ⟨y,hy⟩:=aY (l:=l) (k:=k) (by omega);refine gO Tryz.func37 ?_;refine aa.draw aj bW 22 2000 (by kernel_rfl) ?_;(conv=>whnf);refine aF (e:=y.enc) (a7 hy) rfl ?_;refine gD ?_;refine aw (fun Iy=>?_) (fun Iy=>?_)
   ·have e1:y.host=x.host:=by simpa using Iy
    refine gD ?_;refine aF (e:=y.enc) (a7 hy) rfl ?_;refine gD ?_;refine gS ?_;refine gO Tryz.func37 ?_;refine aw (fun Iz=>?_) (fun Iz=>?_)
    ·refine gO Tryz.func37 ?_;have e2:y.ay.ab=x.ay.ab:=by simpa using Iz
     have hm:x.spot∈(l.take i).map aB.spot:=List.mem_map.2 ⟨y,List.mem_of_getElem? (i:=k) (by rw [List.getElem?_take,if_pos gX]; exact hy),by simp [aB.spot,e1,e2]⟩;have:=PF hx hm;simp [kJ,this]
    ·have e2:y.ay.ab≠x.ay.ab:=by simpa using Iz
     refine gO Tryz.func37 ?_;refine aa.back (xc (k+1) ⟨by omega,fun m z hm gg=>?_⟩ (by omega)) ?_
     ·by_cases sX:m=k
      ·subst sX; rw [hy] at gg; cases gg; exact fun e=>e2 (congrArg Prod.snd e)
      ·exact aJ m z (by omega) gg
     ·exact sZ
   ·have e1:y.host≠x.host:=by simpa using Iy
    refine gD ?_;refine gS ?_;refine gO Tryz.func37 ?_;refine ba ?_;refine gO Tryz.func37 ?_;refine aa.back (xc (k+1) ⟨by omega,fun m z hm gg=>?_⟩ (by omega)) ?_
    ·by_cases sX:m=k
     ·subst sX; rw [hy] at gg; cases gg; exact fun e=>e1 (congrArg Prod.fst e)
     ·exact aJ m z (by omega) gg
    ·exact sZ
  ·have Iv:i≤k:=by simpa using h9
   refine gO Tryz.func37 ?_;refine aa.back (IH (i+1) ⟨by omega,jx aT hx aK,PG hx fm (fun hm=>?_)⟩ (by omega)) ?_
   ·obtain ⟨y,hy,e⟩:=List.mem_map.1 hm;obtain ⟨m,hm⟩:=List.getElem?_of_mem hy;rw [List.getElem?_take] at hm;split at hm
    ·exact aJ m y (by omega) hm e
    ·cases hm
   ·exact sZ
 ·have aP:l.length≤i:=by simpa using h5
  rw [List.take_of_length_le aP] at aT fm;refine gO Tryz.func37 ?_
  with_reducible refine ar (Zh l (by omega)) ?_
  refine gO Tryz.func37 ?_;simp [kJ,aT,fm,hlen,DD];rw [Bool.eq_iff_iff];simp;exact ⟨fun h=>decide_eq_true (by omega),fun h=>by have:=of_decide_eq_true h; omega⟩
end Go.Proofs.YtcmnpelmmekdkaaGreatDoor.P
end
section
namespace Go.Proofs.YtcmnpelmmekdkaaGreatDoor.P
open Go Go.ax
set_option maxRecDepth 100000
set_option maxHeartbeats 4000000
@[reducible] def fM (v : bK) : DV := .agg [.str v.name, .a8, .int .i64 v.before, .str v.bH.name, .int .i64 v.bH.type]
theorem aaF {b g k cp:Nat} {l m:List DV} (hk:k≤l.length):∃ k' q' l',xL b g l m k cp = .cut b (g+1) k' q'∧xK l m k cp=l'∧l'.drop k'=l.drop k++m∧k'≤l'.length∧l'.length≤l.length+m.length:=by
 unfold xL xK;by_cases h:l.length+m.length≤cp
 ·rw [if_pos h,if_pos h];exact ⟨k,some cp,_,rfl,rfl,by rw [List.drop_append_of_le_length hk],by simp; omega,by simp⟩
 ·rw [if_neg h,if_neg h];exact ⟨0,none,_,rfl,rfl,by simp,by simp,by simp⟩
theorem aaG (v:bK):aC E 84 [.cells [.d .a8]] [.ptr 0 0,.d (fM v)] (fun a b=>a = .aL []∧b=[.cells [.own 2 1],.cells [.d (.str v.name),.d .a8,.d (.int .i64 v.before),.d (.str v.bH.name),.d (.int .i64 v.bH.type)],.arr 1 (96,5) [fM v]]):=by
 refine aC.run aj (fn:=Tryz.f84) Tryz.func84 (body:=Tryz.f84.body.getD .skip) rfl (by decide) 2000 rfl ?_;(conv=>whnf);refine aa.P1 aj bW [0,1,2,3,5,6,8,9] (fun h=>h∈[[.cells [.d .a8],.cells [.d (.str v.name),.d .a8,.d (.int .i64 v.before),.d (.str v.bH.name),.d (.int .i64 v.bH.type)]],[.cells [.d .a8],.cells [.d (.str v.name),.d .a8,.d (.int .i64 v.before),.d (.str v.bH.name),.d (.int .i64 v.bH.type)],.arr 1 (96,5) [fM v]],[.cells [.own 2 1],.cells [.d (.str v.name),.d .a8,.d (.int .i64 v.before),.d (.str v.bH.name),.d (.int .i64 v.bH.type)],.arr 1 (96,5) [fM v]]]) (by kernel_rfl) (by simp) ?_;refine dv.float (.ptr 0 0) rfl rfl (fun h' hh=>?_) ?_
 ·simp only [List.mem_cons,List.not_mem_nil,or_false] at hh;rcases hh with rfl | rfl | rfl <;> (refine aQ.run aj ?_; (conv=>whnf); exact ⟨rfl,rfl⟩)
 refine dv.float (.ptr 0 0) rfl rfl (fun h' hh=>?_) ?_
 ·simp only [List.mem_cons,List.not_mem_nil,or_false] at hh;rcases hh with rfl | rfl | rfl <;> (refine aQ.run aj ?_; (conv=>whnf); exact ⟨rfl,rfl⟩)
 refine dv.float (.ptr 0 0) rfl rfl (fun h' hh=>?_) ?_
 ·simp only [List.mem_cons,List.not_mem_nil,or_false] at hh;rcases hh with rfl | rfl | rfl <;> (refine aQ.run aj ?_; (conv=>whnf); exact ⟨rfl,rfl⟩)
 refine dv.float (.ptr 0 0) rfl rfl (fun h' hh=>?_) ?_
 ·simp only [List.mem_cons,List.not_mem_nil,or_false] at hh;rcases hh with rfl | rfl | rfl <;> (refine aQ.run aj ?_; (conv=>whnf); exact ⟨rfl,rfl⟩)
 refine dv.op (.d .a8) ([.cells [.d .a8],.cells [.d (.str v.name),.d .a8,.d (.int .i64 v.before),.d (.str v.bH.name),.d (.int .i64 v.bH.type)]]) rfl rfl ?_ (by simp) ?_
 ·refine aQ.run aj ?_;(conv=>whnf);exact ⟨rfl,rfl⟩
 refine dv.float (.d (fM v)) rfl rfl (fun h' hh=>?_) ?_
 ·simp only [List.mem_cons,List.not_mem_nil,or_false] at hh;rcases hh with rfl | rfl | rfl <;> (refine aQ.run aj ?_; (conv=>whnf); exact ⟨rfl,rfl⟩)
 refine dv.float (.d (.sl [fM v])) rfl rfl (fun h' hh=>?_) ?_
 ·simp only [List.mem_cons,List.not_mem_nil,or_false] at hh;rcases hh with rfl | rfl | rfl <;> (refine aQ.run aj ?_; (conv=>whnf); exact ⟨rfl,rfl⟩)
 refine dv.op (.own 2 1) ([.cells [.d .a8],.cells [.d (.str v.name),.d .a8,.d (.int .i64 v.before),.d (.str v.bH.name),.d (.int .i64 v.bH.type)],.arr 1 (96,5) [fM v]]) rfl rfl ?_ (by simp) ?_
 ·refine aQ.run aj ?_;(conv=>whnf);refine bQ ⟨by simp,by simp [DV.cells]⟩ ?_;(conv=>whnf);exact ⟨rfl,rfl⟩
 refine dv.float (.ptr 0 0) rfl rfl (fun h' hh=>?_) ?_
 ·simp only [List.mem_cons,List.not_mem_nil,or_false] at hh;rcases hh with rfl | rfl | rfl <;> (refine aQ.run aj ?_; (conv=>whnf); exact ⟨rfl,rfl⟩)
 refine dv.float (.ptr 0 0) rfl rfl (fun h' hh=>?_) ?_
 ·simp only [List.mem_cons,List.not_mem_nil,or_false] at hh;rcases hh with rfl | rfl | rfl <;> (refine aQ.run aj ?_; (conv=>whnf); exact ⟨rfl,rfl⟩)
 refine dv.op (.d .undef) ([.cells [.own 2 1],.cells [.d (.str v.name),.d .a8,.d (.int .i64 v.before),.d (.str v.bH.name),.d (.int .i64 v.bH.type)],.arr 1 (96,5) [fM v]]) rfl rfl ?_ (by simp) ?_
 ·refine aQ.run aj ?_;(conv=>whnf);exact ⟨rfl,rfl⟩
 refine dv.fin ?_;refine gO Tryz.func84 ?_;exact ⟨rfl,rfl⟩
theorem aaH (v:bK) (k:Nat) (q:Option Nat) (l:List DV) (hl:l.length≤2147483647):aC E 84 [.cells [.cut 1 0 k q],.arr 0 (96,5) l] [.ptr 0 0,.d (fM v)] (fun a b=>∃ k' q' l',(l'.drop k'=l.drop k++[fM v]∧k'≤l'.length∧l'.length≤l.length+1)∧a = .aL []∧b=[.cells [.cut 1 1 k' q'],.arr 1 (96,5) l',.cells [.d (.str v.name),.d .a8,.d (.int .i64 v.before),.d (.str v.bH.name),.d (.int .i64 v.bH.type)]]):=by
 refine aC.run aj (fn:=Tryz.f84) Tryz.func84 (body:=Tryz.f84.body.getD .skip) rfl (by decide) 2000 rfl ?_;(conv=>whnf);refine aa.Y4 (b:=0) (off:=0) (j:=1) rfl rfl rfl fun cp hk=>?_;(conv=>whnf);obtain ⟨k',q',l',e1,e2,e3,e4,e5⟩:=aaF (b:=1) (g:=0) (k:=k) (cp:=cp) (l:=l) (m:=[fM v]) hk;refine aa.P1 aj bW [0,1,2,3,5,6,8,9] (fun h=>h∈[[.cells [.cut 1 0 k (some cp)],.arr 0 (96,5) l,.cells [.d (.str v.name),.d .a8,.d (.int .i64 v.before),.d (.str v.bH.name),.d (.int .i64 v.bH.type)]],[.cells [.cut 1 0 k (some cp)],.arr 1 (96,5) l',.cells [.d (.str v.name),.d .a8,.d (.int .i64 v.before),.d (.str v.bH.name),.d (.int .i64 v.bH.type)]],[.cells [.cut 1 1 k' q'],.arr 1 (96,5) l',.cells [.d (.str v.name),.d .a8,.d (.int .i64 v.before),.d (.str v.bH.name),.d (.int .i64 v.bH.type)]]]) (by kernel_rfl) (by simp) ?_;refine dv.float (.ptr 0 0) rfl rfl (fun h' hh=>?_) ?_
 ·simp only [List.mem_cons,List.not_mem_nil,or_false] at hh;rcases hh with rfl | rfl | rfl <;> (refine aQ.run aj ?_; (conv=>whnf); exact ⟨rfl,rfl⟩)
 refine dv.float (.ptr 0 0) rfl rfl (fun h' hh=>?_) ?_
 ·simp only [List.mem_cons,List.not_mem_nil,or_false] at hh;rcases hh with rfl | rfl | rfl <;> (refine aQ.run aj ?_; (conv=>whnf); exact ⟨rfl,rfl⟩)
 refine dv.float (.ptr 0 0) rfl rfl (fun h' hh=>?_) ?_
 ·simp only [List.mem_cons,List.not_mem_nil,or_false] at hh;rcases hh with rfl | rfl | rfl <;> (refine aQ.run aj ?_; (conv=>whnf); exact ⟨rfl,rfl⟩)
 refine dv.float (.ptr 0 0) rfl rfl (fun h' hh=>?_) ?_
 ·simp only [List.mem_cons,List.not_mem_nil,or_false] at hh;rcases hh with rfl | rfl | rfl <;> (refine aQ.run aj ?_; (conv=>whnf); exact ⟨rfl,rfl⟩)
 refine dv.op (.cut 1 0 k (some cp)) ([.cells [.cut 1 0 k (some cp)],.arr 0 (96,5) l,.cells [.d (.str v.name),.d .a8,.d (.int .i64 v.before),.d (.str v.bH.name),.d (.int .i64 v.bH.type)]]) rfl rfl ?_ (by simp) ?_
 ·refine aQ.run aj ?_;(conv=>whnf);exact ⟨rfl,rfl⟩
 refine dv.float (.d (fM v)) rfl rfl (fun h' hh=>?_) ?_
 ·simp only [List.mem_cons,List.not_mem_nil,or_false] at hh;rcases hh with rfl | rfl | rfl <;> (refine aQ.run aj ?_; (conv=>whnf); exact ⟨rfl,rfl⟩)
 refine dv.float (.d (.sl [fM v])) rfl rfl (fun h' hh=>?_) ?_
 ·simp only [List.mem_cons,List.not_mem_nil,or_false] at hh;rcases hh with rfl | rfl | rfl <;> (refine aQ.run aj ?_; (conv=>whnf); exact ⟨rfl,rfl⟩)
 refine dv.op (.cut 1 1 k' q') ([.cells [.cut 1 0 k (some cp)],.arr 1 (96,5) l',.cells [.d (.str v.name),.d .a8,.d (.int .i64 v.before),.d (.str v.bH.name),.d (.int .i64 v.bH.type)]]) rfl rfl ?_ (by simp) ?_
 ·rw [← e1,← e2];exact Y1 aj rfl rfl rfl rfl rfl rfl rfl rfl rfl rfl rfl rfl (bh rfl) (bh rfl) rfl (by simp [DV.cells]) (by simp) (by simp; omega)
 refine dv.float (.ptr 0 0) rfl rfl (fun h' hh=>?_) ?_
 ·simp only [List.mem_cons,List.not_mem_nil,or_false] at hh;rcases hh with rfl | rfl | rfl <;> (refine aQ.run aj ?_; (conv=>whnf); exact ⟨rfl,rfl⟩)
 refine dv.float (.ptr 0 0) rfl rfl (fun h' hh=>?_) ?_
 ·simp only [List.mem_cons,List.not_mem_nil,or_false] at hh;rcases hh with rfl | rfl | rfl <;> (refine aQ.run aj ?_; (conv=>whnf); exact ⟨rfl,rfl⟩)
 refine dv.op (.d .undef) ([.cells [.cut 1 1 k' q'],.arr 1 (96,5) l',.cells [.d (.str v.name),.d .a8,.d (.int .i64 v.before),.d (.str v.bH.name),.d (.int .i64 v.bH.type)]]) rfl rfl ?_ (by simp) ?_
 ·refine aQ.run aj ?_;(conv=>whnf);exact ⟨rfl,rfl⟩
 refine dv.fin ?_;refine gO Tryz.func84 ?_;exact ⟨k',q',l',⟨e3,e4,by simpa using e5⟩,rfl,rfl⟩
theorem aaI (k:Nat) (q:Option Nat) (l:List DV) (h:l.drop k=[]):aC E 85 [.cells [.cut 1 0 k q],.arr 0 (96,5) l] [.ptr 0 0] (fun a b=>a = .aL [.d (fM ⟨[],[],0,⟨[],0⟩,[]⟩),.d (.bool false)]∧cU 2 [] 0 b=[.cells [.cut 1 0 k q],.arr 0 (96,5) l]):=by
 refine aC.run aj (fn:=Tryz.f85) Tryz.func85 (body:=Tryz.f85.body.getD .skip) rfl (by decide) 2000 rfl ?_;(conv=>whnf);refine aa.PA aj rfl rfl rfl rfl rfl rfl (bh rfl) rfl ?_;intro hk;have e0:l.length - k=0:=by have:=congrArg List.length h; simpa using this
 (conv=>whnf);refine gO Tryz.func85 ?_;refine aM (by rw [e0]; rfl) ?_;refine gO Tryz.func85 ?_;exact ⟨rfl,rfl⟩
theorem aaJ (k:Nat) (q:Option Nat) (l:List DV) (v:bK) (r:List DV) (h:l.drop k=fM v::r):aC E 85 [.cells [.cut 1 0 k q],.arr 0 (96,5) l] [.ptr 0 0] (fun a b=>a = .aL [.d (fM v),.d (.bool true)]∧cU 2 [] 0 b=[.cells [.cut 1 0 (k+1) q],.arr 0 (96,5) l]):=by
 have hlen:l.length - k=r.length+1:=by have:=congrArg List.length h; simpa using this
 have dH:l[k]? = some (fM v):=by
  have:=congrArg (·[0]?) h
  simpa using this
 refine aC.run aj (fn:=Tryz.f85) Tryz.func85 (body:=Tryz.f85.body.getD .skip) rfl (by decide) 2000 rfl ?_;(conv=>whnf);refine aa.PA aj rfl rfl rfl rfl rfl rfl (bh rfl) rfl ?_;intro hk;(conv=>whnf);refine gO Tryz.func85 ?_;refine aI (by rw [hlen]; simp; omega) ?_;refine gO Tryz.func85 ?_;refine aa.YT aj (n:=0) rfl rfl rfl rfl rfl rfl (bh rfl) pT rfl (by omega) ?_;(conv=>whnf);refine gO Tryz.func85 ?_;refine ee (fM v) (by omega) (by simpa using dH) rfl ?_;refine gO Tryz.func85 ?_;refine aa.YU aj (n:=1) rfl rfl rfl rfl rfl rfl (bh rfl) pT rfl (by omega) ?_;(conv=>whnf);refine gO Tryz.func85 ?_;exact ⟨rfl,rfl⟩
end Go.Proofs.YtcmnpelmmekdkaaGreatDoor.P
end
