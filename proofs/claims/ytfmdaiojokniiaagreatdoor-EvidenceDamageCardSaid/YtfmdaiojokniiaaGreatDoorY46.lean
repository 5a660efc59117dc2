/- Several texts of mine, one behind the other. Conditions: as each says. -/
import Derived.Test.YtfmdaiojokniiaaGreatDoorY32
import Derived.Test.YtfmdaiojokniiaaGreatDoorY41
import Derived.Test.YtfmdaiojokniiaaGreatDoorY43
import Derived.Test.YtfmdaiojokniiaaGreatDoorY45
set_option linter.unusedVariables false
set_option linter.unusedSimpArgs false
namespace Go.Proofs.YtfmdaiojokniiaaGreatDoor.P
open Go Go.ax
set_option maxRecDepth 100000
set_option maxHeartbeats 4000000
def mu (f u:Int) (K:List Int) (t:Int):List Int:=if f≤t∧t<u then K++[t] else K
theorem Et (f u:Int) (K:List Int) (t:Int):aw E 106 [.cells [.d (.int .i64 f)],.cells [.d (.int .i64 u)],.cells [.map 3],.map (dJ (DV.int .i64) K)] [.d (.int .i64 t),.ptr 0 0,.ptr 1 0,.ptr 2 0] (fun a b=>a = .aF []∧b=[.cells [.d (.int .i64 f)],.cells [.d (.int .i64 u)],.cells [.map 3],.map (dJ (DV.int .i64) (mu f u K t))]):=by
 have fE:=TI (mU Jw K).1;unfold mu;refine aw.run af (fn:=Tryz.f106) Tryz.func106 (body:=Tryz.f106.body.getD .skip) rfl (by decide) 2000 rfl ?_;(conv=>whnf);repeat' (first | with_reducible refine cY ?_ | with_reducible refine cN ?_ | with_reducible refine ah (fun _=>?_) (fun _=>?_) | refine gA Tryz.func106 ?_ | refine gB ?_ | with_reducible rfl)
 all_goals try (refine ⟨rfl,?_⟩; rw [if_neg (by simp_all; try omega)]; done)
 refine bc ⟨⟨_,rfl⟩,fE⟩ ?_;refine gO Tryz.func106 ?_;refine ⟨rfl,?_⟩;rw [if_pos (by simp_all),ss]
theorem TL {α:Type} {f:α→DV} {l:List α} {i:Nat} {y:α} (h:l[i]? = some y) (z:DV):(((l.map f).take l.length).drop i).take 1++[z].drop (l.length - i)=[f y]:=by
 obtain ⟨hi,rfl⟩:=List.getElem?_eq_some_iff.1 h;rw [List.take_of_length_le (l:=l.map f) (i:=l.length) (by simp),List.drop_eq_getElem_cons (by simpa using hi),List.drop_of_length_le (l:=[z]) (by rw [List.length_singleton]; omega)];simp
def fO (i:Nat) (n:Text) (c:a7):Bool:=Nm.nM n c.az.aj&&(c.host==i)
def xS (f u:Int) (K:List Int) (c:a7):List Int:=mu f u (mu f u K c.cj) c.upto
def lA (f u:Int) (l:List a7):List Int:=l.foldl (xS f u) (mu f u [] f)
theorem TM (h:ca) (i:Nat) (x:dS) (y:Host) (hy:h.aA[i]? = some y) (hl:h.aI.length≤1000000) (hz:∀ c∈h.aI,c.az.aj.length≤maxLen) (hn:x.q.name.length≤maxLen) (ht:0≤x.time∧x.time≤10000000) (hd:0≤h.bT∧h.bT≤1000) (f u:Int) (pz:max (x.time - h.bT) 0=f) (xP:min (x.time+h.bT+1) h.fin=u) :
  aw E 43 [] [.d h.enc,.d (.int .i64 i),.d x.enc] (fun a b=>a = .fn (.func 108) [] [.ptr 8 0,.ptr 5 0,.ptr 0 0,.ptr 6 0]∧b=[.cells [.d (.sl (h.aA.map Host.enc)),.d (.sl (h.aI.map a7.enc)),.d (.str h.anchor.name),.d (.int .i64 h.anchor.type),.d (.int .i64 h.anchor.cD),.d (.sl (h.anchor.data.map Datum.enc)),.d (.sl (h.hints.map (.int .i64))),.d (.int .i64 h.bT),.d (.int .i64 h.fin)],.cells [.d (.int .i64 x.time),.d (.int .i64 x.addr),.d (.str x.q.name),.d (.int .i64 x.q.type),.d (.int .i64 x.answer.kind),.d (.sl (x.answer.ab.map Signed.enc)),.d (.str x.answer.cut)],.cells [.d (.int .i64 f)],.cells [.d (.int .i64 u)],.gone,.cells [.d (.sl [y.enc])],.cells [.d (.sl ((h.aI.filter (fO i x.q.name)).map a7.enc))],.map (dJ (DV.int .i64) (lA f u (h.aI.filter (fO i x.q.name)))),.cells [.map 7],.gone]):=by
 obtain ⟨aA,aI,anchor,hints,bT,fin⟩:=h;obtain ⟨t,ad,⟨qn,qt⟩,⟨ak,al,ac⟩⟩:=x;simp only at hy hl hz hn ht hd pz xP;show aw E _ [] [.d (DV.agg [.sl (aA.map Host.enc),.sl (aI.map a7.enc),.str anchor.name,.int .i64 anchor.type,.int .i64 anchor.cD,.sl (anchor.data.map Datum.enc),.sl (hints.map (.int .i64)),.int .i64 bT,.int .i64 fin]),_,.d (DV.agg [.int .i64 t,.int .i64 ad,.str qn,.int .i64 qt,.int .i64 ak,.sl (al.map Signed.enc),.str ac])] _;refine aw.run af (fn:=Tryz.f43) Tryz.func43 (body:=Tryz.f43.body.getD .skip) rfl (by decide) 2000 rfl ?_;(conv=>whnf);refine I.bH af bI 2000 (by kernel_rfl) ?_;(conv=>whnf);rw [wrap64 (n:=t - bT) (by omega) (by omega)];refine bG.pure rfl (fun _=>Tu (bg rfl) Om) ?_;rw [pz];refine gD ?_;rw [wrap64 (n:=t+bT) (by omega) (by omega),wrap64 (n:=t+bT+1) (by omega) (by omega)];refine bG.pure rfl (fun _=>Tv (bg rfl) (bg rfl)) ?_;rw [xP];refine gD ?_;refine And.intro (by kernel_rfl) ?_;(conv=>whnf);refine gO Tryz.func43 ?_;refine bc ⟨by omega,by omega,by omega⟩ ?_;refine gO Tryz.func43 ?_;refine I.bH af bI 2000 (by kernel_rfl) ?_;(conv=>whnf);refine bc ⟨by simp,by simp; exact Nat.le_of_lt (aT hy),by simp,by simp [DV.cells]⟩ ?_;refine gD ?_;refine gD ?_;refine bG.at rfl ?_;conv=>whnf
 refine jP.HA af [y.enc] rfl (bg rfl) (bg rfl) rfl rfl rfl rfl rfl (by simp) (fun z hz=>by
  obtain ⟨u,_,rfl⟩:=List.mem_map.1 (List.mem_of_mem_take (List.mem_of_mem_drop hz))
  rfl) ?_ ?_
 ·simpa using TL (f:=Host.enc) hy (.agg [.str [],.int .i64 0,.int .i64 0])
 refine gD ?_;refine And.intro (by kernel_rfl) ?_;(conv=>whnf);refine gO Tryz.func43 ?_;refine gO Tryz.func43 ?_;have c1:=Et f u [] f;rw [show dJ (DV.int .i64) ([]:List Int)=[] from rfl] at c1
 with_reducible refine bF (c1) ?_
 refine gO Tryz.func43 ?_;refine I.freeze 4 ?_;(conv=>whnf);refine I.qa 6 0 (68,5) (by decide) rfl rfl ?_;refine gO Tryz.func43 ?_;refine I.loop (κ:=Nat) ([14,15,16]++rg 47 34) (fun k=>[(47,.d (.int .i64 k))]) (fun k=>[(6,.cells [.own 9 1]),(7,.map (dJ (DV.int .i64) (lA f u ((aI.take k).filter (fO i qn))))),(9,.arr 1 (68,5) (((aI.take k).filter (fO i qn)).map a7.enc))]) (fun k=>k≤aI.length) (fun k=>aI.length - k) 0 (Nat.zero_le _) ?_ ?_
 ·(conv=>whnf);repeat (first | exact trivial | (refine sI ?_; conv=>whnf))
  refine And.intro rfl ?_;(conv=>whnf);repeat (first | exact trivial | (refine sI ?_; conv=>whnf))
  refine And.intro rfl ?_;exact sZ
 intro k hk IH;refine I.head af Tryz.func43 2000 ?_;(conv=>whnf);refine ah (fun h5=>?_) (fun h5=>?_)
 ·have ai:k<aI.length:=by simpa using h5
  obtain ⟨c,hc⟩:=aD ai;have c2:=uk qn c.az.aj hn (hz c (List.mem_of_getElem? hc));have fM:(aI.take (k+1)).filter (fO i qn)=(aI.take k).filter (fO i qn)++(if fO i qn c then [c] else []):=by
   rw [cQ hc,List.filter_append];cases h:fO i qn c <;> simp [h]
  have Wk:((aI.take k).filter (fO i qn)).length≤k:=Nat.le_trans (List.length_filter_le ..) (by simp; omega);generalize (aI.take k).filter (fO i qn)=L at *;have c3:=Et f u (lA f u L) c.cj;have c4:=Et f u (mu f u (lA f u L) c.cj) c.upto;refine gO Tryz.func43 ?_;refine aB (e:=c.enc) (aN hc) rfl ?_;refine gO Tryz.func43 ?_;refine ao (c2) ?_;refine gO Tryz.func43 ?_;cases hv:Nm.nM qn c.az.aj
  ·refine aQ ?_;refine gO Tryz.func43 ?_;refine aQ ?_;refine gO Tryz.func43 ?_;refine I.back (IH (k+1) (by omega) (by omega)) ?_;rw [fM,show fO i qn c=false by simp [fO,hv]];simp only [Bool.false_eq_true,if_false,List.append_nil];exact sZ
  refine aY ?_;refine gO Tryz.func43 ?_;refine ah (fun h6=>?_) (fun h6=>?_)
  ·refine gO Tryz.func43 ?_;refine bc ⟨by simp; omega,by simp [DV.cells]⟩ ?_;refine gO Tryz.func43 ?_
   with_reducible refine bF (c3) ?_
   refine gO Tryz.func43 ?_
   with_reducible refine bF (c4) ?_
   refine gO Tryz.func43 ?_;refine I.back (IH (k+1) (by omega) (by omega)) ?_;rw [fM,show fO i qn c=true by simp [fO,hv,h6],if_pos rfl,show lA f u (L++[c])=mu f u (mu f u (lA f u L) c.cj) c.upto by simp [lA,xS],List.map_append];(conv=>whnf);repeat (first | exact trivial | (refine sI ?_; conv=>whnf))
   refine And.intro rfl ?_;exact sZ
  ·refine gO Tryz.func43 ?_;refine I.back (IH (k+1) (by omega) (by omega)) ?_;rw [fM,show fO i qn c=false by simp [fO,h6]];simp only [Bool.false_eq_true,if_false,List.append_nil];exact sZ
 ·have aC:aI.length≤k:=by simpa using h5
  rw [List.take_of_length_le aC];refine I.freeze 9 ?_;(conv=>whnf);refine gO Tryz.func43 ?_;exact ⟨rfl,rfl⟩
end Go.Proofs.YtfmdaiojokniiaaGreatDoor.P
