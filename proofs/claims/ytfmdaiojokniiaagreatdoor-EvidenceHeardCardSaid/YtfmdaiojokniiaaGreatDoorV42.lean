/- Several texts of mine, one behind the other. Conditions: as each says. -/
import Derived.Test.YtfmdaiojokniiaaGreatDoorV33
import Derived.Test.YtfmdaiojokniiaaGreatDoorV34
import Derived.Test.YtfmdaiojokniiaaGreatDoorV41
set_option linter.unusedVariables false
set_option linter.unusedSimpArgs false
namespace Go.Proofs.YtfmdaiojokniiaaGreatDoor.P
open Go Go.aw
set_option maxRecDepth 100000
set_option maxHeartbeats 4000000
def kT (f u:Int) (K:List Int) (t:Int):List Int:=if f≤t∧t<u then K++[t] else K
theorem EU (f u:Int) (K:List Int) (t:Int):au E 106 [.cells [.d (.int .i64 f)],.cells [.d (.int .i64 u)],.cells [.map 3],.map (dO (DV.int .i64) K)] [.d (.int .i64 t),.ptr 0 0,.ptr 1 0,.ptr 2 0] (fun a b=>a = .aD []∧b=[.cells [.d (.int .i64 f)],.cells [.d (.int .i64 u)],.cells [.map 3],.map (dO (DV.int .i64) (kT f u K t))]):=by
 have gz:=T1 (ny J0 K).1;unfold kT;refine au.run af (fn:=Tryz.f106) Tryz.func106 (body:=Tryz.f106.body.getD .skip) rfl (by decide) 2000 rfl ?_;(conv=>whnf);repeat' (first | with_reducible refine cY ?_ | with_reducible refine cN ?_ | with_reducible refine ai (fun _=>?_) (fun _=>?_) | refine gA Tryz.func106 ?_ | refine gB ?_ | with_reducible rfl)
 all_goals try (refine ⟨rfl,?_⟩; rw [if_neg (by simp_all; try omega)]; done)
 refine a8 ⟨⟨_,rfl⟩,gz⟩ ?_;refine gO Tryz.func106 ?_;refine ⟨rfl,?_⟩;rw [if_pos (by simp_all),s4]
theorem T3 {α:Type} {f:α→DV} {l:List α} {i:Nat} {y:α} (h:l[i]? = some y) (z:DV):(((l.map f).take l.length).drop i).take 1++[z].drop (l.length - i)=[f y]:=by
 obtain ⟨hi,rfl⟩:=List.getElem?_eq_some_iff.1 h;rw [List.take_of_length_le (l:=l.map f) (i:=l.length) (by simp),List.drop_eq_getElem_cons (by simpa using hi),List.drop_of_length_le (l:=[z]) (by rw [List.length_singleton]; omega)];simp
def fC (i:Nat) (n:Text) (c:aS):Bool:=Nm.iB n c.az.ah&&(c.host==i)
def s8 (f u:Int) (K:List Int) (c:aS):List Int:=kT f u (kT f u K c.bM) c.upto
def kU (f u:Int) (l:List aS):List Int:=l.foldl (s8 f u) (kT f u [] f)
theorem T4 (h:bJ) (i:Nat) (x:dF) (y:Host) (hy:h.aA[i]? = some y) (hl:h.aB.length≤1000000) (hz:∀ c∈h.aB,c.az.ah.length≤maxLen) (hn:x.q.name.length≤maxLen) (ht:0≤x.time∧x.time≤10000000) (hd:0≤h.bS∧h.bS≤1000) (f u:Int) (pY:max (x.time - h.bS) 0=f) (ye:min (x.time+h.bS+1) h.fin=u) :
  au E 43 [] [.d h.enc,.d (.int .i64 i),.d x.enc] (fun a b=>a = .fn (.func 108) [] [.ptr 8 0,.ptr 5 0,.ptr 0 0,.ptr 6 0]∧b=[.cells [.d (.sl (h.aA.map Host.enc)),.d (.sl (h.aB.map aS.enc)),.d (.str h.anchor.name),.d (.int .i64 h.anchor.type),.d (.int .i64 h.anchor.cD),.d (.sl (h.anchor.data.map Datum.enc)),.d (.sl (h.hints.map (.int .i64))),.d (.int .i64 h.bS),.d (.int .i64 h.fin)],.cells [.d (.int .i64 x.time),.d (.int .i64 x.addr),.d (.str x.q.name),.d (.int .i64 x.q.type),.d (.int .i64 x.answer.kind),.d (.sl (x.answer.ab.map Signed.enc)),.d (.str x.answer.cut)],.cells [.d (.int .i64 f)],.cells [.d (.int .i64 u)],.gone,.cells [.d (.sl [y.enc])],.cells [.d (.sl ((h.aB.filter (fC i x.q.name)).map aS.enc))],.map (dO (DV.int .i64) (kU f u (h.aB.filter (fC i x.q.name)))),.cells [.map 7],.gone]):=by
 obtain ⟨aA,aB,anchor,hints,bS,fin⟩:=h;obtain ⟨t,ad,⟨qn,qt⟩,⟨ak,al,ac⟩⟩:=x;simp only at hy hl hz hn ht hd pY ye;show au E _ [] [.d (DV.agg [.sl (aA.map Host.enc),.sl (aB.map aS.enc),.str anchor.name,.int .i64 anchor.type,.int .i64 anchor.cD,.sl (anchor.data.map Datum.enc),.sl (hints.map (.int .i64)),.int .i64 bS,.int .i64 fin]),_,.d (DV.agg [.int .i64 t,.int .i64 ad,.str qn,.int .i64 qt,.int .i64 ak,.sl (al.map Signed.enc),.str ac])] _;refine au.run af (fn:=Tryz.f43) Tryz.func43 (body:=Tryz.f43.body.getD .skip) rfl (by decide) 2000 rfl ?_;(conv=>whnf);refine I.bH af bI 2000 (by kernel_rfl) ?_;(conv=>whnf);rw [wrap64 (n:=t - bS) (by omega) (by omega)];refine bG.pure rfl (fun _=>TO (aP rfl) Pe) ?_;rw [pY];refine gD ?_;rw [wrap64 (n:=t+bS) (by omega) (by omega),wrap64 (n:=t+bS+1) (by omega) (by omega)];refine bG.pure rfl (fun _=>TP (aP rfl) (aP rfl)) ?_;rw [ye];refine gD ?_;refine And.intro (by kernel_rfl) ?_;(conv=>whnf);refine gO Tryz.func43 ?_;refine a8 ⟨by omega,by omega,by omega⟩ ?_;refine gO Tryz.func43 ?_;refine I.bH af bI 2000 (by kernel_rfl) ?_;(conv=>whnf);refine a8 ⟨by simp,by simp; exact Nat.le_of_lt (aR hy),by simp,by simp [DV.cells]⟩ ?_;refine gD ?_;refine gD ?_;refine bG.at rfl ?_;conv=>whnf
 refine jX.Ia af [y.enc] rfl (aP rfl) (aP rfl) rfl rfl rfl rfl rfl (by simp) (fun z hz=>by
  obtain ⟨u,_,rfl⟩:=List.mem_map.1 (List.mem_of_mem_take (List.mem_of_mem_drop hz))
  rfl) ?_ ?_
 ·simpa using T3 (f:=Host.enc) hy (.agg [.str [],.int .i64 0,.int .i64 0])
 refine gD ?_;refine And.intro (by kernel_rfl) ?_;(conv=>whnf);refine gO Tryz.func43 ?_;refine gO Tryz.func43 ?_;have c1:=EU f u [] f;rw [show dO (DV.int .i64) ([]:List Int)=[] from rfl] at c1
 with_reducible refine bD (c1) ?_
 refine gO Tryz.func43 ?_;refine I.freeze 4 ?_;(conv=>whnf);refine I.mB 6 0 (68,5) (by decide) rfl rfl ?_;refine gO Tryz.func43 ?_;refine I.loop (κ:=Nat) ([14,15,16]++rg 47 34) (fun k=>[(47,.d (.int .i64 k))]) (fun k=>[(6,.cells [.own 9 1]),(7,.map (dO (DV.int .i64) (kU f u ((aB.take k).filter (fC i qn))))),(9,.arr 1 (68,5) (((aB.take k).filter (fC i qn)).map aS.enc))]) (fun k=>k≤aB.length) (fun k=>aB.length - k) 0 (Nat.zero_le _) ?_ ?_
 ·(conv=>whnf);repeat (first | exact trivial | (refine sI ?_; conv=>whnf))
  refine And.intro rfl ?_;(conv=>whnf);repeat (first | exact trivial | (refine sI ?_; conv=>whnf))
  refine And.intro rfl ?_;exact sZ
 intro k hk IH;refine I.head af Tryz.func43 2000 ?_;(conv=>whnf);refine ai (fun h5=>?_) (fun h5=>?_)
 ·have aj:k<aB.length:=by simpa using h5
  obtain ⟨c,hc⟩:=aL aj;have c2:=uK qn c.az.ah hn (hz c (List.mem_of_getElem? hc));have eC:(aB.take (k+1)).filter (fC i qn)=(aB.take k).filter (fC i qn)++(if fC i qn c then [c] else []):=by
   rw [cI hc,List.filter_append];cases h:fC i qn c <;> simp [h]
  have XJ:((aB.take k).filter (fC i qn)).length≤k:=Nat.le_trans (List.length_filter_le ..) (by simp; omega);generalize (aB.take k).filter (fC i qn)=L at *;have c3:=EU f u (kU f u L) c.bM;have c4:=EU f u (kT f u (kU f u L) c.bM) c.upto;refine gO Tryz.func43 ?_;refine aE (e:=c.enc) (aX hc) rfl ?_;refine gO Tryz.func43 ?_;refine ao (c2) ?_;refine gO Tryz.func43 ?_;cases hv:Nm.iB qn c.az.ah
  ·refine aQ ?_;refine gO Tryz.func43 ?_;refine aQ ?_;refine gO Tryz.func43 ?_;refine I.back (IH (k+1) (by omega) (by omega)) ?_;rw [eC,show fC i qn c=false by simp [fC,hv]];simp only [Bool.false_eq_true,if_false,List.append_nil];exact sZ
  refine aV ?_;refine gO Tryz.func43 ?_;refine ai (fun h6=>?_) (fun h6=>?_)
  ·refine gO Tryz.func43 ?_;refine a8 ⟨by simp; omega,by simp [DV.cells]⟩ ?_;refine gO Tryz.func43 ?_
   with_reducible refine bD (c3) ?_
   refine gO Tryz.func43 ?_
   with_reducible refine bD (c4) ?_
   refine gO Tryz.func43 ?_;refine I.back (IH (k+1) (by omega) (by omega)) ?_;rw [eC,show fC i qn c=true by simp [fC,hv,h6],if_pos rfl,show kU f u (L++[c])=kT f u (kT f u (kU f u L) c.bM) c.upto by simp [kU,s8],List.map_append];(conv=>whnf);repeat (first | exact trivial | (refine sI ?_; conv=>whnf))
   refine And.intro rfl ?_;exact sZ
  ·refine gO Tryz.func43 ?_;refine I.back (IH (k+1) (by omega) (by omega)) ?_;rw [eC,show fC i qn c=false by simp [fC,h6]];simp only [Bool.false_eq_true,if_false,List.append_nil];exact sZ
 ·have aC:aB.length≤k:=by simpa using h5
  rw [List.take_of_length_le aC];refine I.freeze 9 ?_;(conv=>whnf);refine gO Tryz.func43 ?_;exact ⟨rfl,rfl⟩
end Go.Proofs.YtfmdaiojokniiaaGreatDoor.P
