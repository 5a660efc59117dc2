/- Several texts of mine, one behind the other. Conditions: as each says. -/
import Derived.Test.YtfmdaiojokniiaaGreatDoorW20
import Derived.Test.YtfmdaiojokniiaaGreatDoorW27
set_option linter.unusedVariables false
set_option linter.unusedSimpArgs false
section
namespace Go.Proofs.YtfmdaiojokniiaaGreatDoor.P
open Go Go.aw Go.Sort
set_option maxRecDepth 100000
set_option maxHeartbeats 4000000
theorem Js {G:List (Nat × DV)} {s:List AV}:aQ G s (.const (.slice none 0 0)) (.d .aD):=fun c a _ _ => .d _ _ .aD
theorem Se:aq E 182 [.arr 0 (3,1) []] [.own 0 0] (fun a b=>a = .az []∧b=[.arr 0 (3,1) []]):=by
 unfold aq;refine ⟨⟨_,Tryz.func182,rfl,by decide⟩,kI rfl,fun c vs h1 h2 h3=>?_⟩;obtain ⟨v1,rfl⟩:∃ v1,vs=[v1]:=by
  have:=h3.1
  match vs,this with
  | [a],_=>exact ⟨a,rfl⟩
 have cM:c.heap[0]? = some (.arr 0 (3,1) []):=by rw [h1]; rfl
 obtain ⟨p,cap,rfl⟩:∃ p cap,v1 = .slice p 0 cap:=by
  rcases kz cM (h3.2 0 _ v1 rfl rfl) with ⟨blk,cap,_,rfl⟩ | ⟨_,rfl,_⟩
  ·exact ⟨_,cap,rfl⟩
  ·exact ⟨_,_,rfl⟩
 refine (AnyM.slices_Sort_int_none Tryz.sortInt p cap c.w).mono fun e w' ⟨a1,a2⟩=>?_;subst a2;exact ⟨c,.az [],.tuple #[],a1,rfl,⟨rfl,h1⟩,.az [] #[] rfl (fun j x v hx=>by simp at hx),h2,Rel.refl c (by rw [h1]; exact kI rfl)⟩
theorem Sf (l:List Int) (hlen:l.length<4611686018427387904):aq E 182 [.arr 0 (3,1) (l.map (DV.int .i64))] [.own 0 0] (fun a b=>a = .az []∧b=[.arr 0 (3,1) ((eY l).map (DV.int .i64))]):=by
 by_cases h:l=[]
 ·subst h;have e:eY []=[]:=List.perm_nil.1 (rZ []);rw [e];exact Se
 ·exact Sd l h hlen
theorem Sg {es:List (DV × DV)} (h:kR (DV.int .i64) es):∀ p∈es,cS E.T (.int .i64) p.1:=fun p hp=>by
 obtain ⟨n,e⟩:=h p hp;rw [e];exact ⟨_,rfl⟩
theorem Sh (es:List (DV × DV)):aq E 110 [.map es] [.map 0] (fun a b=>a = .fn (.func 183) [] [.ptr 1 0]∧b=[.map es,.cells [.map 0]]):=by
 refine aq.run ag (fn:=Tryz.f110) Tryz.func110 (body:=Tryz.f110.body.getD .skip) rfl (by decide) 2000 rfl ?_;(conv=>whnf);exact ⟨rfl,rfl⟩
end Go.Proofs.YtfmdaiojokniiaaGreatDoor.P
end
section
namespace Go.aw
open Go Go.RowKit
section
variable {E:Env} {s:List AV} {h:List ab}
def Jt (E:Env) (s:List AV) (h:List ab) (o:Oper) (k:List AV→List ab→Prop):Prop:=match o.op with
 | .insert t m x v=>aI E.T t False fun ti=>match ti.k with
  | .map kt _=>bR E.G s m False fun
   | .map b=>aI h b False fun
    | .map es=>bR E.G s x False fun
     | .d y=>bR E.G s v False fun
      | .d z=>sX E kt False fun kd=>need (cS E.T kd y∧∀ p∈es,cS E.T kd p.1) (fe h b (.map (bI y z es)) fun h'=>bY s o.dst (.d .undef) fun s'=>k s' h')
      |_=>False
     |_=>False
    |_=>False
   |_=>False
  |_=>False
 |_=>False
theorem I.insert (hE:E.OK) {af:FuncId} {R:cu} {ops:Array Oper} {td:List aH} {lits:List Nat} {o:Oper} {r:List Oper} (hg:o.guard=none)
  (H:Jt E s h o fun s' h'=>I E af R lits (.a8 ops r::td) s' h'):I E af R lits (.a8 ops (o::r)::td) s h:=by
 unfold Jt at H;split at H
 case h_2=>exact H.elim
 rename_i t m x v bZ;rcases aS H with H | ⟨ti,bJ,H⟩
 ·exact H.elim
 split at H
 case h_2=>exact H.elim
 rename_i kt e hk;rcases bW H with H | ⟨a,ha,H⟩
 ·exact H.elim
 split at H
 case h_2=>exact H.elim
 rename_i b;rcases aS H with H | ⟨bx,hb,H⟩
 ·exact H.elim
 split at H
 case h_2=>exact H.elim
 rename_i es;rcases bW H with H | ⟨y,hy,H⟩
 ·exact H.elim
 split at H
 case h_2=>exact H.elim
 rename_i y;rcases bW H with H | ⟨z,hz,H⟩
 ·exact H.elim
 split at H
 case h_2=>exact H.elim
 rename_i z;rcases x6 H with H | ⟨kd,hT,H⟩
 ·exact H.elim
 obtain ⟨⟨f1,f2⟩,H⟩:=kx H;rw [fK,dF] at H;exact .of (.op (fA hg) (Fp hE (.inr bZ) bJ hk hT hb ha hy hz f1 f2) H.to)
end
end Go.aw
end
section
namespace Go.Proofs.YtfmdaiojokniiaaGreatDoor.P
open Go Go.aw
set_option maxRecDepth 100000
set_option maxHeartbeats 4000000
structure kP.Fits (w:kP):Prop where
 aB:∀ x∈w.aB,x.name.length≤maxLen
 anchor:w.anchor.Fits
 hints:w.hints.length≤maxLen
 cW:∀ p∈w.cW,p.ay.Fits
theorem D8 {l:List bj} {n:Nat} (h:l.all (mu n)=false):kS n l=false:=by simp [kS,h]
theorem TM {l:List bj} {k:Nat} {x:bj} (h:l[k]? = some x):(l.take (k+1)).map (·.ay.ai)=(l.take k).map (·.ay.ai)++[x.ay.ai]:=by rw [dm h,List.map_append]; rfl
theorem TN (l:List bj):(dK DV.str (l.map (·.ay.ai))).length=zD l:=by
 have:=Dt uc (l.map (·.ay.ai)) _ (Nat.le_refl _)
 rwa [List.take_length] at this
theorem J4 (aB:List Host) (l:List bj) (a:dc) (hints:List Int) (hz:∀ p∈l,p.ay.Fits):au E 149 [DV.agg [.sl (aB.map Host.enc),.sl (l.map bj.enc),.str a.name,.int .i64 a.type,.int .i64 a.cV,.sl (a.data.map Datum.enc),.sl (hints.map (.int .i64))]] (· = .bool (kS aB.length l)):=by
 refine eP Tryz.func149 ?_;refine aj (fun h1=>?_) (fun h1=>?_)
 ·refine gO Tryz.func149 ?_;have:kS aB.length l=false:=by simp [kS]; simp at h1; omega
  rw [this]
 have hlen:l.length≤4000:=by simp at h1; omega
 refine gO Tryz.func149 ?_;refine gO Tryz.func149 ?_;refine gO Tryz.func149 ?_;refine I.loop (κ:=Nat) ([2,6,7]++rg 17 39) (fun k=>[(17,.d (.int .i64 k)),(2,.d (.bool false)),(3,.map 1),(4,.map 2)]) (fun k=>[(1,.map (dK cL.en ((l.take k).map bj.spot))),(2,.map (dK DV.str ((l.take k).map (·.ay.ai))))]) (fun k=>k≤l.length∧(l.take k).all (mu aB.length)=true∧((l.take k).map bj.spot).Nodup) (fun k=>l.length - k) 0 ⟨Nat.zero_le _,rfl,by simp⟩ ?_ ?_
 ·(conv=>whnf);repeat (first | exact trivial | (refine sI ?_; conv=>whnf))
  refine And.intro rfl ?_;(conv=>whnf);repeat (first | exact trivial | (refine sI ?_; conv=>whnf))
  refine And.intro rfl ?_;exact sZ
 rintro i ⟨hi,a7,eS⟩ IH;refine I.head ag Tryz.func149 2000 ?_;(conv=>whnf);refine aj (fun h5=>?_) (fun h5=>?_)
 ·have ah:i<l.length:=by simpa using h5
  obtain ⟨x,hx⟩:=aU ah;have fq:=hz x (List.mem_of_getElem? hx);have eX:=(mr nG ((l.take i).map bj.spot)).1;have TO:=(mr uc ((l.take i).map (·.ay.ai))).1;obtain ⟨gY,iG⟩:=ua nG ((l.take i).map bj.spot) x.spot;refine gO Tryz.func149 ?_;refine aT (e:=x.enc) (bu hx) rfl ?_;refine gO Tryz.func149 ?_;refine aj (fun h6=>?_) (fun h6=>?_)
  ·repeat' (first | with_reducible refine cY ?_ | with_reducible refine cN ?_ | with_reducible refine aj (fun _=>?_) (fun _=>?_) | refine gA Tryz.func149 ?_ | refine gB ?_ | with_reducible rfl)
   rw [D8 (gG hx (by simp [mu]; simp at h6; omega))]
  refine gO Tryz.func149 ?_;refine aj (fun h7=>?_) (fun h7=>?_)
  ·repeat' (first | with_reducible refine cY ?_ | with_reducible refine cN ?_ | with_reducible refine aj (fun _=>?_) (fun _=>?_) | refine gA Tryz.func149 ?_ | refine gB ?_ | with_reducible rfl)
   rw [D8 (gG hx (by simp [mu]; simp at h7; omega))]
  refine gO Tryz.func149 ?_;refine mX (.bool false) (.bool false) ⟨_,rfl,rfl,⟨_,rfl,_,rfl⟩,rfl,⟨_,rfl,_,rfl⟩,trivial⟩ (ud eX) (fun w=>by kernel_rfl) (fun _ _ => .bool _) gY iG ?_;refine gO Tryz.func149 ?_;refine aj (fun h8=>?_) (fun h8=>?_)
  ·repeat' (first | with_reducible refine cY ?_ | with_reducible refine cN ?_ | with_reducible refine aj (fun _=>?_) (fun _=>?_) | refine gA Tryz.func149 ?_ | refine gB ?_ | with_reducible rfl)
   have:=IQ hx (by simpa using h8);simp [kS,this]
  refine gO Tryz.func149 ?_
  with_reducible refine ar (rQ x.ay fq) ?_
  refine gO Tryz.func149 ?_;cases J5:ep x.ay
  ·repeat' (first | with_reducible refine cY ?_ | with_reducible refine cN ?_ | with_reducible refine aj (fun _=>?_) (fun _=>?_) | refine gA Tryz.func149 ?_ | refine gB ?_ | with_reducible rfl)
   rw [D8 (gG hx (by simp [mu,J5]))]
  refine aN ?_;refine gO Tryz.func149 ?_;have aJ:mu aB.length x=true:=by simp [mu,J5]; simp at h6 h7; omega
  refine bp ⟨⟨_,rfl,rfl,⟨_,rfl,_,rfl⟩,rfl,⟨_,rfl,_,rfl⟩,trivial⟩,ud eX⟩ ?_;refine gO Tryz.func149 ?_;refine bp ⟨⟨_,rfl⟩,TO⟩ ?_;refine gO Tryz.func149 ?_;refine I.back (IH (i+1) ⟨by omega,iD a7 hx aJ,IS hx eS (by simpa using h8)⟩ (by omega)) ?_;rw [zC hx,rW,TM hx,rW];(conv=>whnf);repeat (first | exact trivial | (refine sI ?_; conv=>whnf))
  refine And.intro rfl ?_;exact sZ
 ·have aK:l.length≤i:=by simpa using h5
  rw [List.take_of_length_le aK] at a7 eS ⊢;refine gO Tryz.func149 ?_;refine gO Tryz.func149 ?_;have:=TN l;rw [this];simp [kS,a7,eS,hlen];omega
theorem D9 (w:kP) (hf:w.Fits):au E 78 [w.enc] (· = .bool (nH w)):=by
 obtain ⟨aB,cW,anchor,hints⟩:=w;obtain ⟨f1,f2,f3,f4⟩:=hf;simp only at f1 f2 f3 f4;show au E _ [DV.agg [.sl (aB.map Host.enc),.sl (cW.map bj.enc),.str anchor.name,.int .i64 anchor.type,.int .i64 anchor.cV,.sl (anchor.data.map Datum.enc),.sl (hints.map (.int .i64))]] _;refine eP Tryz.func78 ?_;repeat' (first | with_reducible refine ar (zz aB f1) ?_ | with_reducible refine aR (zz aB f1) ?_ | with_reducible refine ar (J4 aB cW anchor hints f4) ?_ | with_reducible refine aR (J4 aB cW anchor hints f4) ?_ | with_reducible refine ar (zA anchor hints f2 f3) ?_ | with_reducible refine aR (zA anchor hints f2 f3) ?_ | with_reducible refine cY ?_ | with_reducible refine cN ?_ | with_reducible refine aj (fun _=>?_) (fun _=>?_) | refine gA Tryz.func78 ?_ | refine gB ?_ | with_reducible rfl)
 all_goals simp_all [nH]
end Go.Proofs.YtfmdaiojokniiaaGreatDoor.P
end
