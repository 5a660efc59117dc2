/- Contracts by the engine: package copies: newest, join, stretches. Conditions: lengths that Go allows. -/
import Derived.Test.YthikfaephakahaaGreatDoorZP95
import Derived.Test.YthikfaephakahaaGreatDoorZSrtJ
set_option linter.unusedVariables false
set_option linter.unusedSimpArgs false
namespace Go.Proofs.YthikfaephakahaaGreatDoor.P
open Go Go.Eng Go.Sort
set_option maxRecDepth 100000
set_option maxHeartbeats 4000000
theorem newest1_a (l:List Version) (t:Int) {i:Nat} {v:Version} (hv:l[i]? = some v):ACalls E 173 [.cells [.d (.sl (l.map Version.enc))],.cells [.d (.int .i64 t)]] [.d (.int .i64 i),.ptr 0 0,.ptr 1 0] (fun a b=>a = .d (.bool (decide (v.time>t)))∧b=[.cells [.d (.sl (l.map Version.enc))],.cells [.d (.int .i64 t)]]):=by
 refine ACalls.run E_ok (fn:=Tryz.f173) Tryz.func173 (body:=Tryz.f173.body.getD .skip) rfl (by decide) 2000 rfl ?_;(conv=>whnf);refine AWL.draw E_ok E_mixed 8 2000 (by kernel_rfl) ?_;(conv=>whnf);refine elemP_at (e:=v.enc) (at_map hv) rfl ?_;refine gD ?_;refine gS ?_;refine gO Tryz.func173 ?_;exact ⟨rfl,rfl⟩
theorem mid_eq2 {i j:Nat} (h:i+j≤4294967296):IntKind.i64.wrap (shI .shr .u64 (IntKind.u64.wrap (IntKind.i64.wrap ((i:Int)+j))) (Int.toNat 1))=(((i+j) / 2:Nat):Int):=mid_eq h
theorem search15_a (l:List Version) (t:Int) (hs:VerS l) (hl:l.length≤1000000):ACalls E 172 [.cells [.d (.sl (l.map Version.enc))],.cells [.d (.int .i64 t)]] [.d (.int .i64 l.length),.fn (.func 173) [] [.ptr 0 0,.ptr 1 0]] (fun a b=>a = .d (.int .i64 (newN l t))∧b=[.cells [.d (.sl (l.map Version.enc))],.cells [.d (.int .i64 t)]]):=by
 refine ACalls.run E_ok (fn:=Tryz.f172) Tryz.func172 (body:=Tryz.f172.body.getD .skip) rfl (by decide) 2000 rfl ?_;(conv=>whnf);refine AWL.loop (κ:=Nat × Nat) [5,6,7,9,10,11,12,13,14,15,16,17,18,19,20,21,22,23,24] (fun k=>[(5,.d (.int .i64 k.1)),(6,.d (.int .i64 k.2))]) (fun _=>[]) (fun k=>k.1≤newN l t∧newN l t≤k.2∧k.2≤l.length) (fun k=>k.2 - k.1) (0,l.length) ⟨Nat.zero_le _,newN_le,Nat.le_refl _⟩ ?_ ?_
 ·(conv=>whnf);repeat (first | exact trivial | (refine sI ?_; conv=>whnf))
 rintro ⟨i,j⟩ ⟨k1,k2,k3⟩ IH;simp only at k1 k2 k3;refine AWL.head E_ok Tryz.func172 2000 ?_;(conv=>whnf);refine caseB_split (fun h5=>?_) (fun h5=>?_)
 ·have hlt:i<j:=by simpa using h5
  obtain ⟨x,hx⟩:=some_of_lt (l:=l) (k:=(i+j) / 2) (by omega);have hmid:=mid_eq2 (i:=i) (j:=j) (by omega);have hiff:=newN_iff hs hx (t:=t);refine gO Tryz.func172 ?_;refine need_intro (by decide) ?_;refine gO Tryz.func172 ?_;rw [show IntKind.i64.wrap (shI .shr .u64 (IntKind.u64.wrap (IntKind.i64.wrap (((i,j).fst:Int)+((i,j).snd:Int)))) (Int.toNat 1))=(((i+j) / 2:Nat):Int) from hmid]
  with_reducible refine callS_eq (newest1_a l t hx) ?_
  refine gO Tryz.func172 ?_;by_cases h6:x.time≤t
  ·have:=hiff.1 h6;refine caseB_yes (by simpa using h6) ?_;refine gO Tryz.func172 ?_;refine AWL.back (IH ((i+j) / 2+1,j) ⟨by simp only; omega,k2,k3⟩ (by simp only; omega)) ?_;(conv=>whnf);repeat (first | exact trivial | (refine sI ?_; conv=>whnf))
  ·have:¬ (i+j) / 2<newN l t:=fun e=>h6 (hiff.2 e);refine caseB_no (by simpa using h6) ?_;refine gO Tryz.func172 ?_;refine AWL.back (IH (i,(i+j) / 2) ⟨k1,by simp only; omega,by simp only; omega⟩ (by simp only; omega)) ?_;(conv=>whnf);repeat (first | exact trivial | (refine sI ?_; conv=>whnf))
 ·have hge:i=newN l t:=by simp at h5; omega
  subst hge;refine gO Tryz.func172 ?_;exact ⟨rfl,rfl⟩
theorem newest_p (l:List Version) (t:Int) (hs:VerS l) (hl:l.length≤1000000):PCalls E 109 [.sl (l.map Version.enc),.int .i64 t] (· = .int .i64 ((newN l t:Int) - 1)):=by
 have hle:=newN_le (l:=l) (t:=t);have c1:=search15_a l t hs hl;have hw:IntKind.i64.wrap ((newN l t:Int) - 1)=(newN l t:Int) - 1:=wrap64 (by omega) (by omega);refine eP Tryz.func109 ?_;rw [show ((l.map Version.enc).length:Int)=(l.length:Int) by simp]
 with_reducible refine callS_eq (c1) ?_
 refine gO Tryz.func109 ?_;rw [hw]
theorem like_p (x y:Stretch):PCalls E 111 [x.enc,y.enc] (· = .bool (decide (x.ver=y.ver))):=by
 refine eP Tryz.func111 ?_
 congr 1
def strP (fin:Int) (p:Int × Nat):Stretch:=⟨p.1,fin,p.2⟩
theorem joinF_next {A:List (Int × Nat)} {k:Nat} {x:Int × Nat} (h:A[k]? = some x):joinF (A.take (k+1))=joinStep (joinF (A.take k)) x:=by rw [take_next h,joinF,List.foldl_append]; rfl
theorem joinF_len:∀ (A:List (Int × Nat)),(joinF A).length≤A.length:=by
 intro A;have main:∀ (A J:List (Int × Nat)),(A.foldl joinStep J).length≤J.length+A.length:=by
  intro A
  induction A with
  |nil=>intro J; simp
  |cons x A ih =>
   intro J;rw [List.foldl_cons];refine Nat.le_trans (ih _) ?_;have:(joinStep J x).length≤J.length+1:=by
    unfold joinStep;split
    ·simp
    ·split <;> simp
   simp;omega
 have:=main A []
 simpa [joinF] using this
theorem at_listA {l:List DV} {k:Nat} {x:DV} (h:l[k]? = some x):At1 l (k:Int) x:=⟨by omega,by simpa using h⟩
theorem join_a (A:List (Int × Nat)) (fin:Int) (hl:A.length≤1000000):ACalls E 110 [] [.d (.sl ((A.map (strP fin)).map Stretch.enc)),.fn (.func 111) [] []] (fun a b=>a = .own 0 1∧b=[.arr 1 (109,3) (((joinF A).map (strP fin)).map Stretch.enc)]):=by
 have hlen:=joinF_len A;refine ACalls.run E_ok (fn:=Tryz.f110) Tryz.func110 (body:=Tryz.f110.body.getD .skip) rfl (by decide) 2000 rfl ?_;(conv=>whnf);refine AWL.adopt 5 (109,3) (by decide) rfl ?_;(conv=>whnf);refine AWL.loop (κ:=Nat) ([5,7]++rg 10 24) (fun k=>[(10,.d (.int .i64 k)),(5,.own 0 1)]) (fun k=>[(0,.arr 1 (109,3) (((joinF (A.take k)).map (strP fin)).map Stretch.enc))]) (fun k=>k≤A.length) (fun k=>A.length - k) 0 (Nat.zero_le _) ?_ ?_
 ·(conv=>whnf);repeat (first | exact trivial | (refine sI ?_; conv=>whnf))
  refine And.intro rfl ?_;(conv=>whnf);repeat (first | exact trivial | (refine sI ?_; conv=>whnf))
 intro k hk IH;refine AWL.head E_ok Tryz.func110 2000 ?_;(conv=>whnf);refine caseB_split (fun h5=>?_) (fun h5=>?_)
 ·have hlt:k<A.length:=by simpa using h5
  obtain ⟨x,hx⟩:=some_of_lt hlt;have hxs:(A.map (strP fin))[k]? = some (strP fin x):=by rw [List.getElem?_map,hx]; rfl
  have hnx:=joinF_next hx;have hjl:=joinF_len (A.take k);have htl:(A.take k).length≤A.length:=by simp; omega
  refine gO Tryz.func110 ?_;refine elemP_at (e:=(strP fin x).enc) (at_map hxs) rfl ?_;refine gO Tryz.func110 ?_;generalize joinF (A.take k)=J at *;rcases List.eq_nil_or_concat J with rfl | ⟨P,y,rfl⟩
  ·have hj:joinStep [] x=[x]:=rfl;rw [hj] at hnx;refine AWL.draw E_ok E_mixed 15 2000 (by kernel_rfl) ?_;(conv=>whnf);refine caseB_yes (by simp) ?_;refine gD ?_;refine gS ?_;refine gO Tryz.func110 ?_;refine caseB_true ?_;refine gO Tryz.func110 ?_;refine need_intro ⟨by simp,by simp [DV.cells]⟩ ?_;refine gO Tryz.func110 ?_;refine AWL.back (IH (k+1) (by omega) (by omega)) ?_;rw [hnx];(conv=>whnf);repeat (first | exact trivial | (refine sI ?_; conv=>whnf))
   refine And.intro (by simp [strP]) ?_;(conv=>whnf);repeat (first | exact trivial | (refine sI ?_; conv=>whnf))
  ·rw [List.concat_eq_append] at *;have hj:joinStep (P++[y]) x=if y.2=x.2 then P++[y] else P++[y]++[x]:=by simp [joinStep]
   rw [hj] at hnx;have hyl:(List.map Stretch.enc (List.map (strP fin) (P++[y])))[P.length]? = some (strP fin y).enc:=by simp
   have hlen2:(List.map Stretch.enc (List.map (strP fin) (P++[y]))).length=P.length+1:=by simp
   have hwr:IntKind.i64.wrap (((List.map Stretch.enc (List.map (strP fin) (P++[y]))).length:Int) - 1)=(P.length:Int):=by rw [hlen2,wrap64 (by omega) (by simp at hjl; omega)]; omega
   refine AWL.draw E_ok E_mixed 15 2000 (by kernel_rfl) ?_;(conv=>whnf);refine caseB_no (by simp; omega) ?_;refine gD ?_;refine need_intro ⟨by rw [hwr]; omega,by rw [hwr,hlen2]; omega⟩ ?_;refine gD ?_;refine elemP_at (e:=(strP fin y).enc) (by rw [hwr]; exact at_listA hyl) rfl ?_;refine gD ?_;have c:=like_p (strP fin y) (strP fin x);by_cases hyx:y.2=x.2
   ·rw [if_pos hyx] at hnx;rw [show decide ((strP fin y).ver=(strP fin x).ver)=true by simp [strP,hyx]] at c;refine callP1_eq (c) ?_;refine gD ?_;refine gS ?_;refine gO Tryz.func110 ?_;refine caseB_false ?_;refine gO Tryz.func110 ?_;refine AWL.back (IH (k+1) (by omega) (by omega)) ?_;rw [hnx];(conv=>whnf);repeat (first | exact trivial | (refine sI ?_; conv=>whnf))
   ·rw [if_neg hyx] at hnx;rw [decide_eq_false (p:=(strP fin y).ver=(strP fin x).ver) (fun e=>hyx (by simp only [strP] at e; omega))] at c;refine callP1_eq (c) ?_;refine gD ?_;refine gS ?_;refine gO Tryz.func110 ?_;refine caseB_true ?_;refine gO Tryz.func110 ?_;refine need_intro ⟨by rw [hlen2]; simp at hjl ⊢; omega,by simp [DV.cells]⟩ ?_;refine gO Tryz.func110 ?_;refine AWL.back (IH (k+1) (by omega) (by omega)) ?_;rw [hnx];(conv=>whnf);repeat (first | exact trivial | (refine sI ?_; conv=>whnf))
    refine And.intro (by simp [strP]) ?_;(conv=>whnf);repeat (first | exact trivial | (refine sI ?_; conv=>whnf))
 ·have hge:A.length≤k:=by simpa using h5
  rw [List.take_of_length_le hge];refine gO Tryz.func110 ?_;exact ⟨rfl,rfl⟩
def fixTo (J:List (Int × Nat)) (fin:Int) (i:Nat):List Stretch:=fixU (J.take i) fin++(J.drop i).map (strP fin)
theorem fixTo_one {J:List (Int × Nat)} {fin:Int}:fixTo J fin 1=J.map (strP fin):=by
 cases J with
 |nil=>rfl
 |cons a J=>rfl
theorem fixTo_all {J:List (Int × Nat)} {fin:Int} {i:Nat} (h:J.length≤i):fixTo J fin i=fixU J fin:=by
 rw [fixTo,List.take_of_length_le h,List.drop_of_length_le h,List.map_nil,List.append_nil]
theorem fixTo_len {J:List (Int × Nat)} {fin:Int} {i:Nat}:(fixTo J fin i).length=J.length:=by
 rw [fixTo,List.length_append,fixU_len,List.length_map,← List.length_append,List.take_append_drop]
theorem fixTo_get {J:List (Int × Nat)} {fin:Int} {i:Nat} {q:Int × Nat} (h:J[i]? = some q):(fixTo J fin i)[i]? = some ⟨q.1,fin,q.2⟩:=by
 have hlt:=(List.getElem?_eq_some_iff.1 h).1;have hl:(fixU (J.take i) fin).length=i:=by rw [fixU_len,List.length_take]; omega
 rw [fixTo,List.getElem?_append_right (by omega),hl,Nat.sub_self,List.getElem?_map,List.getElem?_drop,Nat.add_zero,h];rfl
theorem take_split {J:List (Int × Nat)} {i:Nat} {p:Int × Nat} (h:J[i]? = some p):J.take (i+1)=J.take i++[p]:=take_next h
theorem fixTo_prev {J:List (Int × Nat)} {fin:Int} {i:Nat} {p:Int × Nat} (h:J[i]? = some p):(fixTo J fin (i+1))[i]? = some ⟨p.1,fin,p.2⟩:=by
 have hlt:=(List.getElem?_eq_some_iff.1 h).1;have hl:(fixU (J.take i) p.1).length=i:=by rw [fixU_len,List.length_take]; omega
 rw [fixTo,take_split h,fixU_snoc,List.append_assoc,List.getElem?_append_right (by omega),hl,Nat.sub_self];rfl
theorem fixTo_next {J:List (Int × Nat)} {fin:Int} {i:Nat} {p q:Int × Nat} (hp:J[i]? = some p) (hq:J[i+1]? = some q):(fixTo J fin (i+1)).set i ⟨p.1,q.1,p.2⟩=fixTo J fin (i+2):=by
 have hlt:=(List.getElem?_eq_some_iff.1 hp).1;have hl:(fixU (J.take i) p.1).length=i:=by rw [fixU_len,List.length_take]; omega
 have hd:J.drop (i+1)=q::J.drop (i+2):=by
  obtain ⟨h1,h2⟩:=List.getElem?_eq_some_iff.1 hq;rw [List.drop_eq_getElem_cons h1,h2]
 rw [fixTo,fixTo,take_split hq,fixU_snoc,take_split hp,fixU_snoc,fixU_snoc,hd,List.append_assoc,List.set_append_right _ _ (by omega),hl,Nat.sub_self,List.append_assoc,List.append_assoc];rfl
theorem allP_next {l:List Version} {S:List Int} {k:Nat} {t:Int} (h:S[k]? = some t):allP l (S.take (k+1))=allP l (S.take k)++if 0<newN l t then [(t,newN l t - 1)] else []:=by
 rw [take_next h,allP,List.filterMap_append]
 congr 1
 by_cases h0:0<newN l t
 ·simp [h0]
 ·simp [h0]
theorem allP_len {l:List Version} {S:List Int}:(allP l S).length≤S.length:=List.length_filterMap_le ..
theorem stretches_a (l:List Version) (T:List Int) (fin:Int) (hs:VerS l) (hl:l.length≤1000000) (hT:T≠[]) (hTl:T.length≤1000000) :
  ACalls E 53 [.arr 0 (3,1) (T.map (.int .i64))] [.d (.sl (l.map Version.enc)),.own 0 0,.d (.int .i64 fin)] (fun a b=>a = .own 2 1∧b=[.arr 0 (3,1) ((sortI T).map (.int .i64)),.gone,.arr 1 (109,3) ((strC l T fin).map Stretch.enc)]):=by
 have hjp:=join_pairs (l:=l) (T:=T);have hsl:(sortI T).length=T.length:=(sortI_perm T).length_eq;unfold strC;rw [← hjp];refine ACalls.run E_ok (fn:=Tryz.f53) Tryz.func53 (body:=Tryz.f53.body.getD .skip) rfl (by decide) 2000 rfl ?_;conv=>whnf
 with_reducible refine callS_eq (sortInt_a T hT (by omega)) ?_
 refine gO Tryz.func53 ?_;generalize sortI T=S at *;refine AWL.adopt 7 (109,3) (by decide) rfl ?_;(conv=>whnf);refine AWL.loop (κ:=Nat) ([7,9,10]++rg 16 17) (fun k=>[(16,.d (.int .i64 k)),(7,.own 1 1)]) (fun k=>[(1,.arr 1 (109,3) (((allP l (S.take k)).map (strP fin)).map Stretch.enc))]) (fun k=>k≤S.length) (fun k=>S.length - k) 0 (Nat.zero_le _) ?_ ?_
 ·(conv=>whnf);repeat (first | exact trivial | (refine sI ?_; conv=>whnf))
  refine And.intro rfl ?_;(conv=>whnf);repeat (first | exact trivial | (refine sI ?_; conv=>whnf))
 intro k hk IH;refine AWL.head E_ok Tryz.func53 2000 ?_;(conv=>whnf);refine caseB_split (fun h5=>?_) (fun h5=>?_)
 ·have hlt:k<S.length:=by simpa using h5
  obtain ⟨x,hx⟩:=some_of_lt hlt;have hnx:=allP_next (l:=l) hx;have hal:=allP_len (l:=l) (S:=S.take k);have htl:(S.take k).length≤S.length:=by simp; omega
  refine gO Tryz.func53 ?_;refine need_intro ⟨by omega,by simp; omega⟩ ?_;refine gO Tryz.func53 ?_;refine elemP_at (e := .int .i64 x) (at_map hx) rfl ?_;refine gO Tryz.func53 ?_;refine callP_eq (newest_p l x hs hl) ?_;refine gO Tryz.func53 ?_;by_cases h6:0<newN l x
  ·rw [if_pos h6] at hnx;refine caseB_yes (decide_eq_true (by omega)) ?_;refine gO Tryz.func53 ?_;refine need_intro ⟨by simp; omega,by simp [DV.cells]⟩ ?_;refine gO Tryz.func53 ?_;refine AWL.back (IH (k+1) (by omega) (by omega)) ?_;rw [hnx];(conv=>whnf);repeat (first | exact trivial | (refine sI ?_; conv=>whnf))
   refine And.intro (by simp [strP]; omega) ?_;(conv=>whnf);repeat (first | exact trivial | (refine sI ?_; conv=>whnf))
  ·rw [if_neg h6,List.append_nil] at hnx;refine caseB_no (decide_eq_false (by omega)) ?_;refine gO Tryz.func53 ?_;refine AWL.back (IH (k+1) (by omega) (by omega)) ?_;rw [hnx];(conv=>whnf);repeat (first | exact trivial | (refine sI ?_; conv=>whnf))
 ·have hge:S.length≤k:=by simpa using h5
  have hal:=allP_len (l:=l) (S:=S);rw [List.take_of_length_le hge];generalize allP l S=A at *;have hjl:=joinF_len A;clear hjp;(conv=>whnf);refine AWL.freeze 1 ?_;(conv=>whnf);refine gO Tryz.func53 ?_
  with_reducible refine callS_eq (join_a A fin (by omega)) ?_
  refine gO Tryz.func53 ?_;generalize joinF A=J at *;refine AWL.loop (κ:=Nat) ([11]++rg 35 16) (fun k=>[(11,.d (.int .i64 k)),(7,.own 2 1)]) (fun k=>[(2,.arr 1 (109,3) ((fixTo J fin k).map Stretch.enc))]) (fun k=>1≤k∧k≤max 1 J.length) (fun k=>J.length - k) 1 ⟨Nat.le_refl _,by omega⟩ ?_ ?_
  ·rw [fixTo_one];(conv=>whnf);repeat (first | exact trivial | (refine sI ?_; conv=>whnf))
  rintro i ⟨hi1,hi2⟩ IH2;refine AWL.head E_ok Tryz.func53 2000 ?_;(conv=>whnf);refine caseB_split (fun h6=>?_) (fun h6=>?_)
  ·have hlt:i<J.length:=by simpa [fixTo_len] using h6
   obtain ⟨q,hq⟩:=some_of_lt hlt;obtain ⟨i,rfl⟩:∃ j,i=j+1:=⟨i - 1,by omega⟩;obtain ⟨p,hp⟩:=some_of_lt (l:=J) (k:=i) (by omega);have g1:=fixTo_get (fin:=fin) hq;have g2:=fixTo_prev (fin:=fin) hp;have g3:=fixTo_next (fin:=fin) hp hq;have hwr:IntKind.i64.wrap (((i+1:Nat):Int) - 1)=(i:Int):=by rw [wrap64 (by omega) (by omega)]; omega
   have hfl:((fixTo J fin (i+1)).map Stretch.enc).length=J.length:=by rw [List.length_map,fixTo_len]
   refine gO Tryz.func53 ?_;refine need_intro ⟨by omega,by rw [hfl]; omega⟩ ?_;refine gO Tryz.func53 ?_;refine elemP_at (e:=Stretch.enc ⟨q.1,fin,q.2⟩) (at_map g1) rfl ?_;refine gO Tryz.func53 ?_;refine need_intro ⟨by rw [hwr]; omega,by rw [hwr,hfl]; omega⟩ ?_;refine gO Tryz.func53 ?_;refine elemP_at (e:=Stretch.enc ⟨p.1,fin,p.2⟩) (by rw [hwr]; exact at_map g2) rfl ?_;refine gO Tryz.func53 ?_;have hset:((fixTo J fin (i+1)).map Stretch.enc).set (IntKind.i64.wrap (((i+1:Nat):Int) - 1)).toNat (DV.agg [.int .i64 p.1,.int .i64 q.1,.int .i64 p.2])=(fixTo J fin (i+2)).map Stretch.enc:=by
    rw [hwr,← g3,List.map_set];rfl
   refine AWL.back (IH2 (i+2) ⟨by omega,by omega⟩ (by omega)) ?_;(conv=>whnf);repeat (first | exact trivial | (refine sI ?_; conv=>whnf))
   refine And.intro hset ?_;(conv=>whnf);repeat (first | exact trivial | (refine sI ?_; conv=>whnf))
  ·have hge:J.length≤i:=by simpa [fixTo_len] using h6
   rw [fixTo_all hge];refine gO Tryz.func53 ?_;exact ⟨rfl,rfl⟩
end Go.Proofs.YthikfaephakahaaGreatDoor.P
