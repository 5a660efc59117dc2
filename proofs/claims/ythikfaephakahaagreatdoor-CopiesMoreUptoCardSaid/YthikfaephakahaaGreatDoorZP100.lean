/- Maps of rows of numbers, by a number (package copies). No conditions. -/
import Derived.Test.YthikfaephakahaaGreatDoorZN5
import Derived.Test.YthikfaephakahaaGreatDoorZEngGG
import Derived.Test.YthikfaephakahaaGreatDoorZP94
set_option linter.unusedVariables false
set_option linter.unusedSimpArgs false
namespace Go.Proofs.YthikfaephakahaaGreatDoor.P
open Go Go.Eng
set_option maxRecDepth 100000
set_option maxHeartbeats 4000000
structure RI where
 p:Int
 l:List Int
 blk:Nat
 cap:Nat
def RI.slice (d:RI):Value := .slice (some ⟨d.blk,0,none⟩) d.l.length d.cap
def RI.ent (d:RI):DV × DV:=(.int .i64 d.p,.raw d.slice)
def RI.ghost (d:RI):Ghost := .row ⟨d.blk,d.cap,(3,1),d.l.map (.int .i64)⟩
structure RIs (T:Int→List Int) (ds:List RI):Prop where
 nodup:(ds.map (·.p)).Nodup
 each:∀ d∈ds,d.l=T d.p∧d.l≠[]
 none:∀ h,(∀ d∈ds,d.p≠h)→T h=[]
theorem RIs.nil {T:Int→List Int} (h:∀ x,T x=[]):RIs T []:=⟨by simp,fun d hd=>by simp at hd,fun x _=>h x⟩
theorem RIs.found {T U:Int→List Int} {p1 p2:List RI} {d:RI} {h x:Int} (H:RIs T (p1++d::p2)) (hp:d.p=h) (hU:∀ y,U y=if y=h then T y++[x] else T y) (blk cap:Nat):RIs U (p1++⟨h,d.l++[x],blk,cap⟩::p2):=by
 have hnd:=H.nodup;simp only [List.map_append,List.map_cons] at hnd;have hne:∀ e,e∈p1∨e∈p2→e.p≠h:=fun e he q=>by
  rw [List.nodup_append] at hnd;obtain ⟨h1,h2,h3⟩:=hnd;rw [List.nodup_cons] at h2;rcases he with he | he
  ·exact h3 e.p (List.mem_map_of_mem he) d.p (List.mem_cons_self ..) (q.trans hp.symm)
  ·exact h2.1 (List.mem_map.2 ⟨e,he,q.trans hp.symm⟩)
 have hold:∀ e,e∈p1∨e∈p2→e.l=U e.p∧e.l≠[]:=fun e he=>by
  have h1:=H.each e (by rcases he with he | he <;> simp [he]);rw [hU,if_neg (hne e he)];exact h1
 refine ⟨?_,fun e he=>?_,fun y hy=>?_⟩
 ·simp only [List.map_append,List.map_cons];rw [← hp];exact hnd
 ·rcases List.mem_append.1 he with he | he
  ·exact hold e (.inl he)
  ·rcases List.mem_cons.1 he with rfl | he
   ·have h1:=H.each d (by simp);refine ⟨?_,by simp⟩;show d.l++[x]=U h;rw [hU,if_pos rfl,h1.1,hp]
   ·exact hold e (.inr he)
 ·have hyh:h≠y:=hy ⟨h,d.l++[x],blk,cap⟩ (by simp);rw [hU,if_neg (fun e=>hyh e.symm)];refine H.none y fun e he=>?_;rcases List.mem_append.1 he with he | he
  ·exact hy e (by simp [he])
  ·rcases List.mem_cons.1 he with rfl | he
   ·rw [hp]; exact hyh
   ·exact hy e (by simp [he])
theorem RIs.new {T U:Int→List Int} {ds:List RI} {h x:Int} (H:RIs T ds) (hn:∀ d∈ds,d.p≠h) (hU:∀ y,U y=if y=h then T y++[x] else T y) (blk cap:Nat):RIs U (ds++[⟨h,[x],blk,cap⟩]):=by
 refine ⟨?_,fun e he=>?_,fun y hy=>?_⟩
 ·rw [List.map_append,List.nodup_append];refine ⟨H.nodup,by simp,fun a ha b hb q=>?_⟩;simp at hb;subst hb; subst q;obtain ⟨d,hd,q⟩:=List.mem_map.1 ha;exact hn d hd q
 ·rcases List.mem_append.1 he with he | he
  ·rw [hU,if_neg (hn e he)];exact H.each e he
  ·simp at he;subst he;refine ⟨?_,by simp⟩;show [x]=U h;rw [hU,if_pos rfl,H.none h hn];rfl
 ·have hyh:h≠y:=hy ⟨h,[x],blk,cap⟩ (by simp);rw [hU,if_neg (fun e=>hyh e.symm)];exact H.none y fun e he=>hy e (by simp [he])
theorem entI_found {ds:List RI}:∀ {i:Nat} {d:RI},ds[i]? = some d→(ds.map (·.p)).Nodup→findD (.int .i64 d.p) (ds.map RI.ent)=some (.raw d.slice)∧findI (.int .i64 d.p) (ds.map RI.ent)=some i∧putD (.int .i64 d.p) (.raw d.slice) (ds.map RI.ent)=ds.map RI.ent:=by
 induction ds with
 |nil=>intro i d h; simp at h
 |cons e ds ih =>
  intro i d h hn;simp only [List.map_cons,List.nodup_cons] at hn;cases i with
  |zero =>
   simp at h;subst h;simp [findD,findI,putD,RI.ent,keyEq_num]
  |succ i =>
   have h':ds[i]? = some d:=by simpa using h
   have hne:¬ d.p=e.p:=fun q=>hn.1 (List.mem_map.2 ⟨d,List.mem_of_getElem? h',q⟩);obtain ⟨h1,h2,h3⟩:=ih h' hn.2;simp only [List.map_cons,findD,findI,putD,RI.ent,keyEq_num,hne,decide_false,Bool.false_eq_true,if_false];exact ⟨h1,by rw [h2]; rfl,by rw [h3]⟩
theorem entI_none {p:Int} {v:DV}:∀ {ds:List RI},(∀ d∈ds,d.p≠p)→findD (.int .i64 p) (ds.map RI.ent)=none∧findI (.int .i64 p) (ds.map RI.ent)=none∧putD (.int .i64 p) v (ds.map RI.ent)=ds.map RI.ent++[(.int .i64 p,v)]
 | [],_=>by simp [findD,findI,putD]
 |e::ds,h=>by
  have hne:¬ p=e.p:=fun q=>h e (List.mem_cons_self ..) q.symm;obtain ⟨h1,h2,h3⟩:=entI_none (ds:=ds) (v:=v) fun d hd=>h d (List.mem_cons_of_mem _ hd);simp only [List.map_cons,findD,findI,putD,RI.ent,keyEq_num,hne,decide_false,Bool.false_eq_true,if_false];exact ⟨h1,by rw [h2]; rfl,by rw [h3]; rfl⟩
theorem entI_put {h:Int} {v:DV} {d:RI}:∀ {p1 p2:List RI},((p1++d::p2).map (·.p)).Nodup→d.p=h→putD (.int .i64 h) v ((p1++d::p2).map RI.ent)=p1.map RI.ent++(.int .i64 h,v)::p2.map RI.ent
 | [],p2,_,hp=>by
  subst hp;simp [putD,RI.ent,keyEq_num]
 |e::p1,p2,hn,hp=>by
  simp only [List.cons_append,List.map_cons,List.nodup_cons] at hn;have hne:¬ h=e.p:=fun q=>hn.1 (List.mem_map.2 ⟨d,by simp,hp.trans q⟩);have ih:=entI_put (v:=v) hn.2 hp;simp only [List.cons_append,List.map_cons,putD,RI.ent,keyEq_num,hne,decide_false,Bool.false_eq_true,if_false];exact congrArg _ ih
theorem keysI {ds:List RI}:∀ p∈ds.map RI.ent,∃ n,p.1=DV.int .i64 n:=fun p hp=>by
 obtain ⟨d,-,rfl⟩:=List.mem_map.1 hp;exact ⟨_,rfl⟩
end Go.Proofs.YthikfaephakahaaGreatDoor.P
