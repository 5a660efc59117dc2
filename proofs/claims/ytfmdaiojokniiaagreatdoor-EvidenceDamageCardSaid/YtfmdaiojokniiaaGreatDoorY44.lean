/- Several texts of mine, one behind the other. Conditions: as each says. -/
import Derived.Test.YtfmdaiojokniiaaGreatDoorY40
set_option linter.unusedVariables false
set_option linter.unusedSimpArgs false
section
namespace Go.ax
open Go Go.RowKit
section
variable {E:Env} {s:List AV} {h:List ae}
def Km (E:Env) (s:List AV) (h:List ae) (o:Oper) (k:List AV→List ae→Prop):Prop:=match o.op with
 | .insert t m x v=>aO E.T t False fun ti=>match ti.k with
  | .map kt _=>bS E.G s m False fun
   | .map b=>aO h b False fun
    | .map es=>bS E.G s x False fun
     | .d y=>bS E.G s v False fun
      | .d z=>tz E kt False fun kd=>need (cW E.T kd y∧∀ p∈es,cW E.T kd p.1) (fk h b (.map (bM y z es)) fun h'=>cb s o.dst (.d .undef) fun s'=>k s' h')
      |_=>False
     |_=>False
    |_=>False
   |_=>False
  |_=>False
 |_=>False
theorem I.insert (hE:E.OK) {ag:FuncId} {R:cx} {ops:Array Oper} {td:List aP} {lits:List Nat} {o:Oper} {r:List Oper} (hg:o.guard=none)
  (H:Km E s h o fun s' h'=>I E ag R lits (.bo ops r::td) s' h'):I E ag R lits (.bo ops (o::r)::td) s h:=by
 unfold Km at H;split at H
 case h_2=>exact H.elim
 rename_i t m x v b9;rcases a8 H with H | ⟨ti,bO,H⟩
 ·exact H.elim
 split at H
 case h_2=>exact H.elim
 rename_i kt e hk;rcases bW H with H | ⟨a,ha,H⟩
 ·exact H.elim
 split at H
 case h_2=>exact H.elim
 rename_i b;rcases a8 H with H | ⟨bx,hb,H⟩
 ·exact H.elim
 split at H
 case h_2=>exact H.elim
 rename_i es;rcases bW H with H | ⟨y,hy,H⟩
 ·exact H.elim
 split at H
 case h_2=>exact H.elim
 rename_i y;rcases bW H with H | ⟨z,hz,H⟩
 ·exact H.elim
 split at H
 case h_2=>exact H.elim
 rename_i z;rcases yA H with H | ⟨kd,hT,H⟩
 ·exact H.elim
 obtain ⟨⟨f1,f2⟩,H⟩:=kP H;rw [fQ,dN] at H;exact .of (.op (fR hg) (FU hE (.inr b9) bO hk hT hb ha hy hz f1 f2) H.to)
end
end Go.ax
end
section
namespace Go.Proofs.YtfmdaiojokniiaaGreatDoor.P
open Go Go.ax
set_option maxRecDepth 100000
set_option maxHeartbeats 4000000
theorem U6 (z:aR) (q:bw):(oa z q).kind≠0∧(oa z q).kind≠7:=by
 unfold oa;repeat' split
 all_goals simp
theorem U7 {z:aR} {q:bw} (h:(nb z q).kind=0∨(nb z q).kind=7):(nb z q).ab=[]:=by
 have hk:=U6 z q
 revert h
 unfold nb qC;repeat' split
 all_goals first | (intro h; rcases h with h | h <;> first | exact absurd h hk.1 | exact absurd h hk.2) | (intro h; rfl) | (intro h; simp at h)
theorem U9 {a:dP} (h:a.kind=0∨a.kind=7→a.ab=[]):norm (EK a)=a.enc:=by
 unfold EK;by_cases e:a.kind=0∨a.kind=7
 ·rw [if_pos e];simp [norm,rQ,dP.enc,h e]
 ·rw [if_neg e];rfl
theorem U' (z:aR) (q:bw) (hf:z.Fits) (hn:q.name.length≤maxLen):aq E 88 [z.enc,q.enc] (· = .aF [(nb z q).enc,.int .i64 (pr z q)]):=by
 refine aq.norm ?_;refine (U4 z q hf hn).mono fun r h=>?_;subst h;have:=U9 (U7 (z:=z) (q:=q));simp only [norm,rQ,this]
end Go.Proofs.YtfmdaiojokniiaaGreatDoor.P
end
